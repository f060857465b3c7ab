/-
  How lists of texts, of numbers are written as lists that stand.
-/
import Derived.Test.YtppnicpbncfhnaaHe
set_option linter.unusedSimpArgs false
set_option linter.unusedVariables false
namespace Go.Eng
open Go Go.RowKit
def strE (s : ByteArray) : List FV := [.v (.string s)]
def strs (a : List ByteArray) : List (List FV) := a.map strE
def intE (n : Int) : List FV := [.v (.int .i64 n)]
def ints (a : List Int) : List (List FV) := a.map intE
def int2E (r : Int × Int) : List FV := [.v (.int .i64 r.1), .v (.int .i64 r.2)]
def int2s (a : List (Int × Int)) : List (List FV) := a.map int2E
theorem strE_eq (s : ByteArray) : strE s = [.v (.string s)] := nr rfl
theorem intE_eq (s : Int) : intE s = [.v (.int .i64 s)] := nr rfl
theorem int2E_eq (s : Int × Int) : int2E s = [.v (.int .i64 s.1), .v (.int .i64 s.2)] := nr rfl
theorem strs_len (a : List ByteArray) : (strs a).length = a.length := by simp [strs]
theorem ints_len (a : List Int) : (ints a).length = a.length := by simp [ints]
theorem int2s_len (a : List (Int × Int)) : (int2s a).length = a.length := by simp [int2s]
theorem strs_wid (a : List ByteArray) : Wid 1 (strs a) = True := eq_true (wid_map a fun _ => rfl)
theorem ints_wid (a : List Int) : Wid 1 (ints a) = True := eq_true (wid_map a fun _ => rfl)
theorem int2s_wid (a : List (Int × Int)) : Wid 2 (int2s a) = True := eq_true (wid_map a fun _ => rfl)
theorem strs_get {a : List ByteArray} {i : Nat} {d : List FV} (h : i < a.length) : (strs a).getD i d = [.v (.string a[i])] := by unfold strs; rw [getD_map h]; rfl
theorem ints_get {a : List Int} {i : Nat} {d : List FV} (h : i < a.length) : (ints a).getD i d = [.v (.int .i64 a[i])] := by unfold ints; rw [getD_map h]; rfl
theorem int2s_get {a : List (Int × Int)} {i : Nat} {d : List FV} (h : i < a.length) : (int2s a).getD i d = [.v (.int .i64 a[i].1), .v (.int .i64 a[i].2)] := by unfold int2s; rw [getD_map h]; rfl
theorem strs_old (a : List ByteArray) : olds (strs a) = strs a := by
  unfold olds strs; rw [List.map_map]; apply List.map_congr_left; intro s _; simp [strE, FV.old]
theorem ints_old (a : List Int) : olds (ints a) = ints a := by
  unfold olds ints; rw [List.map_map]; apply List.map_congr_left; intro s _; simp [intE, FV.old]
theorem int2s_old (a : List (Int × Int)) : olds (int2s a) = int2s a := by
  unfold olds int2s; rw [List.map_map]; apply List.map_congr_left; intro s _; simp [int2E, FV.old]
theorem strs_fresh (a : List ByteArray) : ∀ x ∈ strs a, ∀ f ∈ x, FreshF f := fun x hx f hf => by
  obtain ⟨s, -, rfl⟩ := List.mem_map.1 hx; simp [strE] at hf; subst hf; exact .v _
theorem ints_fresh (a : List Int) : ∀ x ∈ ints a, ∀ f ∈ x, FreshF f := fun x hx f hf => by
  obtain ⟨s, -, rfl⟩ := List.mem_map.1 hx; simp [intE] at hf; subst hf; exact .v _
theorem int2s_fresh (a : List (Int × Int)) : ∀ x ∈ int2s a, ∀ f ∈ x, FreshF f := fun x hx f hf => by
  obtain ⟨s, -, rfl⟩ := List.mem_map.1 hx; simp [int2E] at hf; rcases hf with rfl | rfl <;> exact .v _
theorem strs_snoc (a : List ByteArray) (s : ByteArray) : strs a ++ [[.v (.string s)]] = strs (a ++ [s]) := by simp [strs, strE]
theorem ints_snoc (a : List Int) (s : Int) : ints a ++ [[.v (.int .i64 s)]] = ints (a ++ [s]) := by simp [ints, intE]
theorem int2s_snoc (a : List (Int × Int)) (x y : Int) : int2s a ++ [[.v (.int .i64 x), .v (.int .i64 y)]] = int2s (a ++ [(x, y)]) := by simp [int2s, int2E]
theorem strs_app (a b : List ByteArray) : strs a ++ strs b = strs (a ++ b) := by simp [strs]
theorem strs_take (a : List ByteArray) (n : Nat) : (strs a).take n = strs (a.take n) := by simp [strs, List.map_take]
theorem strs_drop (a : List ByteArray) (n : Nat) : (strs a).drop n = strs (a.drop n) := by simp [strs, List.map_drop]
/-- a nil slice as a row of one's own, without elements -/
theorem HW_own {P : Program} {N : Nat} {x : Code} {Q : HPost} {S : HS} (k id ty sz : Nat) (hk : hlk S.env k = some (.v (.slice none 0 0))) (h : HW P N x Q (((S.kill (only id)).row id (.sl true ty sz [])).rep k (.own id))) : HW P N x Q S := fun c l w I => by
  refine h c l w ?_
  obtain ⟨ρ, xs, G⟩ := I
  have G2 := G.new id (.sl true ty sz []) [] (.slice none 0 0) (w' := w) (Below.refl _ _) (fun b hb => by cases hb) (fun _ _ =>
    ⟨by rw [setR_self]; exact World.ownsRow_nil w 0 ty sz, ⟨by simp, fun i k hi => absurd hi (by simp)⟩, fun b hb => by rw [setR_self] at hb; cases hb⟩)
  refine ⟨_, _, G2.rows, G2.apart, fun j y hj => ?_, G2.kept, G2.a0⟩
  simp only [HS.rep, hlk_hrep] at hj
  by_cases e : j = k
  · subst e
    rw [if_pos rfl] at hj
    have h1 : hlk ((S.kill (only id)).row id (.sl true ty sz [])).env j = some (.v (.slice none 0 0)) := by
      show hlk (ekill (only id) S.env) j = _
      rw [hlk_ekill, hk]; simp [HV.kill]
    rw [h1] at hj
    simp only [Option.map_some, Option.some.injEq] at hj
    subst hj
    obtain ⟨v, a, b⟩ := G2.env j _ h1
    have := repH_v b
    subst this
    refine ⟨_, a, ?_⟩
    have := RepH.own (w := w) (A := c.A (setR ρ id (.slice none 0 0)) (((S.kill (only id)).row id (.sl true ty sz [])).rep j (.own id)).st) (n0 := c.n0) (ρ := setR ρ id (.slice none 0 0)) id (by rw [setR_self]; rfl)
    rw [setR_self] at this
    exact this
  · rw [if_neg e] at hj
    exact G2.env j y hj
/-- from what is known of a function below: one plain value, nothing turned -/
theorem hfun_low {P : Program} {f : FuncId} {args : List HV} {x : Value} (h : ∀ (w : World) (vs : List Value), Reps w (fun _ => False) w.heap.size (fun _ => undef) vs args → Calls P f vs.toArray w (Ret fun r w' => r = x ∧ Below w.heap.size w w')) : HFun P f args (fun h st => h = .v x ∧ st = []) := fun w vs R =>
  Ret.mono (h w vs R) fun v w' ⟨hv, B⟩ => ⟨B, .v x, [], fun i r hi => by simp [rlk] at hi, ⟨rfl, rfl⟩, fun _ => undef, fun _ => [], ⟨fun id r hr => by simp [rlk] at hr, fun i j r s b hne hi => by simp [rlk] at hi, fun k x hk => by simp [hlk] at hk, ⟨B.os, B.tape, B.output, B.size, fun b hlt _ => B.block b hlt⟩, fun b hb => ⟨hb, fun h => h⟩⟩, by rw [hv]; exact .v x⟩
theorem lendL {st : Store} {fr : Bool} {xs ys : List (List FV)} (h : olds xs = ys) : Lend st (.lst fr xs) (.lst false ys) := h ▸ .lst fr xs
theorem lendO {st : Store} {id ty sz : Nat} {nw : Bool} {els ys : List (List FV)} (h : olds els = ys) (hr : rlk st id = some (.sl nw ty sz els)) : Lend st (.own id) (.lst false ys) := h ▸ .own hr
theorem lendV {st : Store} {id ty sz off n : Nat} {nw : Bool} {els ys : List (List FV)} (h : olds ((els.drop off).take n) = ys) (hr : rlk st id = some (.sl nw ty sz els)) : Lend st (.vw id sz off n) (.lst false ys) := h ▸ .vw hr
section
variable {S : HS} {Q : HV → Store → Prop}
theorem hres_v {a : Value} (q : Q (.v a) []) : HRes S (.v a) Q := ⟨[], by simp, rfl, .v _, fun id h => by simp at h, by rw [HV.ren]; exact q⟩
theorem hres_vv {a b : Value} (q : Q (.tup [.v a, .v b]) []) : HRes S (.tup [.v a, .v b]) Q :=
  ⟨[], by simp, rfl, .tup fun x hx => by simp at hx; rcases hx with rfl | rfl <;> exact .v _, fun id h => by simp at h, by rw [HV.ren]; simp only [List.map_cons, List.map_nil, HV.ren]; exact q⟩
theorem hres_vvv {a b c : Value} (q : Q (.tup [.v a, .v b, .v c]) []) : HRes S (.tup [.v a, .v b, .v c]) Q :=
  ⟨[], by simp, rfl, .tup fun x hx => by simp at hx; rcases hx with rfl | rfl | rfl <;> exact .v _, fun id h => by simp at h, by rw [HV.ren]; simp only [List.map_cons, List.map_nil, HV.ren]; exact q⟩
theorem hres_o {id ty sz : Nat} {els : List (List FV)} (hr : rlk S.st id = some (.sl true ty sz els)) (hf : ∀ x ∈ els, ∀ f ∈ x, FreshF f) (q : Q (.own 0) [(0, .sl true ty sz els)]) : HRes S (.own id) Q :=
  ⟨[id], by simp, by simp [dup], .own _, fun i h r hr' => by
    simp at h; subst h; rw [hr] at hr'; simp only [Option.some.injEq] at hr'; subst hr'; exact ⟨rfl, hf⟩, by
    rw [HV.ren]; simp only [pos, if_true, rpick, hr, Row.ren]; exact q⟩
theorem hres_ov {id ty sz : Nat} {els : List (List FV)} {b : Value} (hr : rlk S.st id = some (.sl true ty sz els)) (hf : ∀ x ∈ els, ∀ f ∈ x, FreshF f) (q : Q (.tup [.own 0, .v b]) [(0, .sl true ty sz els)]) : HRes S (.tup [.own id, .v b]) Q :=
  ⟨[id], by simp, by simp [dup], .tup fun x hx => by simp at hx; rcases hx with rfl | rfl <;> first | exact .v _ | exact .own _, fun i h r hr' => by
    simp at h; subst h; rw [hr] at hr'; simp only [Option.some.injEq] at hr'; subst hr'; exact ⟨rfl, hf⟩, by
    rw [HV.ren]; simp only [List.map_cons, List.map_nil, HV.ren, pos, if_true, rpick, hr, Row.ren]; exact q⟩
theorem hres_ovv {id ty sz : Nat} {els : List (List FV)} {b c : Value} (hr : rlk S.st id = some (.sl true ty sz els)) (hf : ∀ x ∈ els, ∀ f ∈ x, FreshF f) (q : Q (.tup [.own 0, .v b, .v c]) [(0, .sl true ty sz els)]) : HRes S (.tup [.own id, .v b, .v c]) Q :=
  ⟨[id], by simp, by simp [dup], .tup fun x hx => by simp at hx; rcases hx with rfl | rfl | rfl <;> first | exact .v _ | exact .own _, fun i h r hr' => by
    simp at h; subst h; rw [hr] at hr'; simp only [Option.some.injEq] at hr'; subst hr'; exact ⟨rfl, hf⟩, by
    rw [HV.ren]; simp only [List.map_cons, List.map_nil, HV.ren, pos, if_true, rpick, hr, Row.ren]; exact q⟩
end
/-- what a row of one's own, made below, is above -/
theorem res_own {P : Program} {w w' : World} {ty sz : Nat} {els : List (List FV)} {v : Value} {l : List Value} (B : Below w.heap.size w w') (h : Own w' w.heap.size ty sz v els.length l) (hw : ∀ x ∈ els, x.length = sz)
    (hl : ∀ i k (hi : i < els.length) (hk : k < els[i].length), ∃ u, l[i * sz + k]? = some u ∧ u.oneCell' = true ∧ els[i][k] = .v u) :
    ∃ ρ xs, Good (cx w (fun _ => False) (fun b => b < w.heap.size)) ⟨[], [(0, .sl true ty sz els)]⟩ (fun _ => none) w' ρ xs ∧ ρ 0 = v := by
  refine ⟨fun _ => v, fun _ => l, ⟨fun id r hr => ?_, fun i j r s b hne hi hj => ?_, fun k x hk => by simp [hlk] at hk, ⟨B.os, B.tape, B.output, B.size, fun b hlt _ => B.block b hlt⟩, fun b hb => ⟨hb, fun h => h⟩⟩, rfl⟩
  · simp only [rlk] at hr
    split at hr
    · simp only [Option.some.injEq] at hr
      subst hr
      refine ⟨⟨h.1, h.2.imp _root_.id fun ⟨g, cap, cur, a, b, d⟩ => ⟨g, cap, cur, a, Nat.zero_le _, d⟩⟩, ⟨hw, fun i k hi hk => ?_⟩, fun b hb => ⟨.inl (h.lt b hb).1, fun _ => (h.lt b hb).1⟩⟩
      obtain ⟨u, a, b, e⟩ := hl i k hi hk
      exact ⟨u, a, b, by rw [e]; exact .v u⟩
    · cases hr
  · simp only [rlk] at hi hj
    split at hi
    · split at hj
      · omega
      · cases hj
    · cases hi
end Go.Eng
