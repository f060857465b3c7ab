/-
  Regions that draw their order, with stores among the heads: cells of variables and of rows, each stored once and looked at by no other head.
-/
import Derived.Test.YtfojmpimnidmkaaGc
import Derived.Test.YtfojmpimnidmkaaRdd
set_option linter.unusedSimpArgs false
set_option linter.unusedVariables false
namespace Go.Eng
open Go Go.RowKit
def rset : Row → Nat → Nat → HV → Row
 | .sl n t s xs, _, _, _ => .sl n t s xs
 | .bx n t cs, _, k, h => .bx n t (cs.set k h)
 | .hl n t s els, i, k, h => .hl n t s (els.set i ((els.getD i []).set k h))
def inB : Row → Nat → Nat → Nat → Prop
 | .sl _ _ _ _, _, _, _ => False
 | .bx _ _ cs, _, i, k => i = 0 ∧ k < cs.length
 | .hl _ _ s els, sz, i, k => sz = s ∧ i < els.length ∧ k < (els.getD i []).length
theorem rset_facts (r : Row) (i k : Nat) (h : HV) : (rset r i k h).ty = r.ty ∧ (rset r i k h).sz = r.sz ∧ (rset r i k h).len = r.len ∧ (rset r i k h).nw = r.nw := by cases r <;> simp [rset, Row.ty, Row.sz, Row.len, Row.nw]
theorem inB_rset {r : Row} {sz i k i' k' : Nat} {h : HV} : inB (rset r i' k' h) sz i k ↔ inB r sz i k := by
 cases r with
 | sl => exact Iff.rfl
 | bx n t cs => simp [rset, inB]
 | hl n t s els =>
  simp only [rset, inB, List.length_set]
  have : ∀ (x : List HV), i < els.length → ((els.set i' x).getD i []).length = if i = i' then x.length else (els.getD i []).length := fun x hi => by
   rw [List.getD_eq_getElem?_getD, List.getElem?_set]
   by_cases e : i' = i
   ·subst e; simp [hi]
   ·rw [if_neg e, if_neg (by omega), List.getD_eq_getElem?_getD]
  constructor
  ·rintro ⟨a, b, d⟩
   rw [this _ b] at d
   refine ⟨a, b, ?_⟩
   by_cases e : i = i'
   ·subst e; simpa using d
   ·rw [if_neg e] at d; exact d
  ·rintro ⟨a, b, d⟩
   refine ⟨a, b, ?_⟩
   rw [this _ b]
   by_cases e : i = i'
   ·subst e; simpa using d
   ·rw [if_neg e]; exact d
section
variable {P : Program} {N : Nat} {c : Ctx} {E : HEnv} {st : Store} {look : Nat → Option Value} {w w' : World} {ρ : Nat → Value} {xs : Nat → List Value} {id i k sz g n cp : Nat} {r : Row} {u v : Value} {h : HV}
theorem rlk_ne {st : Store} {id : Nat} {r r' : Row} (hr : rlk st id = some r) : ∀ j, (∃ s, rlk (sset id r' st) j = some s) → ∃ s, rlk st j = some s := fun j ⟨s, hs⟩ => by
 rw [rlk_sset id r' st r hr] at hs
 by_cases e : j = id
 ·subst e; exact ⟨r, hr⟩
 ·rw [if_neg e] at hs; exact ⟨s, hs⟩
theorem A_sset (hr : rlk st id = some r) (r' : Row) (b : Nat) : c.A ρ (sset id r' st) b → c.A ρ st b := by
 rintro (h0 | ⟨j, s, hj, hb⟩)
 ·exact .inl h0
 ·obtain ⟨s0, h0⟩ := rlk_ne hr j ⟨s, hj⟩
  exact .inr ⟨j, s0, h0, hb⟩
theorem Good.re (G : Good c ⟨E, st⟩ look w ρ xs) (hr : rlk st id = some r) (r' : Row) (e1 : r'.ty = r.ty) (e2 : r'.sz = r.sz) (e3 : r'.len = r.len) (e4 : r'.nw = r.nw)
  (hrow : (∀ v x, RepH w (c.A ρ st) c.n0 ρ v x → RepH w (c.A ρ (sset id r' st)) c.n0 ρ v x) → RowOk w (c.A ρ (sset id r' st)) c ρ id r' (xs id)) : ∃ xs', Good c ⟨E, sset id r' st⟩ look w ρ xs' :=
 ⟨_, G.upd id r r' (xs id) rfl rfl rfl rfl hr e4 (fun _ _ => rfl) _ (rlk_sset id r' st r hr) fun tr _ => hrow tr⟩
theorem Good.dark (G : Good c ⟨E, st⟩ look w ρ xs) (hr : rlk st id = some r) (i k : Nat) : ∃ xs', Good c ⟨E, sset id (rset r i k .junk) st⟩ look w ρ xs' := by
 obtain ⟨f1, f2, f3, f4⟩ := rset_facts r i k .junk
 refine G.re hr _ f1 f2 f3 f4 fun tr => ?_
 have R := G.rows id r hr
 refine ⟨by rw [f1, f2, f3]; exact R.own, ?_, fun b hb => by rw [f4]; exact R.new b hb⟩
 have rp := R.rep
 cases r with
 | sl nw ty s els =>
  refine ⟨rp.1, fun p q hp hq => ?_⟩
  obtain ⟨y, y1, y2, y3⟩ := rp.2 p q hp hq
  exact ⟨y, y1, y2, y3.up (Nat.le_refl _) (fun _ _ _ => rfl) (fun b _ => A_sset hr _ b) (Nat.le_refl _)⟩
 | bx nw ty cs =>
  refine ⟨rp.1, fun q hq => ?_⟩
  rw [List.length_set] at hq
  obtain ⟨y, y1, y2, y3⟩ := rp.2 q hq
  refine ⟨y, y1, y2, ?_⟩
  rw [List.getElem_set]
  split
  ·exact .junk _
  ·exact tr _ _ y3
 | hl nw ty s els =>
  refine ⟨fun y hy => ?_, fun p q hp hq => ?_⟩
  ·rcases List.mem_or_eq_of_mem_set hy with h | rfl
   ·exact rp.1 y h
   ·rw [List.length_set]
    by_cases hi : i < els.length
    ·rw [getD_lt hi]; exact rp.1 _ (List.getElem_mem hi)
    ·rw [List.set_eq_of_length_le (by omega)] at hy
     rw [List.getD_eq_getElem?_getD, List.getElem?_eq_none (by omega)] at hy ⊢
     simp only [Option.getD_none, List.set_nil] at hy ⊢
     exact rp.1 _ hy
  ·simp only [List.length_set] at hp
   by_cases e : i = p
   ·subst e
    simp only [List.getElem_set_self] at hq ⊢
    rw [List.length_set, getD_lt hp] at hq
    obtain ⟨y, y1, y2, y3⟩ := rp.2 i q hp hq
    refine ⟨y, y1, y2, ?_⟩
    rw [List.getElem_set]
    split
    ·exact .junk _
    ·simp only [getD_lt hp]; exact tr _ _ y3
   ·simp only [List.getElem_set_ne e] at hq ⊢
    obtain ⟨y, y1, y2, y3⟩ := rp.2 p q hp hq
    exact ⟨y, y1, y2, tr _ _ y3⟩
theorem flat_lt (hb : inB r sz i k) (hw : ∀ x, (match r with | .hl _ _ s els => ∀ y ∈ els, y.length = s | _ => True) = x → x) : i * sz + k < r.len * r.sz := by
 cases r with
 | sl => exact hb.elim
 | bx n t cs =>
  obtain ⟨rfl, h⟩ := hb
  simp only [Row.len, Row.sz]; omega
 | hl n t s els =>
  obtain ⟨rfl, h1, h2⟩ := hb
  have := hw _ rfl
  rw [getD_lt h1, this _ (List.getElem_mem h1)] at h2
  exact pos_lt h1 h2
theorem RowOk.flat {A : Nat → Prop} {l : List Value} (R : RowOk w A c ρ id r l) (hb : inB r sz i k) : i * sz + k < r.len * r.sz := by
 refine flat_lt hb fun x hx => ?_
 subst hx
 have rp := R.rep
 cases r with
 | sl => trivial
 | bx => trivial
 | hl nw ty s els => exact rp.1
theorem Good.fill (G : Good c ⟨E, st⟩ look w ρ xs) (hr : rlk st id = some r) (hb : inB r sz i k) (hg : ρ id = .slice (some ⟨g, 0, none⟩) n cp) (hc : w.cell? ⟨g, i * sz + k, none⟩ = some v) (hv : RepH w (c.A ρ st) c.n0 ρ v h) (h1 : v.oneCell' = true) :
  ∃ xs', Good c ⟨E, sset id (rset r i k h) st⟩ look w ρ xs' := by
 obtain ⟨f1, f2, f3, f4⟩ := rset_facts r i k h
 refine G.re hr _ f1 f2 f3 f4 fun tr => ?_
 have R := G.rows id r hr
 have hlt := R.flat hb
 have hx : (xs id)[i * sz + k]? = some v := by
  have hl := R.own.1
  have := R.own.rd g (by rw [hg]; rfl) (i * sz + k) _ (List.getElem?_eq_getElem (by omega))
  rw [hc] at this
  rw [List.getElem?_eq_getElem (by omega), ← Option.some.inj this]
 refine ⟨by rw [f1, f2, f3]; exact R.own, ?_, fun b hb => by rw [f4]; exact R.new b hb⟩
 have rp := R.rep
 cases r with
 | sl => exact hb.elim
 | bx nw ty cs =>
  obtain ⟨rfl, hk⟩ := hb
  rw [Nat.zero_mul, Nat.zero_add] at hx
  refine ⟨rp.1, fun q hq => ?_⟩
  rw [List.length_set] at hq
  rw [List.getElem_set]
  split
  ·rename_i e; subst e; exact ⟨v, hx, h1, tr _ _ hv⟩
  ·obtain ⟨y, y1, y2, y3⟩ := rp.2 q hq
   exact ⟨y, y1, y2, tr _ _ y3⟩
 | hl nw ty s els =>
  obtain ⟨rfl, hi, hk⟩ := hb
  rw [getD_lt hi] at hk
  refine ⟨fun y hy => ?_, fun p q hp hq => ?_⟩
  ·rcases List.mem_or_eq_of_mem_set hy with h | rfl
   ·exact rp.1 y h
   ·rw [List.length_set, getD_lt hi]; exact rp.1 _ (List.getElem_mem hi)
  ·simp only [List.length_set] at hp
   by_cases e : i = p
   ·subst e
    simp only [List.getElem_set_self] at hq ⊢
    rw [List.length_set, getD_lt hp] at hq
    rw [List.getElem_set]
    split
    ·rename_i e; subst e; exact ⟨v, hx, h1, tr _ _ hv⟩
    ·obtain ⟨y, y1, y2, y3⟩ := rp.2 i q hp hq
     simp only [getD_lt hp]
     exact ⟨y, y1, y2, tr _ _ y3⟩
   ·simp only [List.getElem_set_ne e] at hq ⊢
    obtain ⟨y, y1, y2, y3⟩ := rp.2 p q hp hq
    exact ⟨y, y1, y2, tr _ _ y3⟩
theorem store_at {t : TypeId} (G : Good c ⟨E, st⟩ look w ρ xs) (hr : rlk st id = some r) (hb : inB r sz i k) (hg : ρ id = .slice (some ⟨g, 0, none⟩) n cp) (h1 : u.oneCell' = true) (hk : kindT P t = some none) (hj : rset r i k .junk = r) :
  ∃ w', (storeVar t ⟨g, i * sz + k, none⟩ u).run P w = .ok () w' ∧ Only g w w' ∧ (∀ q, q ≠ i * sz + k → q < r.len * r.sz → w'.cell? ⟨g, q, none⟩ = w.cell? ⟨g, q, none⟩) ∧ w'.cell? ⟨g, i * sz + k, none⟩ = some u ∧ ∃ xs', Good c ⟨E, st⟩ look w' ρ xs' := by
 have R := G.rows id r hr
 have hlt := R.flat hb
 have o1 := R.own
 have hl := o1.1
 have hn : n = r.len := by obtain ⟨a, q, e⟩ := own_shape o1; rw [hg] at e; cases e; rfl
 subst hn
 rw [hg] at o1
 obtain ⟨w', s1, s2, s3⟩ := own_store (P := P) (ty := t) (i := i * sz + k) (u := u) o1 hk h1 hlt
 have d1 := s2.rd g rfl
 have d0 := o1.rd g rfl
 refine ⟨w', s1, s3, fun q hq hq2 => ?_, d1 _ u (by rw [List.getElem?_set_self (by omega)]), ?_⟩
 ·have e0 : (xs id)[q]? = some ((xs id)[q]'(by omega)) := List.getElem?_eq_getElem _
  rw [d0 q _ e0, d1 q ((xs id)[q]'(by omega)) (by rw [List.getElem?_set_ne (by omega)]; exact e0)]
 ·refine ⟨_, G.upd id r r ((xs id).set (i * sz + k) u) s3.size.symm s3.os s3.tape s3.output hr rfl (fun b hb' => s3.block b fun e => hb' (by rw [hg, e]; rfl)) st (fun j => ?_) fun tr trF => ⟨by rw [hg]; exact s2, ?_, R.new⟩⟩
  ·by_cases e : j = id
   ·subst e; rw [if_pos rfl]; exact hr
   ·rw [if_neg e]
  ·have rp := R.rep
   have get : ∀ q y, q ≠ i * sz + k → (xs id)[q]? = some y → ((xs id).set (i * sz + k) u)[q]? = some y := fun q y hq hy => by rw [List.getElem?_set_ne (by omega)]; exact hy
   have here : ((xs id).set (i * sz + k) u)[i * sz + k]? = some u := by rw [List.getElem?_set_self (by omega)]
   cases r with
   | sl => exact hb.elim
   | bx nw ty cs =>
    obtain ⟨rfl, hk'⟩ := hb
    simp only [rset, Row.bx.injEq, true_and] at hj
    rw [Nat.zero_mul, Nat.zero_add] at get here
    refine ⟨rp.1, fun q hq => ?_⟩
    by_cases e : q = k
    ·subst e
     have : cs[q] = .junk := by
      have := congrArg (fun l : List HV => l[q]?) hj
      simp only [List.getElem?_set_self hk', List.getElem?_eq_getElem hk'] at this
      exact (Option.some.inj this).symm
     rw [this]
     exact ⟨u, by rw [Nat.zero_mul, Nat.zero_add]; exact here, h1, .junk _⟩
    ·obtain ⟨y, y1, y2, y3⟩ := rp.2 q hq
     exact ⟨y, by rw [Nat.zero_mul, Nat.zero_add]; exact get q y e y1, y2, tr _ _ y3⟩
   | hl nw ty s els =>
    obtain ⟨rfl, hi, hk'⟩ := hb
    rw [getD_lt hi] at hk'
    simp only [rset, Row.hl.injEq, true_and, getD_lt hi] at hj
    refine ⟨rp.1, fun p q hp hq => ?_⟩
    by_cases e : p = i ∧ q = k
    ·obtain ⟨rfl, rfl⟩ := e
     have : els[p][q] = .junk := by
      have := congrArg (fun l : List (List HV) => l[p]?) hj
      simp only [List.getElem?_set_self hp, List.getElem?_eq_getElem hp, Option.some.injEq] at this
      have := congrArg (fun l : List HV => l[q]?) this
      simp only [List.getElem?_set_self hq, List.getElem?_eq_getElem hq, Option.some.injEq] at this
      exact this.symm
     rw [this]
     exact ⟨u, here, h1, .junk _⟩
    ·obtain ⟨y, y1, y2, y3⟩ := rp.2 p q hp hq
     have hqs := rp.1 _ (List.getElem_mem hp)
     have hks := rp.1 _ (List.getElem_mem hi)
     refine ⟨y, get _ y (fun e2 => e ?_) y1, y2, tr _ _ y3⟩
     rcases Nat.lt_trichotomy p i with h | h | h
     ·have := pos_lt (sz := sz) (k := q) h (by omega); omega
     ·subst h; exact ⟨rfl, by omega⟩
     ·have := pos_lt (sz := sz) (k := k) h (by omega); omega
end
abbrev Pos := Nat × Nat × Nat
def storeOf : Op → Option (TypeId × Operand × Operand)
 | .store t x y => some (t, x, y)
 | _ => none
def HStoreP2 (P : Program) (t : TypeId) (acc : List (Pos × HV)) (id sz i k : Nat) (h : HV) (K : List (Pos × HV) → Prop) : Option Row → Prop
 | some r => Cond (kindT P t = some none ∧ inB r sz i k ∧ rset r i k .junk = r ∧ h.one = true ∧ ∀ p ∈ acc, p.1 ≠ (id, i, k)) ∧ K (((id, i, k), h) :: acc)
 | none => False
def HStoreP (P : Program) (t : TypeId) (st : Store) (acc : List (Pos × HV)) (K : List (Pos × HV) → Prop) : Option HV → Option HV → Prop
 | some (.ptr id sz i k), some h => HStoreP2 P t acc id sz i k h K (rlk st id)
 | _, _ => False
def HVp (P : Program) (N : Nat) (ds : List (Option Nat)) (K : HS → List (Pos × HV) → Prop) : List Oper → HS → List (Pos × HV) → Prop
 | [], S, acc => K S acc
 | o :: rest, S, acc => match storeOf o.op with
  | some (t, x, y) => (o.dst = none ∧ o.guard = none) ∧ HStoreP P t S.st acc (fun acc' => HVp P N ds K rest S acc') (hev (pickE S.env (slotX x ++ slotX y)) x) (hev (pickE S.env (slotX x ++ slotX y)) y)
  | none => HStepR P N o S ⟨pickE S.env (slotG ds o.guard ++ slotsOf o.op), S.st⟩ (fun S' => HVp P N ds K rest S' acc) (hG (pickE S.env (slotG ds o.guard ++ slotsOf o.op)) ds o.guard)
def junkAll : List Pos → Store → Store
 | [], st => st
 | (id, i, k) :: r, st => match rlk st id with
  | some row => junkAll r (sset id (rset row i k .junk) st)
  | none => junkAll r st
def fillAll : List (Pos × HV) → Store → Store
 | [], st => st
 | ((id, i, k), h) :: r, st => match rlk st id with
  | some row => fillAll r (sset id (rset row i k h) st)
  | none => fillAll r st
structure HeadOkP (P : Program) (N : Nat) (ops : List Oper) (E0 : HEnv) (st : Store) (hs : Nat → HV) (sr : Nat → Option (Pos × HV)) (i : Nat) (o : Oper) : Prop where
 lt : dstLt N o.dst
 head : ∃ T : HEnv, FrOk ops E0 hs i T ∧ (∀ t h, hlk T t = some h → t ∈ o.looksAt ops.toArray) ∧
  ((sr i = none ∧ ∀ (c : Ctx) (l : Env) (w : World) (ρ : Nat → Value) (xs : Nat → List Value), Good c ⟨T, st⟩ (lk l) w ρ xs →
   ∃ b, gd l (dsts ops) o.guard (· = b) ∧ (b = true → vcOp P l o.op o.type w (fun u w' => RepH w' (c.A ρ st) c.n0 ρ u (hs i) ∧ Below w.heap.size w w') (fun u w' => RepH w' (c.A ρ st) c.n0 ρ u (hs i) ∧ Below w.heap.size w w')) ∧ (b = false → hs i = .v undef)) ∨
  (∃ id a k h t x y sz r, sr i = some ((id, a, k), h) ∧ o.dst = none ∧ o.guard = none ∧ o.op = .store t x y ∧ kindT P t = some none ∧ hev T x = some (.ptr id sz a k) ∧ hev T y = some h ∧ h.one = true ∧ rlk st id = some r ∧ inB r sz a k ∧ rset r a k .junk = r))
structure Recs (sr : Nat → Option (Pos × HV)) (i : Nat) (acc : List (Pos × HV)) : Prop where
 ofA : ∀ p ∈ acc, ∃ j, j < i ∧ sr j = some p
 toA : ∀ j p, j < i → sr j = some p → p ∈ acc
 apart : ∀ j j' p p', j < i → j' < i → j ≠ j' → sr j = some p → sr j' = some p' → p.1 ≠ p'.1
section
variable {P : Program} {N : Nat} {c : Ctx} {S T : HS} {Q : HPost} {l : Env} {look : Nat → Option Value} {w w' : World} {ρ : Nat → Value} {xs : Nat → List Value}
theorem Recs.congr {sr sr' : Nat → Option (Pos × HV)} {i : Nat} {acc : List (Pos × HV)} (h : Recs sr i acc) (he : ∀ j, j < i → sr' j = sr j) : Recs sr' i acc :=
 ⟨fun p hp => by obtain ⟨j, a, b⟩ := h.ofA p hp; exact ⟨j, a, by rw [he j a]; exact b⟩, fun j p hj hp => h.toA j p hj (by rw [← he j hj]; exact hp), fun j j' p p' hj hj' hne h1 h2 => h.apart j j' p p' hj hj' hne (by rw [← he j hj]; exact h1) (by rw [← he j' hj']; exact h2)⟩
theorem Recs.none {sr : Nat → Option (Pos × HV)} {i : Nat} {acc : List (Pos × HV)} (h : Recs sr i acc) (hi : sr i = none) : Recs sr (i + 1) acc := by
 refine ⟨fun p hp => by obtain ⟨j, a, b⟩ := h.ofA p hp; exact ⟨j, by omega, b⟩, fun j p hj hp => ?_, fun j j' p p' hj hj' hne h1 h2 => ?_⟩
 ·by_cases e : j = i
  ·subst e; rw [hi] at hp; cases hp
  ·exact h.toA j p (by omega) hp
 ·by_cases e : j = i
  ·subst e; rw [hi] at h1; cases h1
  ·by_cases e' : j' = i
   ·subst e'; rw [hi] at h2; cases h2
   ·exact h.apart j j' p p' (by omega) (by omega) hne h1 h2
theorem Recs.some {sr : Nat → Option (Pos × HV)} {i : Nat} {acc : List (Pos × HV)} (h : Recs sr i acc) {q : Pos × HV} (hi : sr i = .some q) (hq : ∀ p ∈ acc, p.1 ≠ q.1) : Recs sr (i + 1) (q :: acc) := by
 refine ⟨fun p hp => ?_, fun j p hj hp => ?_, fun j j' p p' hj hj' hne h1 h2 => ?_⟩
 ·rcases List.mem_cons.1 hp with rfl | hp
  ·exact ⟨i, by omega, hi⟩
  ·obtain ⟨j, a, b⟩ := h.ofA p hp; exact ⟨j, by omega, b⟩
 ·by_cases e : j = i
  ·subst e; rw [hi] at hp; simp only [Option.some.injEq] at hp; subst hp; exact List.mem_cons_self ..
  ·exact List.mem_cons_of_mem _ (h.toA j p (by omega) hp)
 ·by_cases e : j = i
  ·subst e
   rw [hi] at h1
   simp only [Option.some.injEq] at h1
   subst h1
   exact (hq p' (h.toA j' p' (by omega) h2)).symm
  ·by_cases e' : j' = i
   ·subst e'
    rw [hi] at h2
    simp only [Option.some.injEq] at h2
    subst h2
    exact hq p (h.toA j p (by omega) h1)
   ·exact h.apart j j' p p' (by omega) (by omega) hne h1 h2
theorem HVp_heads {ops : List Oper} {E0 : HEnv} {st : Store} {K : HS → List (Pos × HV) → Prop} : ∀ (rest : List Oper) (i : Nat) (S : HS) (acc : List (Pos × HV)) (hs0 : Nat → HV) (sr0 : Nat → Option (Pos × HV)), (∀ k o, rest[k]? = some o → ops[i + k]? = some o) → S.st = st → FrOk ops E0 hs0 i S.env → Recs sr0 i acc → HVp P N (dsts ops) K rest S acc →
  ∃ hs sr, (∀ j, j < i → hs j = hs0 j ∧ sr j = sr0 j) ∧ (∀ k o, rest[k]? = some o → HeadOkP P N ops E0 st hs sr (i + k) o) ∧ ∃ S' acc', S'.st = st ∧ FrOk ops E0 hs (i + rest.length) S'.env ∧ Recs sr (i + rest.length) acc' ∧ K S' acc'
 | [], i, S, acc, hs0, sr0, hops, hst, F, R, h => ⟨hs0, sr0, fun _ _ => ⟨rfl, rfl⟩, fun k o hk => by simp at hk, S, acc, hst, F, R, h⟩
 | o :: rest, i, S, acc, hs0, sr0, hops, hst, F, R, h => by
  have hoi : ops[i]? = some o := hops 0 o (by simp)
  rw [HVp] at h
  generalize hT : pickE S.env (slotG (dsts ops) o.guard ++ slotsOf o.op) = T at h
  have TF : ∀ t x, hlk T t = some x → t ∈ slotG (dsts ops) o.guard ++ slotsOf o.op ∧ hlk S.env t = some x := fun t x hx => by subst hT; exact pickE_get hx
  have key : ∀ (S1 : HS) (x : HV) (q : Option (Pos × HV)) (acc1 : List (Pos × HV)), S1.st = st → FrOk ops E0 hs0 i S1.env → (∀ sr, (∀ j, j < i → sr j = sr0 j) → sr i = q → Recs sr (i + 1) acc1) → HVp P N (dsts ops) K rest (S1.set o.dst x) acc1 → dstLt N o.dst →
    (∀ hs sr, (∀ j, j < i → hs j = hs0 j) → hs i = x → sr i = q → (∀ T : HEnv, (∀ t x, hlk T t = some x → hlk S.env t = some x) → FrOk ops E0 hs i T) → HeadOkP P N ops E0 st hs sr i o) →
    ∃ hs sr, (∀ j, j < i → hs j = hs0 j ∧ sr j = sr0 j) ∧ (∀ k o', (o :: rest)[k]? = some o' → HeadOkP P N ops E0 st hs sr (i + k) o') ∧ ∃ S' acc', S'.st = st ∧ FrOk ops E0 hs (i + (o :: rest).length) S'.env ∧ Recs sr (i + (o :: rest).length) acc' ∧ K S' acc' := by
   intro S1 x q acc1 hst1 F1 hR hK hlt hhead
   let hs1 : Nat → HV := fun j => if j = i then x else hs0 j
   let sr1 : Nat → Option (Pos × HV) := fun j => if j = i then q else sr0 j
   have e1 : hs1 i = x := if_pos rfl
   have e2 : ∀ j, j < i → hs1 j = hs0 j := fun j hj => if_neg (by omega)
   have e3 : sr1 i = q := if_pos rfl
   have e4 : ∀ j, j < i → sr1 j = sr0 j := fun j hj => if_neg (by omega)
   have F2 : FrOk ops E0 hs1 (i + 1) (S1.set o.dst x).env := by
    have := (F1.congr e2).set hoi
    rw [e1] at this; exact this
   obtain ⟨hs, sr, a, b, S', acc', d, e, e5, f⟩ := HVp_heads rest (i + 1) (S1.set o.dst x) acc1 hs1 sr1 (fun k o' hk => by
    have := hops (k + 1) o' (by simpa using hk)
    rw [show i + 1 + k = i + (k + 1) by omega]; exact this) (by cases o.dst <;> exact hst1) F2 (hR sr1 e4 e3) hK
   have ei : hs i = x := by rw [(a i (by omega)).1, e1]
   have ej : ∀ j, j < i → hs j = hs0 j := fun j hj => by rw [(a j (by omega)).1, e2 j hj]
   have fi : sr i = q := by rw [(a i (by omega)).2, e3]
   have fj : ∀ j, j < i → sr j = sr0 j := fun j hj => by rw [(a j (by omega)).2, e4 j hj]
   refine ⟨hs, sr, fun j hj => ⟨ej j hj, fj j hj⟩, fun k o' hk => ?_, S', acc', d, ?_, ?_, f⟩
   ·cases k with
    | zero =>
     simp only [List.getElem?_cons_zero, Option.some.injEq] at hk
     subst hk
     exact hhead hs sr ej ei fi fun T hT => (F.congr ej).env hT
    | succ k =>
     have := b k o' (by simpa using hk)
     rw [show i + 1 + k = i + (k + 1) by omega] at this; exact this
   ·rw [List.length_cons, show i + (rest.length + 1) = i + 1 + rest.length by omega]; exact e
   ·rw [List.length_cons, show i + (rest.length + 1) = i + 1 + rest.length by omega]; exact e5
  split at h
  ·rename_i t x y hso
   have hop : o.op = .store t x y := by
    cases ho : o.op <;> rw [ho] at hso <;> simp only [storeOf, Option.some.injEq, Prod.mk.injEq, reduceCtorEq] at hso
    obtain ⟨rfl, rfl, rfl⟩ := hso; rfl
   obtain ⟨⟨hd, hg⟩, h⟩ := h
   unfold HStoreP at h
   split at h
   ·rename_i id sz a k hh hx hy
    unfold HStoreP2 at h
    split at h
    ·rename_i r hr
     obtain ⟨⟨c1, c2, c3, c4, c5⟩, hK⟩ := h
     refine key S (.v undef) (some ((id, a, k), hh)) (((id, a, k), hh) :: acc) hst F (fun sr e1 e2 => (R.congr e1).some e2 c5) (by rw [hd]; exact hK) (by rw [hd]; trivial) fun hs sr e1 e2 e3 FT => ⟨by rw [hd]; trivial, pickE S.env (slotX x ++ slotX y), FT _ (fun t x hx => (pickE_get hx).2), fun t' x' hx' => looks_tmp (by
      rw [hop]
      rcases List.mem_append.1 (pickE_get hx').1 with h | h
      ·rw [← slotX_mem h]; simp [Op.operands]
      ·rw [← slotX_mem h]; simp [Op.operands]), .inr ⟨id, a, k, hh, t, x, y, sz, r, e3, hd, hg, hop, c1, hx, hy, c4, by rw [← hst]; exact hr, c2, c3⟩⟩
    ·exact h.elim
   ·exact h.elim
  ·have norm : ∀ (S1 : HS) (x : HV), S1.st = st → FrOk ops E0 hs0 i S1.env → HVp P N (dsts ops) K rest (S1.set o.dst x) acc → dstLt N o.dst →
     (∀ (c : Ctx) (l : Env) (w : World) (ρ : Nat → Value) (xs : Nat → List Value), Good c ⟨T, st⟩ (lk l) w ρ xs →
      ∃ b, gd l (dsts ops) o.guard (· = b) ∧ (b = true → vcOp P l o.op o.type w (fun u w' => RepH w' (c.A ρ st) c.n0 ρ u x ∧ Below w.heap.size w w') (fun u w' => RepH w' (c.A ρ st) c.n0 ρ u x ∧ Below w.heap.size w w')) ∧ (b = false → x = .v undef)) →
     ∃ hs sr, (∀ j, j < i → hs j = hs0 j ∧ sr j = sr0 j) ∧ (∀ k o', (o :: rest)[k]? = some o' → HeadOkP P N ops E0 st hs sr (i + k) o') ∧ ∃ S' acc', S'.st = st ∧ FrOk ops E0 hs (i + (o :: rest).length) S'.env ∧ Recs sr (i + (o :: rest).length) acc' ∧ K S' acc' := fun S1 x h1 h2 h3 h4 h5 =>
    key S1 x none acc h1 h2 (fun sr e1 e2 => (R.congr e1).none e2) h3 h4 fun hs sr e1 e2 e3 FT => ⟨h4, T, FT T (fun t x hx => (TF t x hx).2), fun t x hx => looks_slots (TF t x hx).1, .inl ⟨e3, by rw [e2]; exact h5⟩⟩
   cases hg : hG T (dsts ops) o.guard with
   | yes =>
    rw [hg] at h
    obtain ⟨hlt, x, hK, hv⟩ := HGoR_head h
    refine norm S x hst F hK hlt fun c l w ρ xs G => ⟨true, gd_yes (S := ⟨T, st⟩) hg rfl, fun _ => ?_, fun e => by cases e⟩
    have := hv c l w ρ xs (by rw [hst]; exact G)
    rw [hst] at this; exact this
   | no =>
    rw [hg] at h
    have h : HSkip N o.dst S (fun S' => HVp P N (dsts ops) K rest S' acc) := h
    obtain ⟨hlt, hK⟩ := HSkip_head h
    exact norm S _ hst F hK hlt fun c l w ρ xs G => ⟨false, gd_no (S := ⟨T, st⟩) ⟨ρ, xs, G⟩ hg rfl, fun e => (by cases e), fun _ => rfl⟩
   | ask d b want =>
    rw [hg] at h
    obtain ⟨j, hj, hd, hb⟩ := hG_ask (S := ⟨T, st⟩) hg
    have hbS := (TF d _ hb).2
    simp only [HStepR] at h
    split at h
    ·rename_i e
     have e' : b = want := by simpa using e
     subst e'
     obtain ⟨hlt, x, hK, hv⟩ := HGoR_head h
     refine norm (S.rep d (.v (.bool b))) x hst (F.env fun t x hx => by rw [← hrep_same hbS t]; exact hx) hK hlt fun c l w ρ xs G => ⟨true, (gd_ask (S := ⟨T, st⟩) ⟨ρ, xs, G⟩ hg (k := (· = true)) e).1, fun _ => ?_, fun e => by cases e⟩
     have := hv c l w ρ xs (by rw [hst]; exact G.sameEnv (hrep_same hb))
     simp only [HS.rep] at this
     rw [hst] at this; exact this
    ·rename_i e
     have e' : b = !want := by cases b <;> cases want <;> simp_all
     subst e'
     obtain ⟨hlt, hK⟩ := HSkip_head h
     exact norm (S.rep d (.v (.bool (!want)))) _ hst (F.env fun t x hx => by rw [← hrep_same hbS t]; exact hx) hK hlt fun c l w ρ xs G => ⟨false, (gd_ask (S := ⟨T, st⟩) ⟨ρ, xs, G⟩ hg (k := (· = false)) e).1, fun e => (by cases e), fun _ => rfl⟩
   | bad => rw [hg] at h; exact h.elim
theorem Good.junks : ∀ (ps : List Pos) {st : Store} {E : HEnv} {xs : Nat → List Value}, Good c ⟨E, st⟩ look w ρ xs → ∃ xs', Good c ⟨E, junkAll ps st⟩ look w ρ xs'
 | [], st, E, xs, G => ⟨xs, G⟩
 | (id, i, k) :: r, st, E, xs, G => by
  rw [junkAll]
  split
  ·rename_i row hr
   obtain ⟨xs', G'⟩ := G.dark hr i k
   exact Good.junks r G'
  ·exact Good.junks r G
def Told (c : Ctx) (st : Store) (w : World) (ρ : Nat → Value) (q : Pos × HV) : Prop :=
 ∃ r sz g n cp v, rlk st q.1.1 = some r ∧ inB r sz q.1.2.1 q.1.2.2 ∧ ρ q.1.1 = .slice (some ⟨g, 0, none⟩) n cp ∧ w.cell? ⟨g, q.1.2.1 * sz + q.1.2.2, none⟩ = some v ∧ v.oneCell' = true ∧ RepH w (c.A ρ st) c.n0 ρ v q.2
theorem Good.fills : ∀ (acc : List (Pos × HV)) {st : Store} {E : HEnv} {xs : Nat → List Value}, Good c ⟨E, st⟩ look w ρ xs → (∀ q ∈ acc, Told c st w ρ q) → ∃ xs', Good c ⟨E, fillAll acc st⟩ look w ρ xs'
 | [], st, E, xs, G, _ => ⟨xs, G⟩
 | ((id, i, k), h) :: rest, st, E, xs, G, hq => by
  obtain ⟨r, sz, g, n, cp, v, q1, q2, q3, q4, q5, q6⟩ := hq _ (List.mem_cons_self ..)
  dsimp only at q1 q2 q3 q4 q6
  rw [fillAll, q1]
  obtain ⟨xs', G'⟩ := G.fill q1 q2 q3 q4 q6 q5
  refine Good.fills rest G' fun q hq' => ?_
  obtain ⟨r', sz', g', n', cp', v', p1, p2, p3, p4, p5, p6⟩ := hq q (List.mem_cons_of_mem _ hq')
  have hA : ∀ b, b < w.heap.size → c.A ρ (sset id (rset r i k h) st) b → c.A ρ st b := fun b _ hb => A_sset q1 _ b hb
  by_cases e : q.1.1 = id
  ·have : r' = r := by rw [e, q1] at p1; exact (Option.some.inj p1).symm
   subst this
   exact ⟨rset r' i k h, sz', g', n', cp', v', by rw [rlk_sset id _ st r' q1, if_pos e], inB_rset.2 p2, p3, p4, p5, p6.up (Nat.le_refl _) (fun _ _ _ => rfl) hA (Nat.le_refl _)⟩
  ·exact ⟨r', sz', g', n', cp', v', by rw [rlk_sset id _ st r q1, if_neg e]; exact p1, p2, p3, p4, p5, p6.up (Nat.le_refl _) (fun _ _ _ => rfl) hA (Nat.le_refl _)⟩
theorem flat_inj {r : Row} {sz sz' i k i' k' : Nat} (h : inB r sz i k) (h' : inB r sz' i' k') (hw : match r with | .hl _ _ s els => ∀ y ∈ els, y.length = s | _ => True) (e : i * sz + k = i' * sz' + k') : i = i' ∧ k = k' := by
 cases r with
 | sl => exact h.elim
 | bx => obtain ⟨rfl, _⟩ := h; obtain ⟨rfl, _⟩ := h'; omega
 | hl n t s els =>
  obtain ⟨rfl, a, b⟩ := h
  obtain ⟨rfl, a', b'⟩ := h'
  have hw : ∀ y ∈ els, y.length = sz' := hw
  rw [getD_lt a, hw _ (List.getElem_mem a)] at b
  rw [getD_lt a', hw _ (List.getElem_mem a')] at b'
  rcases Nat.lt_trichotomy i i' with hh | hh | hh
  ·have := pos_lt (sz := sz') (k := k) hh b; omega
  ·subst hh; exact ⟨rfl, by omega⟩
  ·have := pos_lt (sz := sz') (k := k') hh b'; omega
theorem HW_drwP {id : Nat} {ops : List Oper} (n : Nat) (ps : List Pos) (hm : P.follows .mixedOrders = true) (hok : regOk (hkeys S.env) ops n = true) {st0 : Store} (hst : junkAll ps S.st = st0)
  (h : ∀ K : HS → Prop, (∀ S', Q .normal S' → K S') → HVp P N (dsts ops) (fun S' acc => HStop (fun S2 => HStop (HV2 P N (dsts ops) K (ops.drop n)) ⟨S2.env, fillAll acc S2.st⟩) S') (ops.take n) ⟨S.env, st0⟩ []) : HW P N (.region id ops.toArray true) Q S := fun c l w I => by
 have hks : ∀ k ∈ hkeys S.env, ∃ v, lk l k = some v := fun k hk => by
  obtain ⟨x, hx⟩ := hkeys_get hk
  obtain ⟨ρ, xs, G⟩ := I
  obtain ⟨v, h1, -⟩ := G.env k x hx
  exact ⟨v, h1⟩
 refine W_keep (hkeys S.env) ?_
 have I' : Inv c S (lk (keep (hkeys S.env) l)) w := I.agree fun k x hk => keep_lk (hkeys_mem hk)
 have hkk : keysE (keep (hkeys S.env) l) = hkeys S.env := keysE_keep hks
 generalize keep (hkeys S.env) l = l' at I' hkk
 obtain ⟨ρ, xs0, G0⟩ := I'
 obtain ⟨xs, G⟩ := Good.junks ps (st := S.st) (E := S.env) G0
 rw [hst] at G
 have ok := regOk_spec hok
 have hlen : (ops.take n).length = n := by rw [List.length_take]; have := ok.hn; omega
 have get_take : ∀ {i : Nat} {o : Oper}, (ops.take n)[i]? = some o → i < n ∧ ops[i]? = some o := fun {i o} h => by
  have hi := (List.getElem?_eq_some_iff.1 h).1
  rw [hlen] at hi
  rw [List.getElem?_take_of_lt hi] at h
  exact ⟨hi, h⟩
 obtain ⟨hs, sr, -, heads, S1, acc, e1, F1, RC, h1⟩ := HVp_heads (E0 := S.env) (st := st0) (ops.take n) 0 ⟨S.env, st0⟩ [] (fun _ => .junk) (fun _ => none) (fun k o hk => by rw [Nat.zero_add]; exact (get_take hk).2) rfl (fun t x hx => .inr ⟨fun j hj => absurd hj (Nat.not_lt_zero _), hx⟩) ⟨fun p hp => by simp at hp, fun j p hj => absurd hj (Nat.not_lt_zero _), fun j j' p p' hj => absurd hj (Nat.not_lt_zero _)⟩ (h (Q .normal) fun _ h => h)
 rw [hlen, Nat.zero_add] at F1 RC
 have head : ∀ i o, i < n → ops[i]? = some o → HeadOkP P N ops S.env st0 hs sr i o := fun i o hi ho => by
  have := heads i o (by rw [List.getElem?_take_of_lt hi]; exact ho)
  rw [Nat.zero_add] at this; exact this
 have uniq : ∀ i j t, i < n → j < n → dstAt ops i = some t → dstAt ops j = some t → i = j := by
  intro i j t hi hj h1 h2
  rcases Nat.lt_trichotomy i j with h | h | h
  ·rcases ok.uniq j i hj h with e | e
   ·rw [h2] at e; cases e
   ·exact absurd (h2.trans h1.symm) e
  ·exact h
  ·rcases ok.uniq i j hi h with e | e
   ·rw [h1] at e; cases e
   ·exact absurd (h1.trans h2.symm) e
 have hlt : DLt N ops n := fun i t hi hd => by
  obtain ⟨o, ho, hod⟩ := dstAt_some hd
  have := (head i o hi ho).lt
  rw [hod] at this; exact this
 -- a store's head lays nothing into a slot
 have hnone : ∀ j t, j < n → dstAt ops j = some t → sr j = none := fun j t hj hd => by
  obtain ⟨o, ho, hod⟩ := dstAt_some hd
  obtain ⟨T, -, -, hh⟩ := (head j o hj ho).head
  rcases hh with ⟨h, _⟩ | ⟨id, a, k, hh, t', x, y, sz, r, e1, e2, _⟩
  ·exact h
  ·rw [hod] at e2; cases e2
 let C : World → Prop := fun w' => ∃ xs', Good c ⟨S.env, st0⟩ (lk l') w' ρ xs'
 let R : Nat → Value → World → Prop := fun j u w' => match sr j with
  | none => RepH w' (c.A ρ st0) c.n0 ρ u (hs j)
  | some q => Told c st0 w' ρ q
 let Le : Nat → World → World → Prop := fun i w w' => match sr i with
  | none => Below w.heap.size w w'
  | some q => w' = w ∨ ∃ r sz g n cp, rlk st0 q.1.1 = some r ∧ inB r sz q.1.2.1 q.1.2.2 ∧ ρ q.1.1 = .slice (some ⟨g, 0, none⟩) n cp ∧ Only g w w' ∧ ∀ p, p ≠ q.1.2.1 * sz + q.1.2.2 → p < r.len * r.sz → w'.cell? ⟨g, p, none⟩ = w.cell? ⟨g, p, none⟩
 have frame : ∀ (vs : Nat → Value) (w' : World) (i : Nat) (E : HEnv), i ≤ n → C w' → FrOk ops S.env hs i E → (∀ j t x, j < i → dstAt ops j = some t → hlk E t = some x → RepH w' (c.A ρ st0) c.n0 ρ (vs j) (hs j)) → ∃ xs', Good c ⟨E, st0⟩ (lk (envE l' ops vs i)) w' ρ xs' := fun vs w' i E hi hC F hv => by
  obtain ⟨xs', GB⟩ := hC
  refine ⟨xs', GB.rows, GB.apart, fun k x hk => ?_, GB.kept, GB.a0⟩
  rcases F k x hk with ⟨j, a, b, d⟩ | ⟨a, b⟩
  ·refine ⟨vs j, (envE_new (l := l') (vs := vs) hlt (base := Array.replicate N undef) (by simp) b (fun q hq hne e => hne (uniq q j k hq (by omega) e b)) i hi a).1, ?_⟩
   rw [← d]; exact hv j k x a b hk
  ·obtain ⟨v, v1, v2⟩ := GB.env k x b
   exact ⟨v, by rw [(envE_old (l := l') (vs := vs) #[] k i a).1]; exact v1, v2⟩
 have rn : ∀ {j u w'}, sr j = none → (R j u w' ↔ RepH w' (c.A ρ st0) c.n0 ρ u (hs j)) := fun {j u w'} e => by
  show (match sr j with | none => _ | some q => _) ↔ _
  rw [e]
 have rs : ∀ {j u w' q}, sr j = some q → (R j u w' ↔ Told c st0 w' ρ q) := fun {j u w' q} e => by
  show (match sr j with | none => _ | some q => _) ↔ _
  rw [e]
 have upS : ∀ {w1 w2 : World} {id : Nat} {r : Row} {g n cp : Nat}, rlk st0 id = some r → ρ id = .slice (some ⟨g, 0, none⟩) n cp → Only g w1 w2 → ∀ {v : Value} {x : HV}, RepH w1 (c.A ρ st0) c.n0 ρ v x → RepH w2 (c.A ρ st0) c.n0 ρ v x := fun {w1 w2 id r g n cp} q1 q3 hO {v x} hr =>
  hr.up (Nat.le_of_eq hO.size.symm) (fun b _ hA => hO.block b fun e => hA (.inr ⟨id, r, q1, by rw [q3, e]; rfl⟩)) (fun _ _ h => h) (Nat.le_refl _)
 refine W_drawnL (hkeys S.env) n hm hkk hok hlt (C := C) (R := R) (Le := Le) ⟨xs, G.below (Below.refl _ _).drew⟩ (fun i w => ?_) (fun j i u w1 w2 hj hi hne hC hr hle => ?_) (fun i o hi ho vs w1 hC hR => ?_) (fun vs w1 hC hR => ?_)
 ·show (match sr i with | none => _ | some q => _)
  cases sr i with
  | none => exact Below.refl _ _
  | some q => exact .inl rfl
 ·have hle : (match sr i with | none => Below w1.heap.size w1 w2 | some q => w2 = w1 ∨ ∃ r sz g n cp, rlk st0 q.1.1 = some r ∧ inB r sz q.1.2.1 q.1.2.2 ∧ ρ q.1.1 = .slice (some ⟨g, 0, none⟩) n cp ∧ Only g w1 w2 ∧ ∀ p, p ≠ q.1.2.1 * sz + q.1.2.2 → p < r.len * r.sz → w2.cell? ⟨g, p, none⟩ = w1.cell? ⟨g, p, none⟩) := hle
  cases hsj : sr j with
  | none =>
   rw [rn hsj] at hr ⊢
   cases hsi : sr i with
   | none => rw [hsi] at hle; exact hr.above hle
   | some q =>
    rw [hsi] at hle
    rcases hle with rfl | ⟨r, sz, g, m, cp, q1, q2, q3, hO, hc⟩
    ·exact hr
    ·exact upS q1 q3 hO hr
  | some q' =>
   rw [rs hsj] at hr ⊢
   obtain ⟨r', sz', g', n', cp', v', p1, p2, p3, p4, p5, p6⟩ := hr
   cases hsi : sr i with
   | none =>
    rw [hsi] at hle
    exact ⟨r', sz', g', n', cp', v', p1, p2, p3, below_cell hle p4, p5, p6.above hle⟩
   | some q =>
    rw [hsi] at hle
    rcases hle with rfl | ⟨r, sz, g, m, cp, q1, q2, q3, hO, hc⟩
    ·exact ⟨r', sz', g', n', cp', v', p1, p2, p3, p4, p5, p6⟩
    ·refine ⟨r', sz', g', n', cp', v', p1, p2, p3, ?_, p5, upS q1 q3 hO p6⟩
     rw [← p4]
     by_cases eg : g' = g
     ·subst eg
      obtain ⟨xs', GB⟩ := hC
      have eid : q'.1.1 = q.1.1 := by
       by_cases e : q'.1.1 = q.1.1
       ·exact e
       ·exact (GB.apart _ _ _ _ g' e p1 q1 (by rw [p3]; rfl) (by rw [q3]; rfl)).elim
      rw [eid, q1] at p1
      simp only [Option.some.injEq] at p1
      subst p1
      have RR := GB.rows _ _ q1
      refine hc _ (fun e => ?_) (RR.flat p2)
      have rp := RR.rep
      obtain ⟨e1, e2⟩ := flat_inj p2 q2 (by cases r <;> first | trivial | exact rp.1) e
      exact RC.apart j i q' q hj hi hne hsj hsi (Prod.ext eid (Prod.ext e1 e2))
     ·exact cell_block (hO.block g' eg)
 ·obtain ⟨T, TF, TS, hh⟩ := (head i o hi ho).head
  obtain ⟨xs1, GT⟩ := frame vs w1 i T (by omega) hC TF fun j t x hj hd hx => (rn (hnone j t (by omega) hd)).1 (hR j t hj hd (TS t x hx))
  obtain ⟨xsC, GC⟩ := hC
  rcases hh with ⟨hsr, run⟩ | ⟨id, a, k, hh, t, x, y, sz, r, hsr, hdn, hgn, hop, c1, hx, hy, c4, hr, c2, c3⟩
  ·obtain ⟨b, b1, b2, b3⟩ := run c _ w1 ρ xs1 GT
   refine ⟨b, b1, fun hb => ?_, fun hb => ?_⟩
   ·exact (vcOp_ok (fun x X hx => by simp [evD, hx]) (b2 hb)).mono fun u w2 ⟨hu, hB⟩ => ⟨(rn hsr).2 hu, ⟨xsC, GC.below hB⟩, by show (match sr i with | none => _ | some q => _); rw [hsr]; exact hB⟩
   ·refine (rn hsr).2 ?_
    rw [b3 hb]; exact .v _
  ·obtain ⟨vx, ex1, ex2⟩ := GT.ev (agr_self _ _) hx
   obtain ⟨vy, ey1, ey2⟩ := GT.ev (agr_self _ _) hy
   cases ex2 with
   | ptr _ _ _ hρ =>
   rename_i g m cp
   have hone := hone_one ey2 c4
   obtain ⟨w2, s1, s2, s3, s4, xs2, G2⟩ := store_at (P := P) (t := t) GC hr c2 hρ hone c1 c3
   refine ⟨true, by rw [hgn]; exact (rfl : true = true), fun _ => ?_, fun e => by cases e⟩
   refine (vcOp_ok (l := envE l' ops vs i) (fun x X hx => by simp [evD, hx]) (K := fun u w2 => R i u w2 ∧ C w2 ∧ Le i w1 w2) ?_)
   unfold vcOp
   rw [hop]
   simp only [pureOp, effOp, ex1, ey1]
   refine ⟨w2, s1, (rs hsr).2 ⟨r, sz, g, m, cp, vy, hr, c2, hρ, s4, hone, upS hr hρ s2 ey2⟩, ⟨xs2, G2⟩, ?_⟩
   show (match sr i with | none => _ | some q => _)
   rw [hsr]
   exact .inr ⟨r, sz, g, m, cp, hr, c2, hρ, s2, s3⟩
 ·obtain ⟨E1, st1⟩ := S1
  have e1 : st1 = st0 := e1
  subst e1
  obtain ⟨xs1, G1⟩ := frame vs w1 n E1 (Nat.le_refl _) hC F1 fun j t x hj hd _ => (rn (hnone j t hj hd)).1 (hR j hj)
  obtain ⟨xs2, G2⟩ := Good.fills acc G1 fun q hq => by
   obtain ⟨j, hj, e⟩ := RC.ofA q hq
   exact (rs e).1 (hR j hj)
  exact HW_drw.V2.mono' (HV2_VC _ _ _ _ h1 ⟨ρ, xs2, G2⟩) fun l2 w2 h2 => h2
end
theorem hvp_nil (P : Program) (N : Nat) (ds : List (Option Nat)) (K : HS → List (Pos × HV) → Prop) (S : HS) (acc : List (Pos × HV)) : HVp P N ds K [] S acc = K S acc := rfl
theorem hvp_cons (P : Program) (N : Nat) (ds : List (Option Nat)) (K : HS → List (Pos × HV) → Prop) (o : Oper) (rest : List Oper) (S : HS) (acc : List (Pos × HV)) : HVp P N ds K (o :: rest) S acc = match storeOf o.op with
  | some (t, x, y) => (o.dst = none ∧ o.guard = none) ∧ HStoreP P t S.st acc (fun acc' => HVp P N ds K rest S acc') (hev (pickE S.env (slotX x ++ slotX y)) x) (hev (pickE S.env (slotX x ++ slotX y)) y)
  | none => HStepR P N o S ⟨pickE S.env (slotG ds o.guard ++ slotsOf o.op), S.st⟩ (fun S' => HVp P N ds K rest S' acc) (hG (pickE S.env (slotG ds o.guard ++ slotsOf o.op)) ds o.guard) := by rw [HVp]
theorem hStoreP_eq (P : Program) (t : TypeId) (st : Store) (acc : List (Pos × HV)) (K : List (Pos × HV) → Prop) (id sz i k : Nat) (h : HV) : HStoreP P t st acc K (some (.ptr id sz i k)) (some h) = HStoreP2 P t acc id sz i k h K (rlk st id) := rfl
theorem hStoreP2_eq (P : Program) (t : TypeId) (acc : List (Pos × HV)) (id sz i k : Nat) (h : HV) (K : List (Pos × HV) → Prop) (r : Row) : HStoreP2 P t acc id sz i k h K (some r) = (Cond (kindT P t = some none ∧ inB r sz i k ∧ rset r i k .junk = r ∧ h.one = true ∧ ∀ p ∈ acc, p.1 ≠ (id, i, k)) ∧ K (((id, i, k), h) :: acc)) := rfl
theorem junkAll_nil (st : Store) : junkAll [] st = st := rfl
theorem junkAll_cons (id i k : Nat) (r : List Pos) (st : Store) : junkAll ((id, i, k) :: r) st = match rlk st id with | some row => junkAll r (sset id (rset row i k .junk) st) | none => junkAll r st := by rw [junkAll]
theorem fillAll_nil (st : Store) : fillAll [] st = st := rfl
theorem fillAll_cons (id i k : Nat) (h : HV) (r : List (Pos × HV)) (st : Store) : fillAll (((id, i, k), h) :: r) st = match rlk st id with | some row => fillAll r (sset id (rset row i k h) st) | none => fillAll r st := by rw [fillAll]
theorem rset_bx (n : Bool) (t i k : Nat) (cs : List HV) (h : HV) : rset (.bx n t cs) i k h = .bx n t (cs.set k h) := rfl
theorem rset_hl (n : Bool) (t s i k : Nat) (els : List (List HV)) (h : HV) : rset (.hl n t s els) i k h = .hl n t s (els.set i ((els.getD i []).set k h)) := rfl
theorem storeOf_store (t : TypeId) (x y : Operand) : storeOf (.store t x y) = some (t, x, y) := rfl
theorem storeOf_move (x : Operand) : storeOf (.move x) = none := rfl
theorem storeOf_assign (x : Operand) : storeOf (.assign x) = none := rfl
theorem storeOf_pick (c a b : Operand) : storeOf (.pick c a b) = none := rfl
theorem storeOf_extract (x : Operand) (i : Nat) : storeOf (.extract x i) = none := rfl
theorem storeOf_field (t : TypeId) (x : Operand) (f : Nat) : storeOf (.field t x f) = none := rfl
theorem storeOf_faddr (t : TypeId) (x : Operand) (f : Nat) : storeOf (.fieldAddr t x f) = none := rfl
theorem storeOf_nilc (x : Operand) : storeOf (.nilCheck x) = none := rfl
theorem storeOf_iaddr (t : TypeId) (x i : Operand) : storeOf (.indexAddr t x i) = none := rfl
theorem storeOf_slice (t : TypeId) (x : Operand) (l h m : Option Operand) : storeOf (.slice t x l h m) = none := rfl
theorem storeOf_load (t : TypeId) (x : Operand) : storeOf (.load t x) = none := rfl
theorem storeOf_build (t : TypeId) (ps : Array (Nat × Operand)) : storeOf (.build t ps) = none := rfl
theorem storeOf_bin (b : BinOp) (t : TypeId) (x y : Operand) (u : TypeId) : storeOf (.binOp b t x y u) = none := rfl
theorem storeOf_un (u : UnOp) (t : TypeId) (x : Operand) : storeOf (.unOp u t x) = none := rfl
theorem storeOf_conv (s d : TypeId) (x : Operand) : storeOf (.convert s d x) = none := rfl
theorem storeOf_index (t : TypeId) (x i : Operand) : storeOf (.index t x i) = none := rfl
theorem storeOf_call (c : Call) : storeOf (.call c) = none := rfl
theorem storeOf_alloc (t : TypeId) : storeOf (.alloc t) = none := rfl
theorem storeOf_box (t : TypeId) (x : Operand) : storeOf (.box t x) = none := rfl
theorem storeOf_make (t : TypeId) (x y : Operand) : storeOf (.makeSlice t x y) = none := rfl
theorem storeOf_buildS (t n : TypeId) (ps : Array (Nat × Operand)) : storeOf (.buildSlice t n ps) = none := rfl
end Go.Eng
