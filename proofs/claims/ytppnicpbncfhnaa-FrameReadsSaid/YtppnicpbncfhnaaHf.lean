/-
  Functions over values: what they are given, what they answer; calls.
-/
import Derived.Test.YtppnicpbncfhnaaHc
set_option linter.unusedSimpArgs false
set_option linter.unusedVariables false
namespace Go.Eng
open Go Go.RowKit

/-- all that it names is new -/
inductive FreshF : FV → Prop
  | v (x : Value) : FreshF (.v x)
  | lst {xs : List (List FV)} (h : ∀ x ∈ xs, ∀ f ∈ x, FreshF f) : FreshF (.lst true xs)
inductive FreshH : HV → Prop
  | v (x : Value) : FreshH (.v x)
  | lst {fr : Bool} {xs : List (List FV)} (h : FreshF (.lst fr xs)) : FreshH (.lst fr xs)
  | own (id : Nat) : FreshH (.own id)
  | vw (id sz o n : Nat) : FreshH (.vw id sz o n)
  | ptr (id sz i k : Nat) : FreshH (.ptr id sz i k)
  | agg {hs : List HV} (h : ∀ x ∈ hs, FreshH x) : FreshH (.agg hs)
  | tup {hs : List HV} (h : ∀ x ∈ hs, FreshH x) : FreshH (.tup hs)
  | junk : FreshH .junk
def FreshR : Row → Prop
  | .sl nw _ _ els => nw = true ∧ ∀ x ∈ els, ∀ f ∈ x, FreshF f
  | .bx nw _ cells => nw = true ∧ ∀ x ∈ cells, FreshH x
/-- names turned: those that have none fall away -/
def HV.ren (m : Nat → Option Nat) : HV → HV
  | .own i => match m i with
    | some j => .own j
    | none => .junk
  | .vw i sz o n => match m i with
    | some j => .vw j sz o n
    | none => .junk
  | .ptr i sz j k => match m i with
    | some i' => .ptr i' sz j k
    | none => .junk
  | .agg cs => .agg (cs.map (ren m))
  | .tup cs => .tup (cs.map (ren m))
  | .v x => .v x
  | .lst fr xs => .lst fr xs
  | .elt fr xs sz i k => .elt fr xs sz i k
  | .junk => .junk
def Row.ren (m : Nat → Option Nat) : Row → Row
  | .sl n t s xs => .sl n t s xs
  | .bx n t cs => .bx n t (cs.map (HV.ren m))
/-- as it was handed in: nothing of it is new -/
def FV.old : FV → FV
  | .v x => .v x
  | .lst _ xs => .lst false (xs.map fun x => x.map old)
termination_by x => SizeOf.sizeOf x
decreasing_by
  rename_i h1 _ h2
  have a := List.sizeOf_lt_of_mem h1
  have b := List.sizeOf_lt_of_mem h2
  simp only [FV.lst.sizeOf_spec]
  omega
def olds (xs : List (List FV)) : List (List FV) := xs.map fun x => x.map FV.old
section
variable {P : Program} {N : Nat} {c : Ctx} {S S' : HS} {Q Q' : HPost} {l : Env} {look : Nat → Option Value} {w w' : World} {ρ ρ' : Nat → Value} {xs : Nat → List Value} {A A' : Nat → Prop} {n0 n1 : Nat}
theorem RepF.fresh {v : Value} {x : FV} (h : RepF w A n0 v x) (hf : FreshF x) : RepF w (fun b => A b ∨ b < n0) n0 v x := by
  induction h with
  | v x => exact .v x
  | lst sz vals hn hc hm hnil hsz ha h1 hr ih =>
    cases hf with
    | lst hf =>
    refine .lst sz vals hn hc hm hnil hsz (fun h0 => ?_) h1 (fun i k hi hk => ih i k hi hk (hf _ (List.getElem_mem hi) _ (List.getElem_mem hk)))
    obtain ⟨b, off, ea, h2, h3, h4, h5⟩ := ha h0
    exact ⟨b, off, ea, fun h => h.elim h2 (by have := h4 rfl; omega), h3, h4, h5⟩
theorem RepH.fresh {v : Value} {x : HV} (h : RepH w A n0 ρ v x) (hf : FreshH x) : RepH w (fun b => A b ∨ b < n0) n0 ρ v x := by
  induction h with
  | v x => exact .v x
  | lst h => cases hf with | lst hf => exact .lst (h.fresh hf)
  | own id h1 => exact .own id h1
  | vw sz off m h a b d x e => exact .vw sz off m h a b d x e
  | ptr sz i k h => exact .ptr sz i k h
  | elt h h1 h2 => cases hf
  | agg hn h1 h ih => cases hf with | agg hf => exact .agg hn h1 fun j a b => ih j a b (hf _ (List.getElem_mem b))
  | tup hn h ih => cases hf with | tup hf => exact .tup hn fun j a b => ih j a b (hf _ (List.getElem_mem b))
  | junk v => exact .junk v
theorem RepH.ren {v : Value} {x : HV} {m : Nat → Option Nat} (h : RepH w A n0 ρ v x) (hm : ∀ i j, m i = some j → ρ' j = ρ i) : RepH w A n0 ρ' v (x.ren m) := by
  induction h with
  | v x => rw [HV.ren]; exact .v x
  | lst h => rw [HV.ren]; exact .lst h
  | own j h1 =>
    rw [HV.ren]
    split
    · rename_i k e; rw [← hm j k e]; exact .own k (by rw [hm j k e]; exact h1)
    · exact .junk _
  | vw sz off m' h a b d x e =>
    rw [HV.ren]
    split
    · rename_i k' ek; exact .vw sz off m' (by rw [hm _ k' ek]; exact h) a b d x e
    · exact .junk _
  | ptr sz i k h =>
    rw [HV.ren]
    split
    · rename_i k' e; exact .ptr sz i k (by rw [hm _ k' e]; exact h)
    · exact .junk _
  | elt h h1 h2 => rw [HV.ren]; exact .elt h h1 h2
  | agg hn h1 h ih =>
    rw [HV.ren]
    exact .agg (by simpa using hn) h1 (fun j a b => by rw [List.getElem_map]; exact ih j a (by simpa using b))
  | tup hn h ih =>
    rw [HV.ren]
    exact .tup (by simpa using hn) (fun j a b => by rw [List.getElem_map]; exact ih j a (by simpa using b))
  | junk v => rw [HV.ren]; exact .junk v
theorem RepF.old {v : Value} {x : FV} (h : RepF w A n0 v x) (hs : w.heap.size ≤ w'.heap.size) (hb : ∀ b, b < w.heap.size → ¬ A b → w'.heap[b]? = w.heap[b]?) (hA : ∀ b, b < w.heap.size → A' b → A b) : RepF w' A' n1 v x.old := by
  induction h with
  | v x => rw [FV.old]; exact .v x
  | lst sz vals hn hc hm hnil hsz ha h1 hr ih =>
    rw [FV.old]
    refine .lst sz vals (by simpa using hn) hc hm hnil (fun x hx => ?_) (fun h0 => ?_) h1 (fun i k hi hk => ?_)
    · obtain ⟨y, hy, rfl⟩ := List.mem_map.1 hx
      rw [List.length_map]; exact hsz y hy
    · obtain ⟨b, off, ea, h2, h3, h4, h5⟩ := ha h0
      exact ⟨b, off, ea, fun hA' => h2 (hA b h3 hA'), by omega, fun hf => by (cases hf), fun i k hi hk => by rw [cell_block (hb b h3 h2)]; exact h5 i k hi hk⟩
    · have hi' := hi
      rw [List.length_map] at hi'
      have hk' := hk
      simp only [List.getElem_map, List.length_map] at hk'
      simp only [List.getElem_map]
      exact ih i k hi' hk'
/-- a function, of what stands -/
def HFun (P : Program) (f : FuncId) (args : List HV) (Q : HV → Store → Prop) : Prop :=
  ∀ (w : World) (vs : List Value), Reps w (fun _ => False) w.heap.size (fun _ => undef) vs args →
    Calls P f vs.toArray w (Ret fun v w' => Below w.heap.size w w' ∧ ∃ h st', (∀ i r, rlk st' i = some r → i < 8) ∧ Q h st' ∧ InvV (cx w (fun _ => False) (fun b => b < w.heap.size)) ⟨[], st'⟩ h v (fun _ => none) w')
theorem HFun.mono {f : FuncId} {args : List HV} {Q Q' : HV → Store → Prop} (h : HFun P f args Q) (hq : ∀ h st, Q h st → Q' h st) : HFun P f args Q' :=
  fun w vs hr => Ret.mono (h w vs hr) fun v w' ⟨B, x, st', h8, q, I⟩ => ⟨B, x, st', h8, hq _ _ q, I⟩
/-! ### its body -/
def argsH : Nat → List HV → HEnv
  | _, [] => []
  | k, v :: r => (k, v) :: argsH (k + 1) r
def pos (ids : List Nat) (i : Nat) : Option Nat := match ids with
  | [] => none
  | k :: r => if k = i then some 0 else (pos r i).map (· + 1)
def rpick (m : Nat → Option Nat) (st : Store) : Nat → List Nat → Store
  | _, [] => []
  | k, id :: r => match rlk st id with
    | some row => (k, row.ren m) :: rpick m st (k + 1) r
    | none => rpick m st (k + 1) r
def dup : List Nat → Bool
  | [] => false
  | k :: r => r.contains k || dup r
/-- what is answered: the value, the rows that go with it -/
def HRes (S : HS) (h : HV) (Q : HV → Store → Prop) : Prop :=
  ∃ ids, ids.length ≤ 8 ∧ dup ids = false ∧ FreshH h ∧ (∀ id ∈ ids, ∀ r, rlk S.st id = some r → FreshR r) ∧ Q (h.ren (pos ids)) (rpick (pos ids) S.st 0 ids)
def htup : List HV → HV
  | [h] => h
  | hs => .tup hs
def resH (P : Program) (S : HS) : List ResultVar → (List HV → Prop) → Prop
  | [], K => K []
  | .tmp t :: r, K => match hlk S.env t with
    | some h => resH P S r fun hs => K (h :: hs)
    | none => False
  | _, _ => False
def hfunQ (P : Program) (rs : List ResultVar) (Q : HV → Store → Prop) : HPost
  | .normal, S => resH P S rs fun hs => HRes S (htup hs) Q
  | .ret, S => resH P S rs fun hs => HRes S (htup hs) Q
  | _, _ => False
theorem argsH_get : ∀ (hs : List HV) (k t : Nat) (h : HV), hlk (argsH k hs) t = some h → k ≤ t ∧ hs[t - k]? = some h
  | [], k, t, h, e => by simp [argsH, hlk] at e
  | x :: r, k, t, h, e => by
    simp only [argsH, hlk] at e
    by_cases ek : k = t
    · subst ek; rw [if_pos rfl] at e; simp only [Option.some.injEq] at e; subst e; exact ⟨Nat.le_refl _, by simp⟩
    · rw [if_neg ek] at e
      obtain ⟨h1, h2⟩ := argsH_get r (k + 1) t h e
      refine ⟨by omega, ?_⟩
      rw [show t - k = (t - (k + 1)) + 1 by omega]
      simpa using h2
theorem argsE_at : ∀ (vs : List Value) (k t : Nat) (v : Value), k ≤ t → vs[t - k]? = some v → lk (argsE k vs) t = some v
  | [], k, t, v, h1, h2 => by simp at h2
  | u :: r, k, t, v, h1, h2 => by
    simp only [argsE, lk]
    by_cases e : k = t
    · subst e; rw [if_pos rfl]; simpa using h2
    · rw [if_neg e]
      refine argsE_at r (k + 1) t v (by omega) ?_
      rw [show t - k = (t - (k + 1)) + 1 by omega] at h2
      simpa using h2
theorem pos_get {ids : List Nat} : ∀ {i j : Nat}, pos ids i = some j → ids[j]? = some i := by
  induction ids with
  | nil => intro i j h; simp [pos] at h
  | cons k r ih =>
    intro i j h
    simp only [pos] at h
    by_cases e : k = i
    · subst e; rw [if_pos rfl] at h; simp only [Option.some.injEq] at h; subst h; rfl
    · rw [if_neg e] at h
      cases hr : pos r i with
      | none => rw [hr] at h; cases h
      | some j' => rw [hr] at h; simp only [Option.map_some, Option.some.injEq] at h; subst h; simpa using ih hr
theorem rpick_get {m : Nat → Option Nat} {st : Store} : ∀ {ids : List Nat} {k j : Nat} {r : Row}, rlk (rpick m st k ids) j = some r → k ≤ j ∧ ∃ id r0, ids[j - k]? = some id ∧ rlk st id = some r0 ∧ r = r0.ren m
  | [], k, j, r, h => by simp [rpick, rlk] at h
  | id :: rest, k, j, r, h => by
    simp only [rpick] at h
    have tail : rlk (rpick m st (k + 1) rest) j = some r → k ≤ j ∧ ∃ id' r0, (id :: rest)[j - k]? = some id' ∧ rlk st id' = some r0 ∧ r = r0.ren m := by
      intro h
      obtain ⟨h1, id', r0, h2, h3, h4⟩ := rpick_get h
      refine ⟨by omega, id', r0, ?_, h3, h4⟩
      rw [show j - k = (j - (k + 1)) + 1 by omega]
      simpa using h2
    split at h
    · rename_i row hrow
      simp only [rlk] at h
      by_cases e : k = j
      · subst e
        rw [if_pos rfl] at h
        simp only [Option.some.injEq] at h
        exact ⟨Nat.le_refl _, id, row, by simp, hrow, h.symm⟩
      · rw [if_neg e] at h; exact tail h
    · exact tail h
theorem dup_ne {ids : List Nat} (h : dup ids = false) : ∀ {i j a : Nat}, ids[i]? = some a → ids[j]? = some a → i = j := by
  induction ids with
  | nil => intro i j a h1; simp at h1
  | cons k r ih =>
    simp only [dup, Bool.or_eq_false_iff] at h
    intro i j a h1 h2
    have nm : ∀ n, r[n]? = some k → False := fun n hn => by
      have := List.mem_of_getElem? hn
      have h0 := h.1
      rw [List.contains_eq_mem] at h0
      simp [this] at h0
    cases i with
    | zero =>
      simp only [List.getElem?_cons_zero, Option.some.injEq] at h1
      subst h1
      cases j with
      | zero => rfl
      | succ j => exact (nm j (by simpa using h2)).elim
    | succ i =>
      cases j with
      | zero =>
        simp only [List.getElem?_cons_zero, Option.some.injEq] at h2
        subst h2
        exact (nm i (by simpa using h1)).elim
      | succ j => exact congrArg (· + 1) (ih h.2 (i := i) (j := j) (a := a) (by simpa using h1) (by simpa using h2))
theorem Row.ren_facts (m : Nat → Option Nat) (r : Row) : (r.ren m).ty = r.ty ∧ (r.ren m).sz = r.sz ∧ (r.ren m).len = r.len ∧ (r.ren m).nw = r.nw := by cases r <;> simp [Row.ren, Row.ty, Row.sz, Row.len, Row.nw]
/-- What is answered goes with its rows; all of it is new. -/
theorem res_good {w0 : World} (G : Good (cx w0 (fun _ => False) (fun _ => False)) S look w ρ xs) {v : Value} {h : HV} (hr : RepH w (Ctx.A (cx w0 (fun _ => False) (fun _ => False)) ρ S.st) w0.heap.size ρ v h) {Q : HV → Store → Prop} (R : HRes S h Q) :
    Below w0.heap.size w0 w ∧ ∃ h st', (∀ i r, rlk st' i = some r → i < 8) ∧ Q h st' ∧ InvV (cx w0 (fun _ => False) (fun b => b < w0.heap.size)) ⟨[], st'⟩ h v (fun _ => none) w := by
  obtain ⟨ids, hlen, hd, hf, hfr, q⟩ := R
  refine ⟨G.kept.below (fun _ _ h => h), h.ren (pos ids), _, fun i r hi => ?_, q, fun j => ρ (ids.getD j 0), fun j => xs (ids.getD j 0), ?_, ?_⟩
  · obtain ⟨_, id, r0, h2, -⟩ := rpick_get hi
    have := (List.getElem?_eq_some_iff.1 h2).1
    omega
  · have hm : ∀ i j, pos ids i = some j → ρ (ids.getD j 0) = ρ i := fun i j h => by rw [List.getD_eq_getElem?_getD, pos_get h]; rfl
    have hA : ∀ b, Ctx.A (cx w0 (fun _ => False) (fun b => b < w0.heap.size)) (fun j => ρ (ids.getD j 0)) (rpick (pos ids) S.st 0 ids) b → (Ctx.A (cx w0 (fun _ => False) (fun _ => False)) ρ S.st b ∨ b < w0.heap.size) := by
      rintro b (h0 | ⟨i, s, hi, hb⟩)
      · exact .inr h0
      · obtain ⟨_, id, r0, h2, h3, -⟩ := rpick_get hi
        rw [Nat.sub_zero] at h2
        try dsimp only at hb
        rw [List.getD_eq_getElem?_getD, h2, Option.getD_some] at hb
        exact .inl (.inr ⟨id, r0, h3, hb⟩)
    refine ⟨fun i r hi => ?_, fun i j r s b hne hi hj hbi hbj => ?_, fun k x hk => by simp [hlk] at hk, G.kept, fun b hb => ⟨hb, fun h => h⟩⟩
    · obtain ⟨_, id, r0, h2, h3, rfl⟩ := rpick_get hi
      rw [Nat.sub_zero] at h2
      have e : ids.getD i 0 = id := by rw [List.getD_eq_getElem?_getD, h2]; rfl
      have R0 := G.rows id r0 h3
      have F0 := hfr id (List.mem_of_getElem? h2) r0 h3
      obtain ⟨f1, f2, f3, f4⟩ := Row.ren_facts (pos ids) r0
      refine ⟨by rw [f1, f2, f3]; (try dsimp only); rw [e]; exact R0.own, ?_, fun b hb => ?_⟩
      · have := R0.rep
        cases r0 with
        | sl nw ty sz els =>
          refine ⟨this.1, fun a k ha hk => ?_⟩
          obtain ⟨u, u1, u2, u3⟩ := this.2 a k ha hk
          try dsimp only
          rw [e]
          refine ⟨u, u1, u2, ?_⟩
          exact (u3.fresh (F0.2 _ (List.getElem_mem ha) _ (List.getElem_mem hk))).up (Nat.le_refl _) (fun _ _ _ => rfl) (fun b _ => hA b) (Nat.le_refl _)
        | bx nw ty cells =>
          refine ⟨by (try dsimp only); rw [e]; exact this.1, fun k hk => ?_⟩
          rw [List.length_map] at hk
          obtain ⟨u, u1, u2, u3⟩ := this.2 k hk
          try dsimp only
          rw [e]
          refine ⟨u, u1, u2, ?_⟩
          rw [List.getElem_map]
          exact ((u3.fresh (F0.2 _ (List.getElem_mem hk))).up (Nat.le_refl _) (fun _ _ _ => rfl) (fun b _ => hA b) (Nat.le_refl _)).ren hm
      · try dsimp only at hb
        rw [e] at hb
        rw [f4]
        exact R0.new b hb
    · obtain ⟨_, a, r0, h2, h3, -⟩ := rpick_get hi
      obtain ⟨_, d, s0, h4, h5, -⟩ := rpick_get hj
      rw [Nat.sub_zero] at h2 h4
      try dsimp only at hbi hbj
      rw [List.getD_eq_getElem?_getD, h2, Option.getD_some] at hbi
      rw [List.getD_eq_getElem?_getD, h4, Option.getD_some] at hbj
      exact G.apart a d r0 s0 b (fun e => hne (by subst e; exact dup_ne hd h2 h4)) h3 h5 hbi hbj
  · have hm : ∀ i j, pos ids i = some j → ρ (ids.getD j 0) = ρ i := fun i j h => by rw [List.getD_eq_getElem?_getD, pos_get h]; rfl
    refine ((hr.fresh hf).up (Nat.le_refl _) (fun _ _ _ => rfl) (fun b _ => ?_) (Nat.le_refl _)).ren hm
    rintro (h0 | ⟨i, s, hi, hb⟩)
    · exact .inr h0
    · obtain ⟨_, id, r0, h2, h3, -⟩ := rpick_get hi
      rw [Nat.sub_zero] at h2
      try dsimp only at hb
      rw [List.getD_eq_getElem?_getD, h2, Option.getD_some] at hb
      exact .inl (.inr ⟨id, r0, h3, hb⟩)
/-- results, as they are read -/
theorem resH_resE (G : Good c S (lk l) w ρ xs) : ∀ (rs : List ResultVar) (K : List HV → Prop), resH P S rs K → resE P l w rs fun vs => ∃ hs, K hs ∧ Reps w (c.A ρ S.st) c.n0 ρ vs hs
  | [], K, h => ⟨[], h, rfl, fun i a => absurd a (by simp)⟩
  | .tmp t :: r, K, h => by
    simp only [resH] at h
    simp only [resE]
    split at h
    · rename_i x hx
      obtain ⟨v, h1, h2⟩ := G.env t x hx
      rw [h1]
      dsimp only
      refine resE_mono (resH_resE G r _ h) fun vs ⟨hs, hK, e1, e2⟩ => ⟨_, hK, by simp [e1], fun i a b => ?_⟩
      cases i with
      | zero => exact h2
      | succ i => exact e2 i (by simpa using a) (by simpa using b)
    · exact h.elim
  | .cell p t :: r, K, h => by simp only [resH] at h
where
  resE_mono {l : Env} {w : World} : ∀ {rs : List ResultVar} {K K' : List Value → Prop}, resE P l w rs K → (∀ vs, K vs → K' vs) → resE P l w rs K'
  | [], K, K', h, hk => hk _ h
  | .tmp t :: r, K, K', h, hk => by
    simp only [resE] at h ⊢
    split at h
    · exact resE_mono h fun vs hv => hk _ hv
    · exact h.elim
  | .cell p t :: r, K, K', h, hk => by
    simp only [resE] at h ⊢
    split at h
    · split at h
      · split at h
        · exact resE_mono h fun vs hv => hk _ hv
        · exact h.elim
      · obtain ⟨cs, a, h⟩ := h; exact ⟨cs, a, resE_mono h fun vs hv => hk _ hv⟩
      · exact h.elim
    · exact h.elim
end
end Go.Eng
