/-
  Functions that are handed rows to write: what they are given, what they answer; bodies, calls.
-/
import Derived.Test.YtppnicpbncfhnaaHg
set_option linter.unusedSimpArgs false
set_option linter.unusedVariables false
namespace Go.Eng
open Go Go.RowKit
def isBx : Option Row → Prop
  | some (.bx false _ _) => True
  | _ => False
/-- a function that is handed rows, named 0, 1, ..: what it answers, what stands in the rows then; a variable keeps its name -/
def HFunS (P : Program) (f : FuncId) (args : List HV) (st : Store) (Q : HV → Store → Prop) : Prop :=
  ∀ (c : Ctx) (w : World) (ρ : Nat → Value) (xs : Nat → List Value) (vs : List Value), c.w0 = w → Good c ⟨[], st⟩ (fun _ => none) w ρ xs → Reps w (c.A ρ st) c.n0 ρ vs args →
    Calls P f vs.toArray w (Ret fun v w' => ∃ h st' ρ' xs', (∀ i r, rlk st' i = some r → i < 8) ∧ (∀ j, isBx (rlk st j) → isBx (rlk st' j)) ∧ Q h st' ∧ Good c ⟨[], st'⟩ (fun _ => none) w' ρ' xs' ∧ RepH w' (c.A ρ' st') c.n0 ρ' v h)
theorem HFunS.mono {P : Program} {f : FuncId} {args : List HV} {st : Store} {Q Q' : HV → Store → Prop} (h : HFunS P f args st Q) (hq : ∀ h st, Q h st → Q' h st) : HFunS P f args st Q' :=
  fun c w ρ xs vs hw G hr => Ret.mono (h c w ρ xs vs hw G hr) fun v w' ⟨x, st', ρ', xs', a, b, q, r⟩ => ⟨x, st', ρ', xs', a, b, hq _ _ q, r⟩
/-! ### its body -/
def boxOk (st : Store) : Nat → List Nat → Prop
  | _, [] => True
  | k, id :: r => (isBx (rlk st id) → k = id) ∧ boxOk st (k + 1) r
def keepB (ids : List Nat) (st : Store) : Store → Prop
  | [] => True
  | (j, .bx false _ _) :: t => (ids[j]? = some j ∧ isBx (rlk st j)) ∧ keepB ids st t
  | _ :: t => keepB ids st t
def HResS (st0 : Store) (S : HS) (h : HV) (Q : HV → Store → Prop) : Prop :=
  ∃ ids, ids.length ≤ 8 ∧ dup ids = false ∧ boxOk S.st 0 ids ∧ keepB ids S.st st0 ∧ Q (h.ren (pos ids)) (rpick (pos ids) S.st 0 ids)
def hfunSQ (P : Program) (rs : List ResultVar) (st0 : Store) (Q : HV → Store → Prop) : HPost
  | .normal, S => resH P S rs fun hs => HResS st0 S (htup hs) Q
  | .ret, S => resH P S rs fun hs => HResS st0 S (htup hs) Q
  | _, _ => False
theorem boxOk_get {st : Store} : ∀ {ids : List Nat} {k j id : Nat}, boxOk st k ids → ids[j]? = some id → isBx (rlk st id) → k + j = id
  | [], k, j, id, _, h, _ => by simp at h
  | i :: r, k, j, id, hb, h, hx => by
    cases j with
    | zero => simp only [List.getElem?_cons_zero, Option.some.injEq] at h; subst h; exact hb.1 hx
    | succ j => have := boxOk_get (j := j) hb.2 (by simpa using h) hx; omega
theorem keepB_get {ids : List Nat} {st : Store} : ∀ {st0 : Store} {j : Nat}, keepB ids st st0 → isBx (rlk st0 j) → ids[j]? = some j ∧ isBx (rlk st j)
  | [], j, _, h => by simp [rlk, isBx] at h
  | (k, r) :: t, j, hk, h => by
    simp only [rlk] at h
    by_cases e : k = j
    · subst e
      rw [if_pos rfl] at h
      match r, h, hk with
      | .bx false _ _, _, hk => exact hk.1
      | .bx true _ _, h, _ => exact h.elim
      | .sl _ _ _ _, h, _ => exact h.elim
    · rw [if_neg e] at h
      match r, hk with
      | .bx false _ _, hk => exact keepB_get hk.2 h
      | .bx true _ _, hk => exact keepB_get (st0 := t) hk h
      | .sl _ _ _ _, hk => exact keepB_get (st0 := t) hk h
theorem rpick_at {m : Nat → Option Nat} {st : Store} : ∀ {ids : List Nat} {k j id : Nat} {r : Row}, ids[j]? = some id → rlk st id = some r → rlk (rpick m st k ids) (k + j) = some (r.ren m)
  | [], k, j, id, r, h, _ => by simp at h
  | i :: t, k, j, id, r, h, hr => by
    cases j with
    | zero =>
      simp only [List.getElem?_cons_zero, Option.some.injEq] at h
      subst h
      simp only [rpick, hr, rlk, Nat.add_zero, if_true]
    | succ j =>
      have ih := rpick_at (m := m) (st := st) (ids := t) (k := k + 1) (j := j) (by simpa using h) hr
      rw [show k + 1 + j = k + (j + 1) by omega] at ih
      simp only [rpick]
      split
      · simp only [rlk]; rw [if_neg (by omega)]; exact ih
      · exact ih
section
variable {P : Program} {N : Nat} {c : Ctx} {S S' : HS} {Q' : HPost} {l : Env} {look : Nat → Option Value} {w w' : World} {ρ ρ' : Nat → Value} {xs : Nat → List Value} {A A' : Nat → Prop} {n0 n1 : Nat}
/-- what is answered, with its rows -/
theorem resS_good (G : Good c S look w ρ xs) {v : Value} {h : HV} (hr : RepH w (c.A ρ S.st) c.n0 ρ v h) {st0 : Store} {Q : HV → Store → Prop} (R : HResS st0 S h Q) :
    ∃ h st' ρ' xs', (∀ i r, rlk st' i = some r → i < 8) ∧ (∀ j, isBx (rlk st0 j) → isBx (rlk st' j)) ∧ Q h st' ∧ Good c ⟨[], st'⟩ (fun _ => none) w ρ' xs' ∧ RepH w (c.A ρ' st') c.n0 ρ' v h := by
  obtain ⟨ids, hlen, hd, hbx, hkp, q⟩ := R
  have hm : ∀ i j, pos ids i = some j → ρ (ids.getD j 0) = ρ i := fun i j h => by rw [List.getD_eq_getElem?_getD, pos_get h]; rfl
  have hA : ∀ b, c.A (fun j => ρ (ids.getD j 0)) (rpick (pos ids) S.st 0 ids) b → c.A ρ S.st b := by
    rintro b (h0 | ⟨i, s, hi, hb⟩)
    · exact .inl h0
    · obtain ⟨_, id, r0, h2, h3, -⟩ := rpick_get hi
      rw [Nat.sub_zero] at h2
      try dsimp only at hb
      rw [List.getD_eq_getElem?_getD, h2, Option.getD_some] at hb
      exact .inr ⟨id, r0, h3, hb⟩
  refine ⟨h.ren (pos ids), _, fun j => ρ (ids.getD j 0), fun j => xs (ids.getD j 0), fun i r hi => ?_, fun j hj => ?_, q, ⟨fun i r hi => ?_, fun i j r s b hne hi hj hbi hbj => ?_, fun k x hk => by simp [hlk] at hk, G.kept, G.a0⟩, ?_⟩
  · obtain ⟨_, id, r0, h2, -⟩ := rpick_get hi
    have := (List.getElem?_eq_some_iff.1 h2).1
    omega
  · obtain ⟨h1, h2⟩ := keepB_get hkp hj
    cases hr2 : rlk S.st j with
    | none => rw [hr2] at h2; exact h2.elim
    | some r =>
      rw [hr2] at h2
      have := rpick_at (m := pos ids) (k := 0) h1 hr2
      rw [Nat.zero_add] at this
      rw [this]
      match r, h2 with
      | .bx false _ _, _ => exact trivial
      | .bx true _ _, h => exact h.elim
      | .sl _ _ _ _, h => exact h.elim
  · obtain ⟨_, id, r0, h2, h3, rfl⟩ := rpick_get hi
    rw [Nat.sub_zero] at h2
    have e : ids.getD i 0 = id := by rw [List.getD_eq_getElem?_getD, h2]; rfl
    have R0 := G.rows id r0 h3
    obtain ⟨f1, f2, f3, f4⟩ := Row.ren_facts (pos ids) r0
    refine ⟨by rw [f1, f2, f3]; (try dsimp only); rw [e]; exact R0.own, ?_, fun b hb => ?_⟩
    · have := R0.rep
      cases r0 with
      | sl nw ty sz els =>
        refine ⟨this.1, fun a k ha hk => ?_⟩
        obtain ⟨u, u1, u2, u3⟩ := this.2 a k ha hk
        try dsimp only
        rw [e]
        exact ⟨u, u1, u2, u3.up (Nat.le_refl _) (fun _ _ _ => rfl) (fun b _ => hA b) (Nat.le_refl _)⟩
      | bx nw ty cells =>
        refine ⟨by
          (try dsimp only); rw [e]
          obtain ⟨g, g1, g2⟩ := this.1
          refine ⟨g, g1, fun hf => ?_⟩
          have hf' : nw = false := hf
          have := boxOk_get hbx h2 (by rw [h3, hf']; exact trivial)
          rw [Nat.zero_add] at this
          rw [this]
          exact g2 hf', fun k hk => ?_⟩
        rw [List.length_map] at hk
        obtain ⟨u, u1, u2, u3⟩ := this.2 k hk
        try dsimp only
        rw [e]
        refine ⟨u, u1, u2, ?_⟩
        rw [List.getElem_map]
        exact (u3.up (Nat.le_refl _) (fun _ _ _ => rfl) (fun b _ => hA b) (Nat.le_refl _)).ren hm
    · try dsimp only at hb
      rw [e] at hb
      rw [f4]
      exact R0.new b hb
  · obtain ⟨_, a, r0, h2, h3, -⟩ := rpick_get hi
    obtain ⟨_, d, s0, h4, h5, -⟩ := rpick_get hj
    rw [Nat.sub_zero] at h2 h4
    try dsimp only at hbi hbj
    rw [List.getD_eq_getElem?_getD, h2, Option.getD_some] at hbi
    rw [List.getD_eq_getElem?_getD, h4, Option.getD_some] at hbj
    exact G.apart a d r0 s0 b (fun e => hne (by subst e; exact dup_ne hd h2 h4)) h3 h5 hbi hbj
  · exact (hr.up (Nat.le_refl _) (fun _ _ _ => rfl) (fun b _ => hA b) (Nat.le_refl _)).ren hm
/-- a function that is handed rows, by its body -/
theorem hfunS {f : FuncId} {fn : Func} {x : Code} {args : List HV} {st : Store} {rs : Array ResultVar} {Q : HV → Store → Prop} (hf : P.funcs[f]? = some fn) (hb : fn.body = some x) (hN : fn.ntmps = N) (hrs : fn.results = rs) (hle : args.length ≤ N)
    (h : HW P N x (hfunSQ P rs.toList st Q) ⟨argsH 0 args, st⟩) : HFunS P f args st Q := fun c w ρ xs vs _ G R => by
  refine calls_W hf hb hN hrs (by rw [R.1]; exact hle) ?_
  have I : Inv c ⟨argsH 0 args, st⟩ (lk (argsE 0 vs)) w := by
    refine ⟨ρ, xs, G.rows, G.apart, fun k h hk => ?_, G.kept, G.a0⟩
    obtain ⟨-, h2⟩ := argsH_get args 0 k h hk
    rw [Nat.sub_zero] at h2
    obtain ⟨hlt, rfl⟩ := List.getElem?_eq_some_iff.1 h2
    have hlt' : k < vs.length := by rw [R.1]; exact hlt
    exact ⟨vs[k], argsE_at vs 0 k _ (Nat.zero_le _) (by simp [hlt']), R.2 k hlt' hlt⟩
  refine (h _ _ _ I).mono fun e l' w' ⟨S', I', q⟩ => ?_
  obtain ⟨ρ, xs, G⟩ := I'
  have fin : resH P S' rs.toList (fun hs => HResS st S' (htup hs) Q) → resE P l' w' rs.toList fun vs => ∃ h st' ρ' xs', (∀ i r, rlk st' i = some r → i < 8) ∧ (∀ j, isBx (rlk st j) → isBx (rlk st' j)) ∧ Q h st' ∧ Good c ⟨[], st'⟩ (fun _ => none) w' ρ' xs' ∧ RepH w' (c.A ρ' st') c.n0 ρ' (tup vs) h := fun hr =>
    resH_resE.resE_mono (resH_resE G _ _ hr) fun vs ⟨hs, hR, hv⟩ => resS_good G (htup_rep hv) hR
  cases e with
  | normal => exact fin q
  | ret => exact fin q
  | _ => exact q.elim
/-! ### its call -/
def Row.dark : Row → Row
  | .sl n t s xs => .sl n t s xs
  | .bx _ t cs => .bx false t cs
def Row.flag (old : Option Row) (r : Row) : Row := match old, r with
  | some (.bx nw _ _), .bx _ t cs => .bx nw t cs
  | _, r => r
/-- the rows that are handed in, by the names that they have there -/
def dpick (m : Nat → Option Nat) (st : Store) : Nat → List Nat → Store
  | _, [] => []
  | k, id :: r => match rlk st id with
    | some row => (k, (row.ren m).dark) :: dpick m st (k + 1) r
    | none => dpick m st (k + 1) r
def nthO : List Nat → Nat → Option Nat
  | [], _ => none
  | k :: r, 0 => some k
  | _ :: r, j + 1 => nthO r j
def sh2 (ids : List Nat) (n : Nat) : Nat → Option Nat := fun j => match nthO ids j with
  | some i => some i
  | none => bif Nat.blt j 8 then some (n + j) else none
def inL (ids : List Nat) : Nat → Bool := fun i => match ids with
  | [] => false
  | k :: r => k == i || inL r i
def isSl : Option Row → Bool
  | some (.bx _ _ _) => false
  | _ => true
/-- the names that turn; those that are gone -/
def turned (ids : List Nat) (st : Store) (n : Nat) : Nat → Bool := fun i => eight n i || (inL ids i && isSl (rlk st i))
def gone (ids : List Nat) (n : Nat) : Nat → Bool := fun i => eight n i || inL ids i
def oldRow (ids : List Nat) (st : Store) (j : Nat) : Option Row := match nthO ids j with
  | some i => rlk st i
  | none => none
def swp (S0 : Store) (ids : List Nat) (n : Nat) : Store → Store → Store
  | [], base => base
  | (j, r) :: t, base => ((sh2 ids n j).getD 0, (r.ren (sh2 ids n)).flag (oldRow ids S0 j)) :: swp S0 ids n t base
def HS.swap (S : HS) (ids : List Nat) (n : Nat) (st' : Store) : HS := ⟨ekill (turned ids S.st n) S.env, swp S.st ids n st' (skill (gone ids n) S.st)⟩
theorem nthO_eq : ∀ (ids : List Nat) (j : Nat), nthO ids j = ids[j]?
  | [], j => by simp [nthO]
  | k :: r, 0 => rfl
  | k :: r, j + 1 => by simpa [nthO] using nthO_eq r j
theorem inL_iff {ids : List Nat} {i : Nat} : inL ids i = true ↔ ∃ j : Nat, ids[j]? = some i := by
  induction ids with
  | nil => simp [inL]
  | cons k r ih =>
    simp only [inL, Bool.or_eq_true, beq_iff_eq, ih]
    constructor
    · rintro (rfl | ⟨j, h⟩)
      · exact ⟨0, rfl⟩
      · exact ⟨j + 1, by simpa using h⟩
    · rintro ⟨j, h⟩
      cases j with
      | zero => left; simpa using h
      | succ j => right; exact ⟨j, by simpa using h⟩
theorem pos_of {ids : List Nat} (hd : dup ids = false) {i j : Nat} (h : ids[j]? = some i) : pos ids i = some j := by
  have : ∃ j', pos ids i = some j' := by
    clear hd
    induction ids generalizing j with
    | nil => simp at h
    | cons k r ih =>
      simp only [pos]
      by_cases e : k = i
      · exact ⟨0, by rw [if_pos e]⟩
      · rw [if_neg e]
        cases j with
        | zero => simp at h; exact (e h).elim
        | succ j => obtain ⟨j', hj⟩ := ih (j := j) (by simpa using h); exact ⟨j' + 1, by rw [hj]; rfl⟩
  obtain ⟨j', hj⟩ := this
  rw [hj, dup_ne hd (pos_get hj) h]
theorem dpick_get {m : Nat → Option Nat} {st : Store} : ∀ {ids : List Nat} {k j : Nat} {r : Row}, rlk (dpick m st k ids) j = some r → k ≤ j ∧ ∃ id r0, ids[j - k]? = some id ∧ rlk st id = some r0 ∧ r = (r0.ren m).dark
  | [], k, j, r, h => by simp [dpick, rlk] at h
  | id :: rest, k, j, r, h => by
    simp only [dpick] at h
    have tail : rlk (dpick m st (k + 1) rest) j = some r → k ≤ j ∧ ∃ id' r0, (id :: rest)[j - k]? = some id' ∧ rlk st id' = some r0 ∧ r = (r0.ren m).dark := by
      intro h
      obtain ⟨h1, id', r0, h2, h3, h4⟩ := dpick_get h
      refine ⟨by omega, id', r0, ?_, h3, h4⟩
      rw [show j - k = (j - (k + 1)) + 1 by omega]
      simpa using h2
    split at h
    · rename_i row hrow
      simp only [rlk] at h
      by_cases e : k = j
      · subst e
        rw [if_pos rfl] at h
        simp only [Option.some.injEq] at h
        exact ⟨Nat.le_refl _, id, row, by simp, hrow, h.symm⟩
      · rw [if_neg e] at h; exact tail h
    · exact tail h
theorem dpick_at {m : Nat → Option Nat} {st : Store} : ∀ {ids : List Nat} {k j id : Nat} {r : Row}, ids[j]? = some id → rlk st id = some r → rlk (dpick m st k ids) (k + j) = some (r.ren m).dark
  | [], k, j, id, r, h, _ => by simp at h
  | i :: t, k, j, id, r, h, hr => by
    cases j with
    | zero =>
      simp only [List.getElem?_cons_zero, Option.some.injEq] at h
      subst h
      simp only [dpick, hr, rlk, Nat.add_zero, if_true]
    | succ j =>
      have ih := dpick_at (m := m) (st := st) (ids := t) (k := k + 1) (j := j) (by simpa using h) hr
      rw [show k + 1 + j = k + (j + 1) by omega] at ih
      simp only [dpick]
      split
      · simp only [rlk]; rw [if_neg (by omega)]; exact ih
      · exact ih
theorem Row.dark_facts (r : Row) : r.dark.ty = r.ty ∧ r.dark.sz = r.sz ∧ r.dark.len = r.len := by cases r <;> simp [Row.dark, Row.ty, Row.sz, Row.len]
theorem Row.flag_facts (o : Option Row) (r : Row) : (r.flag o).ty = r.ty ∧ (r.flag o).sz = r.sz ∧ (r.flag o).len = r.len := by
  unfold Row.flag; split <;> simp [Row.ty, Row.sz, Row.len]
theorem rlk_swp {S0 : Store} {ids : List Nat} {n : Nat} {base : Store} (hd : dup ids = false) (hids : ∀ i ∈ ids, eight n i = false) : ∀ {st : Store} {i : Nat} {r : Row}, (∀ j s, rlk st j = some s → j < 8) → rlk (swp S0 ids n st base) i = some r →
    (∃ j s, sh2 ids n j = some i ∧ rlk st j = some s ∧ r = (s.ren (sh2 ids n)).flag (oldRow ids S0 j)) ∨ rlk base i = some r
  | [], i, r, _, h => .inr h
  | (k, s) :: t, i, r, h8, h => by
    have hk8 := h8 k s (by simp [rlk])
    have hsome : ∀ {j}, j < 8 → ∃ i, sh2 ids n j = some i := fun {j} hj => by
      unfold sh2
      split
      · exact ⟨_, rfl⟩
      · exact ⟨n + j, by rw [show Nat.blt j 8 = true by simp [Nat.blt_eq]; omega]; rfl⟩
    have hinj : ∀ {j j' i : Nat}, sh2 ids n j = some i → sh2 ids n j' = some i → j = j' := by
      have key : ∀ {j i : Nat}, sh2 ids n j = some i → (ids[j]? = some i) ∨ (ids[j]? = none ∧ j < 8 ∧ i = n + j) := by
        intro j i h
        unfold sh2 at h
        rw [nthO_eq] at h
        cases e : ids[j]? with
        | some a => rw [e] at h; left; simpa using h
        | none =>
          right
          rw [e] at h
          dsimp only at h
          cases e2 : Nat.blt j 8 with
          | false => rw [e2] at h; cases h
          | true => rw [e2] at h; simp only [cond_true, Option.some.injEq] at h; exact ⟨rfl, by simpa [Nat.blt_eq] using e2, h.symm⟩
      intro j j' i h h'
      rcases key h with a | ⟨a, a8, ai⟩ <;> rcases key h' with b | ⟨b, b8, bi⟩
      · exact dup_ne hd a b
      · have := hids i (List.mem_of_getElem? a)
        rw [bi, eight_iff.2 ⟨by omega, by omega⟩] at this; cases this
      · have := hids i (List.mem_of_getElem? b)
        rw [ai, eight_iff.2 ⟨by omega, by omega⟩] at this; cases this
      · omega
    simp only [swp, rlk] at h
    obtain ⟨i0, hi0⟩ := hsome hk8
    rw [hi0, Option.getD_some] at h
    by_cases e : i0 = i
    · rw [if_pos e] at h
      simp only [Option.some.injEq] at h
      left
      exact ⟨k, s, by rw [hi0, e], by simp [rlk], h.symm⟩
    · rw [if_neg e] at h
      have h8' : ∀ j s', rlk t j = some s' → j < 8 := fun j s' hj => by
        by_cases ej : k = j
        · omega
        · exact h8 j s' (by simp only [rlk]; rw [if_neg ej]; exact hj)
      rcases rlk_swp hd hids h8' h with ⟨j, s', a1, a2, a3⟩ | h
      · left
        refine ⟨j, s', a1, ?_, a3⟩
        simp only [rlk]
        rw [if_neg (fun ej => e (by subst ej; rw [hi0] at a1; simpa using a1))]; exact a2
      · exact .inr h
/-- a call that hands rows in -/
theorem hatS {f : FuncId} {args args' : List HV} {st : Store} {Q : HV → Store → Prop} {K : HV → HS → Prop} (n : Nat) (ids : List Nat) (hc : callable P f = true) (H : HFunS P f args' st Q)
    (hd : dup ids = false) (hlen : ids.length ≤ 8) (hids : ∀ i ∈ ids, eight n i = false) (hst : dpick (pos ids) S.st 0 ids = st) (hargs : args.map (HV.ren (pos ids)) = args')
    (hK : ∀ h st', Q h st' → K (h.ren (sh2 ids n)) (S.swap ids n st')) : HAt P f args S K :=
  ⟨hc, fun c look w ρ xs vs G R => by
    subst hst; subst hargs
    let ρ1 : Nat → Value := fun j => ρ (ids.getD j 0)
    let xs1 : Nat → List Value := fun j => xs (ids.getD j 0)
    let st : Store := dpick (pos ids) S.st 0 ids
    have hgetD : ∀ {j i : Nat}, ids[j]? = some i → ids.getD j 0 = i := fun h => by rw [List.getD_eq_getElem?_getD, h]; rfl
    have hm : ∀ i j, pos ids i = some j → ρ1 j = ρ i := fun i j h => by show ρ (ids.getD j 0) = _; rw [hgetD (pos_get h)]
    have inOwn : ∀ b, Owns ρ1 st b → ∃ (j i : Nat) (r : Row), ids[j]? = some i ∧ rlk S.st i = some r ∧ (ρ i).ownBlock = some b := by
      rintro b ⟨j, r, hj, hb⟩
      obtain ⟨_, i, r0, h2, h3, -⟩ := dpick_get hj
      rw [Nat.sub_zero] at h2
      have hb : (ρ (ids.getD j 0)).ownBlock = some b := hb
      rw [hgetD h2] at hb
      exact ⟨j, i, r0, h2, h3, hb⟩
    have ownIn : ∀ {j i : Nat} {r : Row} {b : Nat}, ids[j]? = some i → rlk S.st i = some r → (ρ i).ownBlock = some b → Owns ρ1 st b := fun {j i r b} h2 h3 hb => by
      have := dpick_at (m := pos ids) (k := 0) h2 h3
      rw [Nat.zero_add] at this
      exact ⟨j, _, this, by show (ρ (ids.getD j 0)).ownBlock = _; rw [hgetD h2]; exact hb⟩
    have ownA : ∀ b, Owns ρ1 st b → c.A ρ S.st b := fun b h => by
      obtain ⟨j, i, r, h2, h3, hb⟩ := inOwn b h
      exact .inr ⟨i, r, h3, hb⟩
    have ltA : ∀ b, c.A ρ S.st b → b < w.heap.size := by
      rintro b (h0 | ⟨i, r, hi, hb⟩)
      · have := (G.a0 b h0).1; have := G.kept.size; omega
      · exact G.lt hi hb
    let c1 : Ctx := ⟨w, Owns ρ1 st, fun b => c.A ρ S.st b ∧ ¬ Owns ρ1 st b, c.n0, Nat.le_trans c.hn G.kept.size, fun j g => ∃ (i : Nat) (nw : Bool) (ty : Nat) (cs : List HV), ids[j]? = some i ∧ rlk S.st i = some (.bx nw ty cs) ∧ ρ i = .slice (some ⟨g, 0, none⟩) 1 1⟩
    have hA1 : ∀ b, c1.A ρ1 st b → c.A ρ S.st b := by
      rintro b (h0 | h0)
      · exact h0.1
      · exact ownA b h0
    have hw0 := G.kept.size
    have G1 : Good c1 ⟨[], st⟩ (fun _ => none) w ρ1 xs1 := by
      refine ⟨fun j r hj => ?_, fun i j r s b hne hi hj hbi hbj => ?_, fun k x hk => by simp [hlk] at hk, Kept.refl _ _, fun b hb => ⟨ltA b hb.1, hb.2⟩⟩
      · obtain ⟨_, i, r0, h2, h3, rfl⟩ := dpick_get hj
        rw [Nat.sub_zero] at h2
        have e : ids.getD j 0 = i := hgetD h2
        have R0 := G.rows i r0 h3
        obtain ⟨f1, f2, f3, f4⟩ := Row.ren_facts (pos ids) r0
        obtain ⟨d1, d2, d3⟩ := Row.dark_facts (r0.ren (pos ids))
        refine ⟨by rw [d1, d2, d3, f1, f2, f3]; show Own w 0 _ _ (ρ (ids.getD j 0)) _ (xs (ids.getD j 0)); rw [e]; exact R0.own, ?_, fun b hb => ?_⟩
        · have := R0.rep
          cases r0 with
          | sl nw ty sz els =>
            refine ⟨this.1, fun a k ha hk => ?_⟩
            show ∃ u, (xs (ids.getD j 0))[a * sz + k]? = some u ∧ _
            rw [e]
            obtain ⟨u, u1, u2, u3⟩ := this.2 a k ha hk
            exact ⟨u, u1, u2, u3.up (Nat.le_refl _) (fun _ _ _ => rfl) (fun b _ => hA1 b) (Nat.le_refl _)⟩
          | bx nw ty cells =>
            refine ⟨?_, fun k hk => ?_⟩
            · show ∃ g, ρ (ids.getD j 0) = _ ∧ _
              rw [e]
              obtain ⟨g, g1, g2⟩ := this.1
              exact ⟨g, g1, fun _ => ⟨i, nw, ty, cells, h2, h3, g1⟩⟩
            · rw [List.length_map] at hk
              show ∃ u, (xs (ids.getD j 0))[k]? = some u ∧ _
              rw [e]
              obtain ⟨u, u1, u2, u3⟩ := this.2 k hk
              refine ⟨u, u1, u2, ?_⟩
              rw [List.getElem_map]
              exact (u3.up (Nat.le_refl _) (fun _ _ _ => rfl) (fun b _ => hA1 b) (Nat.le_refl _)).ren hm
        · have hb : (ρ (ids.getD j 0)).ownBlock = some b := hb
          rw [e] at hb
          refine ⟨.inr (ownIn h2 h3 hb), fun hnw => (R0.new b hb).2 ?_⟩
          cases r0 with
          | sl nw ty sz els => exact hnw
          | bx nw ty cells => cases hnw
      · obtain ⟨_, a, r0, h2, h3, -⟩ := dpick_get hi
        obtain ⟨_, d, s0, h4, h5, -⟩ := dpick_get hj
        rw [Nat.sub_zero] at h2 h4
        have hbi : (ρ (ids.getD i 0)).ownBlock = some b := hbi
        have hbj : (ρ (ids.getD j 0)).ownBlock = some b := hbj
        rw [hgetD h2] at hbi
        rw [hgetD h4] at hbj
        exact G.apart a d r0 s0 b (fun e => hne (by subst e; exact dup_ne hd h2 h4)) h3 h5 hbi hbj
    have R1 : Reps w (c1.A ρ1 st) c1.n0 ρ1 vs (args.map (HV.ren (pos ids))) := ⟨by rw [List.length_map]; exact R.1, fun i h1 h2 => by
      rw [List.getElem_map]
      exact ((R.2 i h1 (by simpa using h2)).up (Nat.le_refl _) (fun _ _ _ => rfl) (fun b _ => hA1 b) (Nat.le_refl _)).ren hm⟩
    refine Ret.mono (H c1 w ρ1 xs1 vs rfl G1 R1) fun v w2 ⟨h, st2, ρ2, xs2, h8, hbx, q, G2, hr⟩ => ⟨_, _, hK h st2 q, ?_⟩
    have K2 := G2.kept
    -- the rows behind the call
    let ρ3 : Nat → Value := fun i => match pos ids i with
      | some j => ρ2 j
      | none => bif eight n i then ρ2 (i - n) else ρ i
    have p1 : ∀ {i j : Nat}, sh2 ids n j = some i → ρ3 i = ρ2 j := by
      intro i j h
      unfold sh2 at h
      rw [nthO_eq] at h
      cases e : ids[j]? with
      | some a =>
        rw [e] at h
        simp only [Option.some.injEq] at h
        subst h
        show (match pos ids a with | some j => ρ2 j | none => _) = _
        rw [pos_of hd e]
      | none =>
        rw [e] at h
        dsimp only at h
        cases e2 : Nat.blt j 8 with
        | false => rw [e2] at h; cases h
        | true =>
          rw [e2] at h
          simp only [cond_true, Option.some.injEq] at h
          subst h
          have hj : j < 8 := by simpa [Nat.blt_eq] using e2
          have e8 : eight n (n + j) = true := eight_iff.2 ⟨by omega, by omega⟩
          show (match pos ids (n + j) with | some j => ρ2 j | none => _) = _
          cases ep : pos ids (n + j) with
          | some j' => have := hids _ (List.mem_of_getElem? (pos_get ep)); rw [e8] at this; cases this
          | none => dsimp only; rw [e8, cond_true, show n + j - n = j by omega]
    have p2 : ∀ {i : Nat}, gone ids n i = false → ρ3 i = ρ i := by
      intro i h
      simp only [gone, Bool.or_eq_false_iff] at h
      show (match pos ids i with | some j => ρ2 j | none => _) = _
      cases ep : pos ids i with
      | some j => have : inL ids i = true := inL_iff.2 ⟨j, pos_get ep⟩; rw [h.2] at this; cases this
      | none => dsimp only; rw [h.1]; rfl
    have p3 : ∀ {i : Nat}, turned ids S.st n i = false → ρ3 i = ρ i := by
      intro i h
      simp only [turned, Bool.or_eq_false_iff, Bool.and_eq_false_iff] at h
      rcases h.2 with h2 | h2
      · exact p2 (by simp only [gone, h.1, h2, Bool.or_self])
      · cases ei : inL ids i with
        | false => exact p2 (by simp only [gone, h.1, ei, Bool.or_self])
        | true =>
        obtain ⟨j, hj⟩ := inL_iff.1 ei
        cases er : rlk S.st i with
        | none => rw [er] at h2; cases h2
        | some r =>
          rw [er] at h2
          cases r with
          | sl nw ty sz els => cases h2
          | bx nw ty cs =>
            have hb1 := dpick_at (m := pos ids) (k := 0) hj er
            rw [Nat.zero_add] at hb1
            have := hbx j (by rw [hb1]; exact trivial)
            cases e2 : rlk st2 j with
            | none => rw [e2] at this; exact this.elim
            | some r2 =>
              rw [e2] at this
              match r2, this with
              | .bx false ty2 cs2, _ =>
                obtain ⟨⟨g, g1, g2⟩, -⟩ := (G2.rows j _ e2).rep
                obtain ⟨i', nw', ty', cs', q1, q2, q3⟩ := g2 rfl
                rw [hj] at q1
                simp only [Option.some.injEq] at q1
                subst q1
                have : sh2 ids n j = some i := by unfold sh2; rw [nthO_eq, hj]
                rw [p1 this, g1, q3]
              | .bx true _ _, h => exact h.elim
              | .sl _ _ _ _, h => exact h.elim
    have rows3 : ∀ i r, rlk (S.swap ids n st2).st i = some r → (∃ j s, sh2 ids n j = some i ∧ rlk st2 j = some s ∧ r = (s.ren (sh2 ids n)).flag (oldRow ids S.st j) ∧ ρ3 i = ρ2 j) ∨ (∃ s, gone ids n i = false ∧ rlk S.st i = some s ∧ r = s.kill (gone ids n) ∧ ρ3 i = ρ i) := by
      intro i r hi
      rcases rlk_swp hd hids h8 hi with ⟨j, s, a1, a2, a3⟩ | a2
      · exact .inl ⟨j, s, a1, a2, a3, p1 a1⟩
      · right
        rw [rlk_skill] at a2
        cases eg : gone ids n i with
        | true => rw [eg] at a2; cases a2
        | false =>
          rw [eg, cond_false] at a2
          cases hs : rlk S.st i with
          | none => rw [hs] at a2; cases a2
          | some s => rw [hs] at a2; simp only [Option.map_some, Option.some.injEq] at a2; exact ⟨s, rfl, rfl, a2.symm, p2 eg⟩
    have new2 : ∀ j s b, rlk st2 j = some s → (ρ2 j).ownBlock = some b → w.heap.size ≤ b ∨ Owns ρ1 st b := fun j s b hs hb => ((G2.rows j s hs).new b hb).1
    have notIn : ∀ {i : Nat} {s : Row} {b : Nat}, gone ids n i = false → rlk S.st i = some s → (ρ i).ownBlock = some b → ¬ Owns ρ1 st b := fun {i s b} hg hs hb ho => by
      obtain ⟨j, i', r', h2, h3, hb'⟩ := inOwn b ho
      refine G.apart i i' s r' b (fun e => ?_) hs h3 hb hb'
      subst e
      simp only [gone, Bool.or_eq_false_iff] at hg
      have : inL ids i = true := inL_iff.2 ⟨j, h2⟩
      rw [hg.2] at this; cases this
    have notA0 : ∀ b, c.A0 b → ¬ Owns ρ1 st b := fun b h0 ho => by
      obtain ⟨j, i, r, h2, h3, hb⟩ := inOwn b ho
      obtain ⟨a1, a2⟩ := G.a0 b h0
      rcases ((G.rows i r h3).new b hb).1 with h | h
      · omega
      · exact a2 h
    have hA3 : ∀ b, b < w.heap.size → c.A ρ3 (S.swap ids n st2).st b → c.A ρ S.st b := by
      rintro b hlt (h0 | ⟨i, r, hi, hb⟩)
      · exact .inl h0
      · rcases rows3 i r hi with ⟨j, s, _, a2, _, a4⟩ | ⟨s, _, a2, _, a4⟩
        · rw [a4] at hb
          rcases new2 j s b a2 hb with h | h
          · omega
          · exact ownA b h
        · rw [a4] at hb; exact .inr ⟨i, s, a2, hb⟩
    have hA4 : ∀ b, c.A ρ3 (S.swap ids n st2).st b → c1.A ρ2 st2 b := by
      rintro b (h0 | ⟨i, r, hi, hb⟩)
      · exact .inl ⟨.inl h0, notA0 b h0⟩
      · rcases rows3 i r hi with ⟨j, s, _, a2, _, a4⟩ | ⟨s, a1, a2, _, a4⟩
        · rw [a4] at hb; exact .inr ⟨j, s, a2, hb⟩
        · rw [a4] at hb; exact .inl ⟨.inr ⟨i, s, a2, hb⟩, notIn a1 a2 hb⟩
    have hblk : ∀ b, b < w.heap.size → ¬ c.A ρ S.st b → w2.heap[b]? = w.heap[b]? := fun b hlt hn => K2.block b hlt fun h => hn (ownA b h)
    have tr1 : ∀ v x, RepH w (c.A ρ S.st) c.n0 ρ v x → RepH w2 (c.A ρ3 (S.swap ids n st2).st) c.n0 ρ3 v (x.kill (turned ids S.st n)) := fun v x hx => (hx.up K2.size hblk hA3 (Nat.le_refl _)).kill fun i hi => p3 hi
    have tr2 : ∀ v x, RepH w2 (c1.A ρ2 st2) c.n0 ρ2 v x → RepH w2 (c.A ρ3 (S.swap ids n st2).st) c.n0 ρ3 v (x.ren (sh2 ids n)) := fun v x hx => (hx.up (Nat.le_refl _) (fun _ _ _ => rfl) (fun b _ => hA4 b) (Nat.le_refl _)).ren fun i j h => p1 h
    let xs3 : Nat → List Value := fun i => match pos ids i with
      | some j => xs2 j
      | none => bif eight n i then xs2 (i - n) else xs i
    have x1 : ∀ {i j : Nat}, sh2 ids n j = some i → xs3 i = xs2 j := by
      intro i j h
      unfold sh2 at h
      rw [nthO_eq] at h
      cases e : ids[j]? with
      | some a =>
        rw [e] at h
        simp only [Option.some.injEq] at h
        subst h
        show (match pos ids a with | some j => xs2 j | none => _) = _
        rw [pos_of hd e]
      | none =>
        rw [e] at h
        dsimp only at h
        cases e2 : Nat.blt j 8 with
        | false => rw [e2] at h; cases h
        | true =>
          rw [e2] at h
          simp only [cond_true, Option.some.injEq] at h
          subst h
          have hj : j < 8 := by simpa [Nat.blt_eq] using e2
          have e8 : eight n (n + j) = true := eight_iff.2 ⟨by omega, by omega⟩
          show (match pos ids (n + j) with | some j => xs2 j | none => _) = _
          cases ep : pos ids (n + j) with
          | some j' => have := hids _ (List.mem_of_getElem? (pos_get ep)); rw [e8] at this; cases this
          | none => dsimp only; rw [e8, cond_true, show n + j - n = j by omega]
    have x2 : ∀ {i : Nat}, gone ids n i = false → xs3 i = xs i := by
      intro i h
      simp only [gone, Bool.or_eq_false_iff] at h
      show (match pos ids i with | some j => xs2 j | none => _) = _
      cases ep : pos ids i with
      | some j => have : inL ids i = true := inL_iff.2 ⟨j, pos_get ep⟩; rw [h.2] at this; cases this
      | none => dsimp only; rw [h.1]; rfl
    refine ⟨ρ3, xs3, ⟨fun i r hi => ?_, fun i j r s b hne hi hj hbi hbj => ?_, fun k x hk => ?_, ?_, G.a0⟩, tr2 _ _ hr⟩
    · rcases rows3 i r hi with ⟨j, s, a1, a2, rfl, a4⟩ | ⟨s, a1, a2, rfl, a4⟩
      · have R2 := G2.rows j s a2
        rw [x1 a1]
        -- the variable that was handed in
        have old : ∀ {nw : Bool} {ty : Nat} {cs : List HV}, oldRow ids S.st j = some (.bx nw ty cs) → ∃ i0, ids[j]? = some i0 ∧ i0 = i ∧ rlk S.st i = some (.bx nw ty cs) := by
          intro nw ty cs ho
          unfold oldRow at ho
          rw [nthO_eq] at ho
          cases e : ids[j]? with
          | none => rw [e] at ho; cases ho
          | some i0 =>
            rw [e] at ho
            have : sh2 ids n j = some i0 := by unfold sh2; rw [nthO_eq, e]
            rw [a1] at this
            simp only [Option.some.injEq] at this
            subst this
            exact ⟨_, rfl, rfl, ho⟩
        have same : ∀ {nw : Bool} {ty : Nat} {cs : List HV}, oldRow ids S.st j = some (.bx nw ty cs) → ρ3 i = ρ i := fun {nw ty cs} ho => by
          obtain ⟨i0, b1, rfl, b3⟩ := old ho
          refine p3 ?_
          simp only [turned, b3, isSl, Bool.and_false, Bool.or_false]
          exact hids _ (List.mem_of_getElem? b1)
        have out : ∀ b, (ρ2 j).ownBlock = some b → (c.w0.heap.size ≤ b ∨ c.T b) := fun b hb => by
          rcases new2 j s b a2 hb with h | h
          · left; omega
          · obtain ⟨j', i', r', h2, h3, hb'⟩ := inOwn b h
            exact ((G.rows i' r' h3).new b hb').1
        have own2 := R2.own
        have rp := R2.rep
        cases s with
        | sl nw ty sz els =>
          have e : (Row.ren (sh2 ids n) (.sl nw ty sz els)).flag (oldRow ids S.st j) = .sl nw ty sz els := by
            rw [Row.ren]
            cases oldRow ids S.st j with
            | none => rfl
            | some o => cases o <;> rfl
          rw [e]
          refine ⟨by rw [a4]; exact own2, ⟨rp.1, fun p k hp hk => ?_⟩, fun b hb => ?_⟩
          · obtain ⟨u, u1, u2, u3⟩ := rp.2 p k hp hk
            exact ⟨u, u1, u2, u3.up (Nat.le_refl _) (fun _ _ _ => rfl) (fun b _ => hA4 b) (Nat.le_refl _)⟩
          · rw [a4] at hb
            exact ⟨out b hb, (R2.new b hb).2⟩
        | bx nw ty cells =>
          obtain ⟨nw', e, hB, hN⟩ : ∃ nw', (Row.ren (sh2 ids n) (.bx nw ty cells)).flag (oldRow ids S.st j) = .bx nw' ty (cells.map (HV.ren (sh2 ids n))) ∧ (nw' = false → ∃ g, ρ3 i = .slice (some ⟨g, 0, none⟩) 1 1 ∧ c.B i g) ∧
              (nw' = true → ∀ b, (ρ2 j).ownBlock = some b → c.n0 ≤ b) := by
            have plain : ∀ {P : Prop}, (∀ nw ty cs, oldRow ids S.st j ≠ some (.bx nw ty cs)) → nw = false → P := fun hno hf => by
              obtain ⟨g, g1, g2⟩ := rp.1
              obtain ⟨i', nw', ty', cs', q1, q2, q3⟩ := g2 hf
              exact (hno nw' ty' cs' (by unfold oldRow; rw [nthO_eq, q1]; exact q2)).elim
            rw [Row.ren]
            cases ho : oldRow ids S.st j with
            | none => exact ⟨nw, rfl, fun hf => plain (fun _ _ _ h => by rw [ho] at h; cases h) hf, fun ht b hb => (R2.new b hb).2 ht⟩
            | some o =>
              cases o with
              | sl nwo tyo szo elo => exact ⟨nw, rfl, fun hf => plain (fun _ _ _ h => by rw [ho] at h; cases h) hf, fun ht b hb => (R2.new b hb).2 ht⟩
              | bx nwo tyo cso =>
                refine ⟨nwo, rfl, fun hf => ?_, fun ht b hb => ?_⟩
                · obtain ⟨i0, b1, rfl, b3⟩ := old ho
                  obtain ⟨⟨g, g1, g2⟩, -⟩ := (G.rows _ _ b3).rep
                  exact ⟨g, by rw [same ho]; exact g1, g2 hf⟩
                · obtain ⟨i0, b1, rfl, b3⟩ := old ho
                  rw [← a4, same ho] at hb
                  exact ((G.rows _ _ b3).new b hb).2 ht
          rw [e]
          obtain ⟨g, g1, g2⟩ := rp.1
          refine ⟨by rw [a4]; simpa [Row.ty, Row.sz, Row.len] using own2, ⟨⟨g, by rw [a4]; exact g1, fun hf => ?_⟩, fun k hk => ?_⟩, fun b hb => ?_⟩
          · obtain ⟨g', h1, h2⟩ := hB hf
            rw [a4, g1] at h1
            simp only [Value.slice.injEq, Option.some.injEq, Addr.mk.injEq] at h1
            obtain ⟨⟨rfl, -⟩, -⟩ := h1
            exact h2
          · rw [List.length_map] at hk
            obtain ⟨u, u1, u2, u3⟩ := rp.2 k hk
            refine ⟨u, u1, u2, ?_⟩
            rw [List.getElem_map]
            exact tr2 _ _ u3
          · rw [a4] at hb
            exact ⟨out b hb, fun ht => hN ht b hb⟩
      · rw [x2 a1]
        have RR := (G.rows i s a2).up K2.size hblk hA3 (fun b hb => K2.block b (G.lt a2 hb) (notIn a1 a2 hb))
        exact RR.kill (fun i hi => p2 hi) a1
    · rcases rows3 i r hi with ⟨j1, s1, a1, a2, -, a4⟩ | ⟨s1, a1, a2, -, a4⟩ <;> rcases rows3 j s hj with ⟨j2, s2, b1, b2, -, b4⟩ | ⟨s2, b1, b2, -, b4⟩
      · rw [a4] at hbi; rw [b4] at hbj
        exact G2.apart j1 j2 s1 s2 b (fun e => hne (by subst e; rw [a1] at b1; simpa using b1)) a2 b2 hbi hbj
      · rw [a4] at hbi; rw [b4] at hbj
        rcases new2 j1 s1 b a2 hbi with h | h
        · have := G.lt b2 hbj; omega
        · exact notIn b1 b2 hbj h
      · rw [a4] at hbi; rw [b4] at hbj
        rcases new2 j2 s2 b b2 hbj with h | h
        · have := G.lt a2 hbi; omega
        · exact notIn a1 a2 hbi h
      · rw [a4] at hbi; rw [b4] at hbj
        exact G.apart i j s1 s2 b hne a2 b2 hbi hbj
    · simp only [HS.swap, hlk_ekill] at hk
      cases hx : hlk S.env k with
      | none => rw [hx] at hk; cases hk
      | some x0 =>
        rw [hx] at hk
        simp only [Option.map_some, Option.some.injEq] at hk
        subst hk
        obtain ⟨v, h1, h2⟩ := G.env k x0 hx
        exact ⟨v, h1, tr1 v x0 h2⟩
    · refine G.kept.trans K2 fun b hlt hT => ?_
      obtain ⟨j, i, r, h2, h3, hb⟩ := inOwn b hT
      rcases ((G.rows i r h3).new b hb).1 with h | h
      · omega
      · exact h⟩
end
end Go.Eng
