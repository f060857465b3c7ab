/-
  Functions over values: bodies, calls, rows that come to rest.
-/
import Derived.Test.YtppnicpbncfhnaaHf
set_option linter.unusedSimpArgs false
set_option linter.unusedVariables false
namespace Go.Eng
open Go Go.RowKit
section
variable {P : Program} {N : Nat} {c : Ctx} {S S' : HS} {Q' : HPost} {l : Env} {look : Nat → Option Value} {w w' : World} {ρ ρ' : Nat → Value} {xs : Nat → List Value} {A A' : Nat → Prop} {n0 n1 : Nat}
theorem htup_rep {vs : List Value} {hs : List HV} (R : Reps w A n0 ρ vs hs) : RepH w A n0 ρ (tup vs) (htup hs) := by
  obtain ⟨h1, h2⟩ := R
  match vs, hs, h1 with
  | [], [], _ => exact .tup rfl fun j a => absurd a (by simp)
  | [v], [h], _ => exact h2 0 (by simp) (by simp)
  | a :: b :: r, x :: y :: s, e => exact .tup (by simpa using e) fun j p q => h2 j (by simpa using p) q
/-- a function, by its body -/
theorem hfun {f : FuncId} {fn : Func} {x : Code} {args : List HV} {rs : Array ResultVar} {Q : HV → Store → Prop} (hf : P.funcs[f]? = some fn) (hb : fn.body = some x) (hN : fn.ntmps = N) (hrs : fn.results = rs) (hle : args.length ≤ N)
    (h : HW P N x (hfunQ P rs.toList Q) ⟨argsH 0 args, []⟩) : HFun P f args Q := fun w vs R => by
  refine calls_W hf hb hN hrs (by rw [R.1]; exact hle) ?_
  have I : Inv (cx w (fun _ => False) (fun _ => False)) ⟨argsH 0 args, []⟩ (lk (argsE 0 vs)) w := by
    refine ⟨fun _ => undef, fun _ => [], fun id r hr => by simp [rlk] at hr, fun i j r s b hne hi => by simp [rlk] at hi, fun k h hk => ?_, Kept.refl _ _, fun b hb => hb.elim⟩
    obtain ⟨-, h2⟩ := argsH_get args 0 k h hk
    rw [Nat.sub_zero] at h2
    obtain ⟨hlt, rfl⟩ := List.getElem?_eq_some_iff.1 h2
    have hlt' : k < vs.length := by rw [R.1]; exact hlt
    refine ⟨vs[k], argsE_at vs 0 k _ (Nat.zero_le _) (by simp [hlt']), (R.2 k hlt' hlt).up (Nat.le_refl _) (fun _ _ _ => rfl) (fun b _ hA => ?_) (Nat.le_refl _)⟩
    rcases hA with h0 | ⟨i, r, hi, -⟩
    · exact h0
    · simp [rlk] at hi
  refine (h _ _ _ I).mono fun e l' w' ⟨S', I', q⟩ => ?_
  obtain ⟨ρ, xs, G⟩ := I'
  have fin : resH P S' rs.toList (fun hs => HRes S' (htup hs) Q) → resE P l' w' rs.toList fun vs => Below w.heap.size w w' ∧ ∃ h st', (∀ i r, rlk st' i = some r → i < 8) ∧ Q h st' ∧ InvV (cx w (fun _ => False) (fun b => b < w.heap.size)) ⟨[], st'⟩ h (tup vs) (fun _ => none) w' := fun hr =>
    resH_resE.resE_mono (resH_resE G _ _ hr) fun vs ⟨hs, hR, hv⟩ => res_good G (htup_rep hv) hR
  cases e with
  | normal => exact fin q
  | ret => exact fin q
  | _ => exact q.elim
/-- what is lent to a function that only reads it -/
inductive Lend (st : Store) : HV → HV → Prop
  | v (x : Value) : Lend st (.v x) (.v x)
  | nil : Lend st (.v (.slice none 0 0)) (.lst false [])
  | lst (fr : Bool) (xs : List (List FV)) : Lend st (.lst fr xs) (.lst false (olds xs))
  | own {id ty sz : Nat} {nw : Bool} {els : List (List FV)} (h : rlk st id = some (.sl nw ty sz els)) : Lend st (.own id) (.lst false (olds els))
  | vw {id ty sz off n : Nat} {nw : Bool} {els : List (List FV)} (h : rlk st id = some (.sl nw ty sz els)) : Lend st (.vw id sz off n) (.lst false (olds ((els.drop off).take n)))
  | agg {hs hs' : List HV} (hn : hs.length = hs'.length) (h : ∀ j (h1 : j < hs.length) (h2 : j < hs'.length), Lend st hs[j] hs'[j]) : Lend st (.agg hs) (.agg hs')
theorem lend_rep (G : Good c S look w ρ xs) {v : Value} {h h' : HV} (hr : RepH w (c.A ρ S.st) c.n0 ρ v h) (hl : Lend S.st h h') : RepH w (fun _ => False) w.heap.size (fun _ => undef) v h' := by
  induction hl generalizing v with
  | v x => have := repH_v hr; subst this; exact .v _
  | nil =>
    have := repH_v hr
    subst this
    exact .lst (.lst 0 (fun _ _ => .bool false) rfl (Nat.le_refl _) (Nat.zero_le _) (fun _ => rfl) (by simp) (fun h => absurd h (Nat.lt_irrefl _)) (fun i k hi => absurd hi (Nat.not_lt_zero _)) (fun i k hi => absurd hi (by simp)))
  | lst fr xs =>
    cases hr with
    | lst hF =>
    have := hF.old (A' := fun _ => False) (n1 := w.heap.size) (Nat.le_refl _) (fun _ _ _ => rfl) (fun b _ h => h.elim)
    rw [FV.old] at this
    exact .lst this
  | @own id ty sz nw els h =>
    cases hr
    obtain ⟨o1, o2, o3⟩ := rows_sl G h
    have o1' : Own w 0 ty sz (ρ id) (olds els).length (xs id) := by rw [olds, List.length_map]; exact o1
    refine .lst (row_lst o1' (fun x hx => ?_) (fun i k hi hk => ?_) (fun b _ => ⟨fun h => h, fun h => by cases h⟩))
    · obtain ⟨y, hy, rfl⟩ := List.mem_map.1 hx
      rw [List.length_map]; exact o2 y hy
    · have hi' := hi
      simp only [olds, List.length_map] at hi'
      have hk' := hk
      simp only [olds, List.getElem_map, List.length_map] at hk'
      obtain ⟨u, a, b, d⟩ := o3 i k hi' hk'
      refine ⟨u, a, b, ?_⟩
      simp only [olds, List.getElem_map]
      exact d.old (Nat.le_refl _) (fun _ _ _ => rfl) (fun b _ h => h.elim)
  | @vw id ty sz off n nw els h =>
    cases hr with
    | vw _ _ _ hg hm hc hn' hx' ha =>
    rename_i len c0 c' a a'
    obtain ⟨o1, o2, o3⟩ := rows_sl G h
    obtain ⟨q2, cap2, hg2⟩ := own_shape o1
    rw [hg] at hg2
    cases hg2
    have hle : n ≤ c' := by
      rcases o1.2 with ⟨h3, h4⟩ | ⟨g, cap', cur, h3, hb1, hb2, h4, h5, hb3⟩
      · omega
      · rw [hg] at h3; cases h3; omega
    have val : ∀ i k (hi : i < n) (hk : k < sz), ∃ u, (xs id).getD ((off + i) * sz + k) (.bool false) = u ∧ (xs id)[(off + i) * sz + k]? = some u ∧ u.oneCell' = true ∧ ∃ (h1 : off + i < els.length) (h2 : k < els[off + i].length), RepF w (c.A ρ S.st) c.n0 u els[off + i][k] := fun i k hi hk => by
      have h1 : off + i < els.length := by omega
      have h2 : k < els[off + i].length := by rw [o2 _ (List.getElem_mem h1)]; exact hk
      obtain ⟨u, p, q, r⟩ := o3 (off + i) k h1 h2
      exact ⟨u, by rw [List.getD_eq_getElem?_getD, p]; rfl, p, q, h1, h2, r⟩
    refine .lst (.lst sz (fun i k => (xs id).getD ((off + i) * sz + k) (.bool false)) (by simp [olds]; omega) hle hx' hn' (fun x hx => ?_) (fun h0 => ?_) (fun i k hi hk => ?_) (fun i k hi hk => ?_))
    · simp only [olds, List.mem_map] at hx
      obtain ⟨y, hy, rfl⟩ := hx
      rw [List.length_map]; exact o2 y (List.mem_of_mem_drop (List.mem_of_mem_take hy))
    · obtain ⟨g, rfl, rfl⟩ := ha (by omega)
      rw [hg] at o1
      have hl := o1.1
      rcases o1.2 with ⟨h3, h4⟩ | ⟨g', cap', cur, h3, hb1, hb2, h4, h5, hb3⟩
      · cases h3
      · cases h3
        refine ⟨g, off * sz, rfl, fun h => h, (Array.getElem?_eq_some_iff.1 hb2).1, fun h => (by cases h), fun i k hi hk => ?_⟩
        obtain ⟨u, p, q, -⟩ := val i k hi hk
        rw [p, ← q, ← World.ownsRow.cellAt o1 _ (by rw [← hl]; exact (List.getElem?_eq_some_iff.1 q).1)]
        congr 2
        rw [Nat.add_mul]; omega
    · obtain ⟨u, p, -, q, -⟩ := val i k hi hk
      rw [p]; exact q
    · simp only [olds, List.length_map, List.length_take, List.length_drop] at hi
      have hk' := hk
      simp only [olds, List.getElem_map, List.getElem_take, List.getElem_drop, List.length_map] at hk'
      obtain ⟨u, p, -, -, q1, q2, r⟩ := val i k (by omega) (by rw [← o2 _ (List.getElem_mem (show off + i < els.length by omega))]; exact hk')
      rw [p]
      simp only [olds, List.getElem_map, List.getElem_take, List.getElem_drop]
      exact r.old (Nat.le_refl _) (fun _ _ _ => rfl) (fun b _ h => h.elim)
  | agg hn h ih =>
    cases hr with
    | agg hn' h1 hr => exact .agg (by omega) h1 fun j a b => ih j (by omega) b (hr j a (by omega))
/-- names of what a call has made -/
def sh (n : Nat) : Nat → Option Nat := fun i => bif Nat.blt i 8 then some (n + i) else none
def radds (n : Nat) : Store → Store → Store
  | [], base => base
  | (k, r) :: t, base => (n + k, r.ren (sh n)) :: radds n t base
def HS.adds (S : HS) (n : Nat) (st : Store) : HS := ⟨ekill (eight n) S.env, radds n st (skill (eight n) S.st)⟩
theorem eight_iff {n i : Nat} : eight n i = true ↔ n ≤ i ∧ i < n + 8 := by simp [eight, Nat.blt_eq]
theorem rlk_radds {n : Nat} {base : Store} (hb : ∀ i, eight n i = true → rlk base i = none) : ∀ {st : Store} {i : Nat} {r : Row}, (∀ j s, rlk st j = some s → j < 8) → rlk (radds n st base) i = some r → (∃ s, n ≤ i ∧ rlk st (i - n) = some s ∧ r = s.ren (sh n)) ∨ (eight n i = false ∧ rlk base i = some r)
  | [], i, r, _, h => by
    right
    refine ⟨?_, h⟩
    cases e : eight n i with
    | false => rfl
    | true => simp only [radds] at h; rw [hb i e] at h; cases h
  | (k, s) :: t, i, r, h8, h => by
    simp only [radds, rlk] at h
    by_cases e : n + k = i
    · rw [if_pos e] at h
      simp only [Option.some.injEq] at h
      left
      refine ⟨s, by omega, ?_, h.symm⟩
      simp only [rlk]
      rw [if_pos (by omega)]
    · rw [if_neg e] at h
      have hk8 := h8 k s (by simp [rlk])
      have h8' : ∀ j s, rlk t j = some s → j < 8 := fun j s' hj => by
        by_cases ej : k = j
        · omega
        · exact h8 j s' (by simp only [rlk]; rw [if_neg ej]; exact hj)
      rcases rlk_radds hb h8' h with ⟨s', a1, a2, a3⟩ | h
      · left
        refine ⟨s', a1, ?_, a3⟩
        simp only [rlk]
        rw [if_neg (by omega)]; exact a2
      · exact .inr h
/-- what a call has made comes to what the caller has -/
theorem Good.adds (G : Good c S look w ρ xs) (B : Below w.heap.size w w') {st : Store} (h8 : ∀ i r, rlk st i = some r → i < 8) {ρ' : Nat → Value} {xs' : Nat → List Value} (G' : Good (cx w (fun _ => False) (fun b => b < w.heap.size)) ⟨[], st⟩ (fun _ => none) w' ρ' xs') {v : Value} {h : HV}
    (hr : RepH w' (Ctx.A (cx w (fun _ => False) (fun b => b < w.heap.size)) ρ' st) w.heap.size ρ' v h) (n : Nat) : InvV c (S.adds n st) (h.ren (sh n)) v look w' := by
  have hbase : ∀ i, eight n i = true → rlk (skill (eight n) S.st) i = none := fun i hi => by rw [rlk_skill, hi]; rfl
  have hw0 : c.n0 ≤ w.heap.size := Nat.le_trans c.hn G.kept.size
  have hw1 := G.kept.size
  let ρ2 : Nat → Value := fun i => bif eight n i then ρ' (i - n) else ρ i
  have q1 : ∀ i, eight n i = false → ρ2 i = ρ i := fun i hi => by show (bif eight n i then _ else _) = _; rw [hi]; rfl
  have q2 : ∀ i j, sh n i = some j → ρ2 j = ρ' i := fun i j hj => by
    unfold sh at hj
    cases e : Nat.blt i 8 with
    | false => rw [e] at hj; cases hj
    | true =>
      rw [e] at hj
      simp only [cond_true, Option.some.injEq] at hj
      subst hj
      have : i < 8 := by simpa [Nat.blt_eq] using e
      show (bif eight n (n + i) then _ else _) = _
      rw [eight_iff.2 ⟨by omega, by omega⟩, cond_true, show n + i - n = i by omega]
  have cases2 : ∀ i r, rlk (S.adds n st).st i = some r → (∃ s, eight n i = true ∧ rlk st (i - n) = some s ∧ r = s.ren (sh n) ∧ ρ2 i = ρ' (i - n)) ∨ (∃ s, eight n i = false ∧ rlk S.st i = some s ∧ r = s.kill (eight n) ∧ ρ2 i = ρ i) := by
    intro i r hi
    rcases rlk_radds hbase h8 hi with ⟨s, a1, a2, a3⟩ | ⟨a1, a2⟩
    · left
      have := h8 _ _ a2
      have e : eight n i = true := eight_iff.2 ⟨a1, by omega⟩
      exact ⟨s, e, a2, a3, by show (bif eight n i then _ else _) = _; rw [e]; rfl⟩
    · right
      rw [rlk_skill, a1, cond_false] at a2
      cases hs : rlk S.st i with
      | none => rw [hs] at a2; cases a2
      | some s => rw [hs] at a2; simp only [Option.map_some, Option.some.injEq] at a2; exact ⟨s, a1, rfl, a2.symm, q1 i a1⟩
  have new : ∀ i s b, rlk st i = some s → (ρ' i).ownBlock = some b → w.heap.size ≤ b := fun i s b hs hb => by
    rcases ((G'.rows i s hs).new b hb).1 with h | h
    · exact h
    · exact h.elim
  have hA1 : ∀ b, b < w.heap.size → c.A ρ2 (S.adds n st).st b → c.A ρ S.st b := by
    rintro b hlt (h0 | ⟨i, r, hi, hb⟩)
    · exact .inl h0
    · rcases cases2 i r hi with ⟨s, _, a2, _, a4⟩ | ⟨s, _, a2, _, a4⟩
      · rw [a4] at hb; have := new _ s b a2 hb; omega
      · rw [a4] at hb; exact .inr ⟨i, s, a2, hb⟩
  have hA2 : ∀ b, c.A ρ2 (S.adds n st).st b → Ctx.A (cx w (fun _ => False) (fun b => b < w.heap.size)) ρ' st b := by
    rintro b (h0 | ⟨i, r, hi, hb⟩)
    · left; have := (G.a0 b h0).1; show b < w.heap.size; omega
    · rcases cases2 i r hi with ⟨s, _, a2, _, a4⟩ | ⟨s, _, a2, _, a4⟩
      · rw [a4] at hb; exact .inr ⟨_, s, a2, hb⟩
      · rw [a4] at hb; left; exact G.lt a2 hb
  have tr1 : ∀ v x, RepH w (c.A ρ S.st) c.n0 ρ v x → RepH w' (c.A ρ2 (S.adds n st).st) c.n0 ρ2 v (x.kill (eight n)) := fun v x hx => (hx.up B.size (fun b hlt _ => B.block b hlt) hA1 (Nat.le_refl _)).kill q1
  have tr2 : ∀ v x, RepH w' (Ctx.A (cx w (fun _ => False) (fun b => b < w.heap.size)) ρ' st) w.heap.size ρ' v x → RepH w' (c.A ρ2 (S.adds n st).st) c.n0 ρ2 v (x.ren (sh n)) := fun v x hx => (hx.up (Nat.le_refl _) (fun _ _ _ => rfl) (fun b _ => hA2 b) hw0).ren q2
  refine ⟨ρ2, fun i => bif eight n i then xs' (i - n) else xs i, ⟨fun i r hi => ?_, fun i j r s b hne hi hj hbi hbj => ?_, fun k x hk => ?_, ?_, G.a0⟩, tr2 _ _ hr⟩
  · rcases cases2 i r hi with ⟨s, a1, a2, rfl, a4⟩ | ⟨s, a1, a2, rfl, a4⟩
    · have R := G'.rows _ s a2
      obtain ⟨f1, f2, f3, f4⟩ := Row.ren_facts (sh n) s
      rw [a1, cond_true]
      refine ⟨by rw [f1, f2, f3, a4]; exact R.own, ?_, fun b hb => ?_⟩
      · have := R.rep
        cases s with
        | sl nw ty sz els =>
          refine ⟨this.1, fun p k hp hk => ?_⟩
          obtain ⟨u, u1, u2, u3⟩ := this.2 p k hp hk
          exact ⟨u, u1, u2, u3.up (Nat.le_refl _) (fun _ _ _ => rfl) (fun b _ => hA2 b) hw0⟩
        | bx nw ty cells =>
          refine ⟨by obtain ⟨g, e, hT⟩ := this.1; exact ⟨g, by rw [a4]; exact e, fun h => (hT h).elim⟩, fun k hk => ?_⟩
          rw [List.length_map] at hk
          obtain ⟨u, u1, u2, u3⟩ := this.2 k hk
          refine ⟨u, u1, u2, ?_⟩
          rw [List.getElem_map]
          exact tr2 _ _ u3
      · rw [a4] at hb
        have := new _ s b a2 hb
        exact ⟨.inl (by omega), fun _ => by omega⟩
    · rw [a1, cond_false]
      have R := (G.rows i s a2).up B.size (fun b hlt _ => B.block b hlt) hA1 (fun b hb => B.block b (G.lt a2 hb))
      exact R.kill q1 a1
  · rcases cases2 i r hi with ⟨s1, a1, a2, -, a4⟩ | ⟨s1, a1, a2, -, a4⟩ <;> rcases cases2 j s hj with ⟨s2, b1, b2, -, b4⟩ | ⟨s2, b1, b2, -, b4⟩
    · rw [a4] at hbi; rw [b4] at hbj
      have e1 := eight_iff.1 a1
      have e2 := eight_iff.1 b1
      exact G'.apart _ _ s1 s2 b (by omega) a2 b2 hbi hbj
    · rw [a4] at hbi; rw [b4] at hbj
      have := new _ s1 b a2 hbi
      have := G.lt b2 hbj
      omega
    · rw [a4] at hbi; rw [b4] at hbj
      have := new _ s2 b b2 hbj
      have := G.lt a2 hbi
      omega
    · rw [a4] at hbi; rw [b4] at hbj
      exact G.apart i j s1 s2 b hne a2 b2 hbi hbj
  · simp only [HS.adds, hlk_ekill] at hk
    cases hx : hlk S.env k with
    | none => rw [hx] at hk; cases hk
    | some x0 =>
      rw [hx] at hk
      simp only [Option.map_some, Option.some.injEq] at hk
      subst hk
      obtain ⟨v, h1, h2⟩ := G.env k x0 hx
      exact ⟨v, h1, tr1 v x0 h2⟩
  · exact G.kept.trans (T' := fun _ => False) ⟨B.os, B.tape, B.output, B.size, fun b hlt _ => B.block b hlt⟩ (fun _ _ h => h.elim)
inductive Lends (st : Store) : List HV → List HV → Prop
  | nil : Lends st [] []
  | cons {h h' : HV} {r r' : List HV} (a : Lend st h h') (b : Lends st r r') : Lends st (h :: r) (h' :: r')
theorem lends_rep (G : Good c S look w ρ xs) {hs hs' : List HV} {vs : List Value} (R : Reps w (c.A ρ S.st) c.n0 ρ vs hs) (L : Lends S.st hs hs') : Reps w (fun _ => False) w.heap.size (fun _ => undef) vs hs' := by
  induction L generalizing vs with
  | nil => exact ⟨R.1, fun i a b => absurd b (by simp)⟩
  | cons a b ih =>
    rename_i h h' r r'
    match vs, R.1 with
    | v :: us, e =>
      have R' : Reps w (c.A ρ S.st) c.n0 ρ us r := ⟨by simpa using e, fun i p q => by
        have := R.2 (i + 1) (by simpa using p) (by simpa using q)
        simpa using this⟩
      obtain ⟨i1, i2⟩ := ih R'
      refine ⟨by simp [i1], fun i p q => ?_⟩
      cases i with
      | zero => exact lend_rep G (R.2 0 (by simp) (by simp)) a
      | succ i => exact i2 i (by simpa using p) (by simpa using q)
/-- a call, by what is known of the function -/
theorem hat {f : FuncId} {args args' : List HV} {Q : HV → Store → Prop} {K : HV → HS → Prop} (n : Nat) (hc : callable P f = true) (H : HFun P f args' Q) (hl : Lends S.st args args') (hK : ∀ h st, Q h st → K (h.ren (sh n)) (S.adds n st)) : HAt P f args S K :=
  ⟨hc, fun c look w ρ xs vs G R => Ret.mono (H w vs (lends_rep G R hl)) fun v w' ⟨B, h, st, h8, q, ρ', xs', G', hr⟩ => ⟨_, _, hK h st q, G.adds B h8 G' hr n⟩⟩
/-- a call that answers one plain value, in a drawn region -/
theorem hatq {f : FuncId} {args args' : List HV} {x : Value} {K : Value → Prop} (hc : callable P f = true) (H : HFun P f args' (fun h st => h = .v x)) (hl : Lends S.st args args') (hK : K x) : HAtQ P f args S K :=
  ⟨hc, x, hK, fun c look w ρ xs vs G R => Ret.mono (H w vs (lends_rep G R hl)) fun v w' ⟨B, h, st, h8, q, ρ', xs', G', hr⟩ => ⟨by subst q; exact repH_v hr, B⟩⟩
/-- a call that answers one plain value -/
theorem hatv {f : FuncId} {args args' : List HV} {x : Value} {K : HV → HS → Prop} (hc : callable P f = true) (H : HFun P f args' (fun h st => h = .v x)) (hl : Lends S.st args args') (hK : K (.v x) S) : HAt P f args S K :=
  ⟨hc, fun c look w ρ xs vs G R => Ret.mono (H w vs (lends_rep G R hl)) fun v w' ⟨B, h, st, h8, q, ρ', xs', G', hr⟩ => ⟨_, _, hK, ρ, xs, G.below B, by subst q; have := repH_v hr; subst this; exact .v _⟩⟩
/-- a law: true, and nothing that was there has turned -/
theorem law_calls {f : FuncId} {args : List HV} {x : Value} (H : HFun P f args (fun h st => h = .v x)) {vs : List Value} (hr : Reps w (fun _ => False) w.heap.size (fun _ => undef) vs args) : Calls P f vs.toArray w (Ret fun r w' => r = x ∧ Below w.heap.size w w') :=
  Ret.mono (H w vs hr) fun v w' ⟨B, h, st, h8, q, ρ', xs', G', hr⟩ => ⟨by subst q; exact repH_v hr, B⟩
/-- a row comes to rest: it is read on, written no more -/
theorem HW_rest {x : Code} (id : Nat) {ty sz : Nat} {nw : Bool} {els : List (List FV)} (hr : rlk S.st id = some (.sl nw ty sz els)) (h : HW P N x Q' (S.rest id (.lst nw els))) : HW P N x Q' S := fun c l w I => h c l w (I.rest hr)
end
end Go.Eng
