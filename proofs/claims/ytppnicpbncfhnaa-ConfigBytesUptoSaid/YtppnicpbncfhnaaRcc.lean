/-
  A call that hands a variable of plain values in by pointer.
-/
import Derived.Test.YtppnicpbncfhnaaRcv
set_option linter.unusedSimpArgs false
set_option linter.unusedVariables false
namespace Go.Eng
open Go Go.RowKit
section
variable {P : Program} {N : Nat} {c : Ctx} {S : HS} {look : Nat → Option Value} {w w' : World} {ρ : Nat → Value} {xs : Nat → List Value}
/-- a row's content turns, where it lies; new memory may have come -/
theorem Good.upds (h : Good c S look w ρ xs) (id : Nat) (r0 r : Row) (ys : List Value) (hs : w.heap.size ≤ w'.heap.size) (hos : w'.os = w.os) (htape : w'.tape = w.tape) (hout : w'.output = w.output)
    (hr0 : rlk S.st id = some r0) (hnw : r.nw = r0.nw) (hb : ∀ b, b < w.heap.size → (ρ id).ownBlock ≠ some b → w'.heap[b]? = w.heap[b]?)
    (st' : Store) (hst : ∀ i, rlk st' i = if i = id then some r else rlk S.st i)
    (hrow : RowOk w' (c.A ρ st') c ρ id r ys) :
    Good c ⟨S.env, st'⟩ look w' ρ (fun i => if i = id then ys else xs i) := by
  have hA : ∀ b, c.A ρ st' b → c.A ρ S.st b := by
    rintro b (h0 | ⟨i, s, hi, hbi⟩)
    · exact .inl h0
    · right
      rw [hst] at hi
      by_cases e : i = id
      · subst e; exact ⟨i, r0, hr0, hbi⟩
      · rw [if_neg e] at hi; exact ⟨i, s, hi, hbi⟩
  have hb' : ∀ b, b < w.heap.size → ¬ c.A ρ S.st b → w'.heap[b]? = w.heap[b]? := fun b hl hn => hb b hl fun e => hn (.inr ⟨id, r0, hr0, e⟩)
  have tr : ∀ v x, RepH w (c.A ρ S.st) c.n0 ρ v x → RepH w' (c.A ρ st') c.n0 ρ v x := fun v x hv => hv.up hs hb' (fun b _ => hA b) (Nat.le_refl _)
  have back : ∀ i s, rlk st' i = some s → ∃ s0, rlk S.st i = some s0 := by
    intro i s hi
    rw [hst] at hi
    by_cases e : i = id
    · subst e; exact ⟨r0, hr0⟩
    · rw [if_neg e] at hi; exact ⟨s, hi⟩
  refine ⟨?_, ?_, ?_, ?_, h.a0⟩
  · intro i s hi
    rw [hst] at hi
    by_cases e : i = id
    · subst e
      rw [if_pos rfl] at hi
      simp only [Option.some.injEq] at hi
      subst hi
      rw [if_pos rfl]
      exact hrow
    · rw [if_neg e] at hi
      rw [if_neg e]
      exact (h.rows i s hi).up hs hb' (fun b _ => hA b) (fun b hbi => hb b (h.lt hi hbi) fun e2 => h.apart i id s r0 b e hi hr0 hbi e2)
  · intro i j ri rj b hne hi hj hbi hbj
    obtain ⟨s0, h1⟩ := back i ri hi
    obtain ⟨s1, h2⟩ := back j rj hj
    exact h.apart i j s0 s1 b hne h1 h2 hbi hbj
  · intro k x hk
    obtain ⟨v, h1, h2⟩ := h.env k x hk
    exact ⟨v, h1, tr v x h2⟩
  · refine h.kept.trans (T' := fun b => (ρ id).ownBlock = some b) ⟨hos, htape, hout, hs, fun b hlt hn => hb b hlt hn⟩ fun b hlt e => ?_
    rcases ((h.rows id r0 hr0).new b e).1 with hge | hT
    · omega
    · exact hT
/-- the call: the variable's row, what is answered, what stands in it then -/
theorem hatP {f : FuncId} {id sz ty : Nat} {nw : Bool} {cells args : List Value} {Q : HV → List Value → Prop} {K : HV → HS → Prop} (hc : callable P f = true) (hr : rlk S.st id = some (.bx nw ty (cells.map .v))) (H : HRcv P f ty cells args Q)
    (hK : ∀ h cells', Q h cells' → K h ⟨S.env, sset id (.bx nw ty (cells'.map .v)) S.st⟩) : HAt P f (.ptr id sz 0 0 :: args.map .v) S K :=
  ⟨hc, fun c look w ρ xs vs G R => by
    have Rw := G.rows id _ hr
    have o := Rw.own
    obtain ⟨⟨g, hg, hT⟩, hcl⟩ := Rw.rep
    simp only [Row.ty, Row.sz, Row.len, List.length_map] at o
    rw [hg] at o
    have hl := o.1
    rw [Nat.one_mul] at hl
    have hx : ∀ k (hk : k < cells.length), (xs id)[k]? = some cells[k] ∧ cells[k].oneCell' = true := fun k hk => by
      obtain ⟨u, u1, u2, u3⟩ := hcl k (by simpa using hk)
      rw [List.getElem_map] at u3
      have := repH_v u3
      subst this
      exact ⟨u1, u2⟩
    have e : xs id = cells := by
      apply List.ext_getElem?
      intro k
      by_cases hk : k < cells.length
      · rw [(hx k hk).1, List.getElem?_eq_getElem hk]
      · rw [List.getElem?_eq_none (by omega), List.getElem?_eq_none (by omega)]
    rw [e] at o
    have hvs : vs = (Value.pointer (some ⟨g, 0, none⟩)) :: args := by
      obtain ⟨hn, hrep⟩ := R
      match vs, hn with
      | u :: us, hn =>
        have h0 := hrep 0 (by simp) (by simp)
        simp only [List.getElem_cons_zero] at h0
        congr 1
        · cases h0 with
          | ptr _ _ _ hρ =>
          rw [hg] at hρ
          simp only [Value.slice.injEq, Option.some.injEq, Addr.mk.injEq] at hρ
          obtain ⟨⟨rfl, -⟩, -, -⟩ := hρ
          simp
        · apply List.ext_getElem
          · simpa using hn
          · intro k a b
            have := hrep (k + 1) (by simpa using a) (by simpa using b)
            simp only [List.getElem_cons_succ, List.getElem_map] at this
            exact repH_v this
    subst hvs
    refine Ret.mono (H w g o (fun u hu => by obtain ⟨k, hk, rfl⟩ := List.getElem_of_mem hu; exact (hx k hk).2)) fun v w' ⟨KP, h, cells', q, hp, hlen, hone, o', hrep⟩ => ?_
    refine ⟨h, _, hK h cells' q, ρ, _, G.upds id _ (.bx nw ty (cells'.map .v)) cells' KP.size KP.os KP.tape KP.output hr rfl (fun b hlt hne => KP.block b hlt fun e => hne (by rw [hg, e]; rfl)) _ (rlk_sset id _ _ _ hr) ?_, hrep.plain hp⟩
    refine ⟨by simp only [Row.ty, Row.sz, Row.len, List.length_map]; rw [hg, hlen]; exact o', ⟨⟨g, hg, hT⟩, fun k hk => ?_⟩, Rw.new⟩
    have hk' : k < cells'.length := by simpa using hk
    exact ⟨cells'[k], List.getElem?_eq_getElem hk', hone _ (List.getElem_mem hk'), by rw [List.getElem_map]; exact .v _⟩⟩
/-- a call that answers plain values -/
theorem hatt {f : FuncId} {args args' : List HV} {xs : List Value} {K : HV → HS → Prop} (hc : callable P f = true) (H : HFun P f args' (fun h st => h = .tup (xs.map .v))) (hl : Lends S.st args args') (hK : K (.tup (xs.map .v)) S) : HAt P f args S K :=
  ⟨hc, fun c look w ρ xs' vs G R => Ret.mono (H w vs (lends_rep G R hl)) fun v w' ⟨B, h, st, h8, q, ρ', xs', G', hr⟩ => ⟨_, _, hK, ρ, _, G.below B, by subst q; exact hr.plain (.tup xs)⟩⟩
end
end Go.Eng
