/-
  A call that hands a variable of plain values in by pointer.
-/
import Derived.Test.YtkonlklieacjoaaDoorRcv
set_option linter.unusedSimpArgs false
set_option linter.unusedVariables false
namespace Go.Eng
open Go Go.RowKit
section
variable {P : Program} {N : Nat} {c : Ctx} {S : HS} {look : Nat → Option Value} {w w' : World} {ρ : Nat → Value} {xs : Nat → List Value}
theorem Good.upds (h : Good c S look w ρ xs) (id : Nat) (r0 r : Row) (ys : List Value) (hs : w.heap.size ≤ w'.heap.size) (hos : w'.os = w.os) (htape : w'.tape = w.tape) (hout : w'.output = w.output)
  (hr0 : rlk S.st id = some r0) (hnw : r.nw = r0.nw) (hb : ∀ b, b < w.heap.size → (ρ id).ownBlock ≠ some b → w'.heap[b]? = w.heap[b]?)
  (st' : aD) (hst : ∀ i, rlk st' i = if i = id then some r else rlk S.st i)
  (hrow : RowOk w' (c.A ρ st') c ρ id r ys) :
  Good c ⟨S.env, st'⟩ look w' ρ (fun i => if i = id then ys else xs i) := by
 have hA : ∀ b, c.A ρ st' b → c.A ρ S.st b := by
  rintro b (h0 | ⟨i, s, hi, hbi⟩)
  ·exact .inl h0
  ·right
   rw [hst] at hi
   by_cases e : i = id
   ·subst e; exact ⟨i, r0, hr0, hbi⟩
   ·rw [if_neg e] at hi; exact ⟨i, s, hi, hbi⟩
 have hb' : ∀ b, b < w.heap.size → ¬ c.A ρ S.st b → w'.heap[b]? = w.heap[b]? := fun b hl hn => hb b hl fun e => hn (.inr ⟨id, r0, hr0, e⟩)
 have tr : ∀ v x, RepH w (c.A ρ S.st) c.n0 ρ v x → RepH w' (c.A ρ st') c.n0 ρ v x := fun v x hv => hv.up hs hb' (fun b _ => hA b) (Nat.le_refl _)
 have back : ∀ i s, rlk st' i = some s → ∃ s0, rlk S.st i = some s0 := by
  intro i s hi
  rw [hst] at hi
  by_cases e : i = id
  ·subst e; exact ⟨r0, hr0⟩
  ·rw [if_neg e] at hi; exact ⟨s, hi⟩
 refine ⟨?_, ?_, ?_, ?_, h.a0⟩
 ·intro i s hi
  rw [hst] at hi
  by_cases e : i = id
  ·subst e
   rw [if_pos rfl] at hi
   simp only [Option.some.injEq] at hi
   subst hi
   rw [if_pos rfl]
   exact hrow
  ·rw [if_neg e] at hi
   rw [if_neg e]
   exact (h.rows i s hi).up hs hb' (fun b _ => hA b) (fun b hbi => hb b (h.lt hi hbi) fun e2 => h.apart i id s r0 b e hi hr0 hbi e2)
 ·intro i j ri rj b hne hi hj hbi hbj
  obtain ⟨s0, h1⟩ := back i ri hi
  obtain ⟨s1, h2⟩ := back j rj hj
  exact h.apart i j s0 s1 b hne h1 h2 hbi hbj
 ·intro k x hk
  obtain ⟨v, h1, h2⟩ := h.env k x hk
  exact ⟨v, h1, tr v x h2⟩
 ·refine h.kept.trans (T' := fun b => (ρ id).ownBlock = some b) ⟨hos, htape, hout, hs, fun b hlt hn => hb b hlt hn⟩ fun b hlt e => ?_
  rcases ((h.rows id r0 hr0).new b e).1 with hge | hT
  ·omega
  ·exact hT
theorem zNx {f : FuncId} {args args' : List HV} {xs : List Value} {K : HV → HS → Prop} (hc : aF P f = true) (H : HFun P f args' (fun h st => h = .tup (xs.map .v))) (hl : Lends S.st args args') (hK : K (.tup (xs.map .v)) S) : HAt P f args S K :=
 ⟨hc, fun c look w ρ xs' vs G R => Ret.mono (H w vs (kB G R hl)) fun v w' ⟨B, h, st, h8, q, ρ', xs', G', hr⟩ => ⟨_, _, hK, ρ, _, G.below B, by subst q; exact hr.plain (.tup xs)⟩⟩
end
end Go.Eng
