/-
  From a walk of a law ('true, and nothing that was there has turned') to what its row asks: the arguments read as they did.
-/
import Derived.Test.YtppnicpbncfhnaaHeap
import Derived.ProofKit
import Derived.OpenShut
import Derived.ShutString
import Derived.ChangeOld
import Derived.Below
set_option linter.unusedVariables false
namespace Go.Eng
open Go Go.RowKit Go.ChangeShapes Go.WideShapes
/-- Every argument reads as it did. -/
theorem trodAll_kept {H : Type} {enc : TypeId × Value → H} {P : Program} {W W' : World} (hl : laidOutB P = true) (hb : Below W.heap.size W W') :
    ∀ (ts : List TypeId) (vs : List Value) (ds : List (DataW H)) (ps : List MemPlace), (ts.all fun t => P.readableRec t && decide (t < P.types.size)) = true →
      DataW.TrodAll enc P W 0 (fun _ => true) true ts vs ds ps → DataW.TrodAll enc P W' 0 (fun b => decide (b < W.heap.size)) true ts vs ds ps
  | [], vs, ds, ps, _, h => by
    obtain ⟨rfl, rfl, rfl⟩ := trodAll_nil h
    exact trodAll_mk0
  | t :: ts, vs, ds, ps, ht, h => by
    obtain ⟨v, vs', d, ds', p, q, rfl, rfl, rfl, h0, hr⟩ := trodAll_cons h
    simp only [List.all_cons, Bool.and_eq_true, decide_eq_true_eq] at ht
    have hlt : ∀ x ∈ p, x.block < W.heap.size := by obtain ⟨m, hm⟩ := h0; exact DataW.trod_lt m _ _ _ hm
    exact trodAll_cons_mk (Below.trod hl ht.1.1 ht.1.2 h0 hb hlt) (trodAll_kept hl hb ts vs' ds' q ht.2 hr)
/-- A law's post, from its walk's end. -/
theorem ret_calls {P : Program} {f : FuncId} {args : Array Value} {w : World} {K : Value → World → Prop} (h : Calls P f args w (Ret K)) : Calls P f args w fun e w' => ∃ v, e = .returned v ∧ K v w' :=
  h.mono fun e w' he => by
    cases e with
    | returned v => exact ⟨v, rfl, he⟩
    | _ => exact he.elim
end Go.Eng
