/-
  A call that answers a node, in a drawn region; what a tree's Check says.
-/
import Derived.Test.YtdfjeokjmigkaaaGreatTrM
import Derived.Test.YtdfjeokjmigkaaaGreatOne
set_option linter.unusedSimpArgs false
set_option linter.unusedVariables false
set_option maxRecDepth 20000
namespace Go.Tr
open Go Go.Eng
theorem qWx (n : Int × ByteArray) : FreshH (gU n) := .agg fun x hx => by simp at hx; rcases hx with rfl | rfl <;> exact .v _
theorem zEh {n : Int × ByteArray} {ρ ρ' : Nat → Value} {w : World} {A : Nat → Prop} {n0 : Nat} {v : Value} (h : RepH w A n0 ρ v (gU n)) : RepH w A n0 ρ' v (gU n) := by
 cases h with
 | agg hn h1 h =>
  refine .agg hn h1 fun j a b => ?_
  have := h j a b
  match j, b with
  | 0, _ => rw [aV this]; exact .v _
  | 1, _ => rw [aV this]; exact .v _
theorem zFy {P : Program} {T : HS} {f : FuncId} {args args' : List HV} {n : Int × ByteArray} {K : HV → Prop} (hc : aD P f = true) (H : HFun P f args' (fun h st => h = gU n ∧ st = [])) (hl : Lends T.st args args') (hK : K (gU n)) : zCz P f args T K :=
 zTe hc H (qWx n) (fun ρ ρ' w A n v h => zEh h) hl hK
theorem qHk {t : List Ent} (h : okR t = true) : ∀ e ∈ t, pOk e.1 5 = true := fun e he => by
 obtain ⟨i, hi, rfl⟩ := List.getElem_of_mem he
 have := tY.1 h i hi
 simp only [qCv, qP0, Bool.and_eq_true] at this
 rw [yZ hi] at this
 exact this.1.1
end Go.Tr
