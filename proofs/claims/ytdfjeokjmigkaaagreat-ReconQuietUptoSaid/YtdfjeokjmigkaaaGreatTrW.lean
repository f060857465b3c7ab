/-
  A call that answers a node, in a drawn region; what a tree's Check says.
-/
import Derived.Test.YtdfjeokjmigkaaaGreatTrM
import Derived.Test.YtdfjeokjmigkaaaGreatOne
set_option linter.unusedSimpArgs false
set_option linter.unusedVariables false
set_option maxRecDepth 20000
namespace Go.Tr
open Go Go.Eng
theorem fresh_node (n : Int × ByteArray) : FreshH (nodeH n) := .agg fun x hx => by simp at hx; rcases hx with rfl | rfl <;> exact .v _
theorem node_any {n : Int × ByteArray} {ρ ρ' : Nat → Value} {w : World} {A : Nat → Prop} {n0 : Nat} {v : Value} (h : RepH w A n0 ρ v (nodeH n)) : RepH w A n0 ρ' v (nodeH n) := by
 cases h with
 | agg hn h1 h =>
  refine .agg hn h1 fun j a b => ?_
  have := h j a b
  match j, b with
  | 0, _ => rw [repH_v this]; exact .v _
  | 1, _ => rw [repH_v this]; exact .v _
theorem hatRn {P : Program} {T : HS} {f : FuncId} {args args' : List HV} {n : Int × ByteArray} {K : HV → Prop} (hc : callable P f = true) (H : HFun P f args' (fun h st => h = nodeH n ∧ st = [])) (hl : Lends T.st args args') (hK : K (nodeH n)) : HAtR P f args T K :=
 hatR hc H (fresh_node n) (fun ρ ρ' w A n v h => node_any h) hl hK
end Go.Tr
