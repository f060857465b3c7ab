/-
  A function that is handed a variable by pointer, with plain values in it: its body.
-/
import Derived.Test.YtojolcpblacjjaaDoorGc
set_option linter.unusedSimpArgs false
set_option linter.unusedVariables false
namespace Go.Eng
open Go Go.RowKit
inductive PlainH : HV → Prop
 | v (x : Value) : PlainH (.v x)
 | tup (xs : List Value) : PlainH (.tup (xs.map .v))
section
variable {P : Program} {N : Nat} {w w' : World} {A A' : Nat → Prop} {n0 n1 : Nat} {ρ ρ' : Nat → Value}
theorem RepH.plain {v : Value} {h : HV} (hr : RepH w A n0 ρ v h) (hp : PlainH h) : RepH w' A' n1 ρ' v h := by
 cases hp with
 | v x => have := repH_v hr; subst this; exact .v _
 | tup xs =>
  cases hr with
  | tup hn h =>
  refine .tup hn fun j a b => ?_
  have := h j a b
  simp only [List.getElem_map] at this ⊢
  have e := repH_v this
  rw [e]; exact .v _
end
end Go.Eng
