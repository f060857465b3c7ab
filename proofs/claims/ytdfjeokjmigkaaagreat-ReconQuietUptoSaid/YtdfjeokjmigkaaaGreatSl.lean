/-
  A row whose elements name no rows, as such; which operations store. Of no program.
-/
import Derived.Test.YtdfjeokjmigkaaaGreatGd
set_option linter.unusedSimpArgs false
set_option linter.unusedVariables false
namespace Go.Eng
open Go Go.RowKit
section
variable {P : Program} {N : Nat} {x : Code} {Q : HPost} {c : Ctx} {S S' : HS} {look : Nat → Option Value} {w : World}
theorem HW_drw2 {id : Nat} {ops : List Oper} (n : Nat) (hm : P.follows .mixedOrders = true) (hok : regOk (hkeys S.env) ops n = true)
  (h : ∀ K : HS → Prop, (∀ S', Q .normal S' → K S') → ∀ K1 : HS → Prop, (∀ S', HStop (HV2 P N (dsts ops) K (ops.drop n)) S' → K1 S') → HVq P N (dsts ops) K1 (ops.take n) S) : HW P N (.region id ops.toArray true) Q S :=
 HW_drw n hm hok fun K hK => h K hK _ fun _ h => h
end
end Go.Eng
