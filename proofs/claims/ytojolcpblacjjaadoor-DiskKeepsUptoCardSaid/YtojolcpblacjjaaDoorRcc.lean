/-
  A call that hands a variable of plain values in by pointer.
-/
import Derived.Test.YtojolcpblacjjaaDoorRcv
set_option linter.unusedSimpArgs false
set_option linter.unusedVariables false
namespace Go.Eng
open Go Go.RowKit
section
variable {P : Program} {N : Nat} {c : Ctx} {S : HS} {look : Nat → Option Value} {w w' : World} {ρ : Nat → Value} {xs : Nat → List Value}
theorem hatt {f : FuncId} {args args' : List HV} {xs : List Value} {K : HV → HS → Prop} (hc : callable P f = true) (H : HFun P f args' (fun h st => h = .tup (xs.map .v))) (hl : Lends S.st args args') (hK : K (.tup (xs.map .v)) S) : HAt P f args S K :=
 ⟨hc, fun c look w ρ xs' vs G R => Ret.mono (H w vs (lends_rep G R hl)) fun v w' ⟨B, h, st, h8, q, ρ', xs', G', hr⟩ => ⟨_, _, hK, ρ, _, G.below B, by subst q; exact hr.plain (.tup xs)⟩⟩
end
end Go.Eng
