/-
  The law ScanLays, by what comes in.
-/
import Derived.Test.YtlihpgmgiehjkaaGreatDoorSxA
import Derived.Test.YtlihpgmgiehjkaaGreatDoorUpe
set_option linter.unusedSimpArgs false
set_option linter.unusedVariables false
set_option maxRecDepth 20000
namespace Go.Proofs.YtlihpgmgiehjkaaGreatDoor
open Go Go.Eng Go.RowKit Go.Tr Go.Dk Go.Sw
theorem qYr (a b:List Ent) (loss:Int) (_:(Lit.int .i64 loss).wf=true) (hu:fw (.lst false (bR a)) + (fw (.lst false (bR b)) + (fw (.v (.int .i64 loss)) + 0))≤1048576):HFun Tryz.prog 4 [.lst false (bR a),.lst false (bR b),.v (.int .i64 loss)] (fun h st=>h=.v (.bool true)):=by
 obtain ⟨h1,h2⟩:=zCf a;obtain ⟨h3,h4⟩:=zCf b;exact qYs a b (by omega) (by omega) (fun e he=>by have:=h2 e he;omega) (fun e he=>by have:=h4 e he;omega) loss
end Go.Proofs.YtlihpgmgiehjkaaGreatDoor
