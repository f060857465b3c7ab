/-
  The law ScanChanges, by what comes in.
-/
import Derived.Test.YtdmnijnogabchaaDoorSyA
import Derived.Test.YtdmnijnogabchaaDoorUpe
set_option linter.unusedSimpArgs false
set_option linter.unusedVariables false
set_option maxRecDepth 20000
namespace Go.Proofs.YtdmnijnogabchaaDoor
open Go Go.Eng Go.RowKit Go.Tr
theorem qKz (a b:List Ent) (p:ByteArray) (hu:fw (.lst false (cX a)) + (fw (.lst false (cX b)) + (fw (.v (.string p)) + 0))≤1048576):HFun Tryd.prog 3 [.lst false (cX a),.lst false (cX b),.v (.string p)] (fun h st=>h=.v (.bool true)):=by
 obtain ⟨h1,h2⟩:=qZk a;obtain ⟨h3,h4⟩:=qZk b;exact qK0 a b p (by omega) (by omega) (fun e he=>by have:=h2 e he;omega) (fun e he=>by have:=h4 e he;omega)
end Go.Proofs.YtdmnijnogabchaaDoor
