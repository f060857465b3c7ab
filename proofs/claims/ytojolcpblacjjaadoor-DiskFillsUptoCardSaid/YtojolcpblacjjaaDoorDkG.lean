/-
  The disk's calls: file, Append, Sync.
-/
import Derived.Test.YtojolcpblacjjaaDoorDkF
set_option linter.unusedSimpArgs false
set_option linter.unusedVariables false
set_option maxRecDepth 20000
namespace Go.Proofs.YtojolcpblacjjaaDoor
open Go Go.Eng Go.RowKit Go.Tr Go.Dk
section
variable (d : Dk) (B : Int) (hd : d.Ok B) (hB : B ≤ 1099511627776) (p : ByteArray) (r1 r2 : Nat) (hs : p.size ≤ 1048576)
include hd hB hs
end
end Go.Proofs.YtojolcpblacjjaaDoor
