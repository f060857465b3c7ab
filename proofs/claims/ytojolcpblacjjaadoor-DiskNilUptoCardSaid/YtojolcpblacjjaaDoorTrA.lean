/-
  Plain: the order of texts; rows that rise; what a search finds.
-/
import GoSem.Op.String
import Derived.Lib.Bytealg
set_option linter.unusedSimpArgs false
set_option linter.unusedVariables false
namespace Go.Tr
open Go
def blt (a b : ByteArray) : Bool := Op.bytesLess a.toList b.toList
theorem less_irr : ∀ (a : List UInt8), Op.bytesLess a a = false
 | [] => rfl
 | x :: r => by simp [Op.bytesLess, less_irr r]
theorem toList_inj {a b : ByteArray} (h : a.toList = b.toList) : a = b := by
 rw [Lib.toList_data, Lib.toList_data] at h
 cases a; cases b; simp only [ByteArray.mk.injEq]; exact Array.toList_inj.1 h
theorem blt_irr (a : ByteArray) : blt a a = false := less_irr _
end Go.Tr
