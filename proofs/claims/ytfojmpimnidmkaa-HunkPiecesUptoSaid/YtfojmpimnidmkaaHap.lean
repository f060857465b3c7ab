/-
  The walk of hunk.Apply.
-/
import Derived.Test.YtfojmpimnidmkaaHnk
import Derived.Test.YtfojmpimnidmkaaApe
set_option linter.unusedSimpArgs false
set_option linter.unusedVariables false
set_option maxRecDepth 20000
namespace Go.Proofs.Ytfojmpimnidmkaa
open Go Go.Eng Go.RowKit Go.DiffM

structure HkZ where
 at_ : Int
 old : List ByteArray
 new : List ByteArray
def hkzE (fr : Bool) (h : HkZ) : List FV := [.v (.int .i64 h.at_), .lst fr (strs h.old), .lst fr (strs h.new)]
def hkz (fr : Bool) (l : List HkZ) : List (List FV) := l.map (hkzE fr)
theorem hkz_len (fr : Bool) (l : List HkZ) : (hkz fr l).length = l.length := by simp [hkz]
theorem hkz_wid (fr : Bool) (l : List HkZ) : Wid 3 (hkz fr l) = True := eq_true (wid_map l fun _ => rfl)
theorem hkz_get {fr : Bool} {l : List HkZ} {i : Nat} {d : List FV} (h : i < l.length) : (hkz fr l).getD i d = [.v (.int .i64 l[i].at_), .lst fr (strs l[i].old), .lst fr (strs l[i].new)] := by unfold hkz; rw [getD_map h]; rfl
end Go.Proofs.Ytfojmpimnidmkaa
