/-
  Plain: entries, rows of entries that rise, what stands where.
-/
import Derived.Test.YtojolcpblacjjaaDoorTrA
set_option linter.unusedSimpArgs false
set_option linter.unusedVariables false
namespace Go.Tr
open Go
abbrev Ent := ByteArray × Int × ByteArray
def rise (t : List Ent) : Prop := t.Pairwise fun a b => blt a.1 b.1 = true
def place (t : List Ent) (p : ByteArray) : Nat := t.countP fun e => blt e.1 p
def there (t : List Ent) (p : ByteArray) : Bool := t.any fun e => decide (e.1 = p)
end Go.Tr
