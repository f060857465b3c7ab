/-
  Regions that draw their order, appends to rows of one's own among their heads.
-/
import Derived.Test.YtfojmpimnidmkaaDrj
set_option linter.unusedSimpArgs false
set_option linter.unusedVariables false
namespace Go.Eng
open Go Go.RowKit
def inl (ids : List Nat) (i : Nat) : Bool := match ids with
 | [] => false
 | k :: r => k == i || inl r i
abbrev Aps := List (Nat × Nat × List Nat)
def bad (W : Aps) (i : Nat) : List Nat := match W with
 | [] => []
 | (a, id, D) :: r => bif a == i || inl D i then bad r i else id :: bad r i
def wat (W : Aps) (i : Nat) : Option Nat := match W with
 | [] => none
 | (a, id, _) :: r => bif a == i then some id else wat r i
def pL (W : Aps) (L : Nat → Bool) (id : Nat) : Bool := match W with
 | [] => false
 | (a, i, _) :: r => (L a && i == id) || pL r L id
end Go.Eng
