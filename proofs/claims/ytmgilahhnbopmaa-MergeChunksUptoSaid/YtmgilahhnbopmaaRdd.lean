/-
  What a row's block holds, read.
-/
import Derived.Test.YtmgilahhnbopmaaGd
set_option linter.unusedSimpArgs false
set_option linter.unusedVariables false
namespace Go.Eng
open Go Go.RowKit
def Rd (w:World) (v:Value) (xs:List Value):Prop:=∀ b,v.ownBlock=some b→∀ (p:Nat) (u:Value),xs[p]?=some u→w.cell? ⟨b,p,none⟩=some u
theorem Own.rd {w:World} {v:Value} {xs:List Value} {base te sz n:Nat} (h:Own w base te sz v n xs):Rd w v xs:=by
 intro b hb p u hu
 have hl:=h.1
 have hh:=h
 rcases h.2 with ⟨rfl,_⟩|⟨g,cap,cur,rfl,_⟩
 ·cases hb
 ·cases hb
  rw [World.ownsRow.cellAt hh p (by have:=(List.getElem?_eq_some_iff.1 hu).1;omega),hu]
end Go.Eng
