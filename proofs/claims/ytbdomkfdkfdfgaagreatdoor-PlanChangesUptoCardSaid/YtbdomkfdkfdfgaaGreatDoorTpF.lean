/-
  Plain: what the document's Put answers is what tree.Put answers.
-/
import Derived.Test.YtbdomkfdkfdfgaaGreatDoorTpB
import Derived.Test.YtbdomkfdkfdfgaaGreatDoorTrQ
import Derived.Test.YtbdomkfdkfdfgaaGreatDoorTsP
import Derived.Test.YtbdomkfdkfdfgaaGreatDoorTrM
set_option linter.unusedSimpArgs false
set_option linter.unusedVariables false
section
set_option maxRecDepth 20000
namespace Go.Proofs.YtbdomkfdkfdfgaaGreatDoor
open Go Go.Eng Go.RowKit Go.Tr
end Go.Proofs.YtbdomkfdkfdfgaaGreatDoor
end
section
set_option maxRecDepth 20000
namespace Go.Tr
open Go Go.Eng
def zL5 (t:List Ent) (p:ByteArray):Bool:=decide (par p={ data:=#[] }) || decide ((aF t (par p)).1=1)
def qPi (t:List Ent) (p:ByteArray) (n:Int × ByteArray):Int :=
 if pOk p 5=false then 10
 else if gX n=false then 1
 else if (if n.1=0 then eF t p else zL5 t p)=false then 11
 else if n.1≠1∧1 < (t.filter fun e=>eK e.1 p).length then 12
 else if n.1≠0∧eF t p=false∧200≤t.length then 4
 else 0
def zMl (t:List Ent) (p:ByteArray) (n:Int × ByteArray):List Ent :=
 if n.1=0 then t.eraseIdx (bG t p) else if eF t p=true then t.set (bG t p) (p,n) else t.take (bG t p) ++ (p,n) :: t.drop (bG t p)
def qHd (t:List Ent) (p:ByteArray) (n:Int × ByteArray):List Ent:=if qPi t p n=0 then zMl t p n else []
end Go.Tr
namespace Go.Proofs.YtbdomkfdkfdfgaaGreatDoor
open Go Go.Eng Go.RowKit Go.Tr
end Go.Proofs.YtbdomkfdkfdfgaaGreatDoor
end
section
set_option maxRecDepth 20000
namespace Go.Tr
open Go Go.Eng
end Go.Tr
namespace Go.Proofs.YtbdomkfdkfdfgaaGreatDoor
open Go Go.Eng Go.RowKit Go.Tr
end Go.Proofs.YtbdomkfdkfdfgaaGreatDoor
end
section
namespace Go.Tr
open Go
theorem zJa {a b:List Ent} {e:Ent} (h:rise (a ++ b)) (h1:∀ x ∈ a,blt x.1 e.1=true) (h2:∀ y ∈ b,blt e.1 y.1=true):rise (a ++ e :: b):=by
 obtain ⟨ra,rb,rab⟩:=List.pairwise_append.1 h;refine List.pairwise_append.2 ⟨ra,List.pairwise_cons.2 ⟨h2,rb⟩,fun x hx y hy=>?_⟩
 rcases List.mem_cons.1 hy with rfl|hy
 ·exact h1 x hx
 ·exact rab x hx y hy
theorem qY7 {t:List Ent} (h:okR t=true) (p:ByteArray):eF t p=!decide ((aF t p).1=0):=by
 have ri:=lY h
 cases th:eF t p with
|false=>rw [sQ th];rfl
|true =>
  have tp:=iA ri p
  rw [th] at tp;obtain ⟨hlt,hat⟩:=of_decide_eq_true tp.symm
  have hg:=qHs ri hlt
  rw [hat] at hg;rw [hg]
  have:=gW.1 h _ hlt
  simp only [tN,uV,Bool.and_eq_true,Bool.not_eq_true',decide_eq_false_iff_not] at this;rw [iF hlt] at this;rw [decide_eq_false this.1.2.2.1];rfl
end Go.Tr
end
