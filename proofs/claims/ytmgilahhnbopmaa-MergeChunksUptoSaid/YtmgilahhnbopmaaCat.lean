/-
  The lines of a text, joined, are the text.
-/
import Derived.Test.YtmgilahhnbopmaaLsp
set_option linter.unusedSimpArgs false
set_option linter.unusedVariables false
set_option maxRecDepth 20000
namespace Go.Proofs.Ytmgilahhnbopmaa
open Go Go.Eng Go.RowKit

def zGy (p:List UInt8):Prop:=∀ b ∈ p,b≠10
def zBe (ps:List (List UInt8)):List (List UInt8):=ps.map (· ++ [10])
def qY8 (q:List UInt8):List (List UInt8):=if q=[] then [] else [q]
theorem zC9 (l:List UInt8):∃ ps q,(∀ p ∈ ps,zGy p)∧zGy q∧l=(zBe ps).flatten ++ q∧spl l=zBe ps ++ qY8 q:=by
 induction l with
|nil=>exact ⟨[],[],by simp,by simp [zGy],rfl,rfl⟩
|cons b l ih =>
  obtain ⟨ps,q,h1,h2,h3,h4⟩:=ih;rw [spl]
  by_cases e:b=10
  ·subst e;rw [if_pos rfl];exact ⟨[] :: ps,q,fun p hp=>by rcases List.mem_cons.1 hp with rfl|h;simp [zGy];exact h1 p h,h2,by rw [h3];simp [zBe],by rw [h4];rfl⟩
  ·rw [if_neg e]
   cases ps with
  |nil =>
    refine ⟨[],b :: q,by simp,fun x hx=>by rcases List.mem_cons.1 hx with rfl|h;exact e;exact h2 x h,by rw [h3];simp [zBe],?_⟩
    rw [h4]
    by_cases hq:q=[]
    ·subst hq;rfl
    ·simp [zBe,qY8,hq]
  |cons p r =>
    refine ⟨(b :: p) :: r,q,fun x hx=>?_,h2,by rw [h3];simp [zBe],by rw [h4];rfl⟩
    rcases List.mem_cons.1 hx with rfl|h
    ·intro y hy
     rcases List.mem_cons.1 hy with rfl|h
     ·exact e
     ·exact h1 p (by simp) y h
    ·exact h1 x (by simp [h])
theorem zG9 (l:List (List UInt8)):cat (l.map bs)=bs l.flatten:=by
 unfold cat bs
 congr 1
 rw [List.map_map]
 congr 1
 congr 1
 have:((fun x:ByteArray=>x.data.toList) ∘ bs)=_root_.id:=by funext x;simp [bs]
 have h2:((fun x:ByteArray=>x.data.toList) ∘ fun l:List UInt8=>(⟨l.toArray⟩:ByteArray))=_root_.id:=by funext x;simp
 rw [h2,List.map_id]
theorem qEl (s:ByteArray):cat (dA s)=s:=by
 obtain ⟨ps,q,h1,h2,h3,h4⟩:=zC9 s.data.toList;unfold dA;rw [zG9,h4,List.flatten_append]
 have:(qY8 q).flatten=q:=by unfold qY8;split <;> simp_all
 rw [this,← h3,lK]
end Go.Proofs.Ytmgilahhnbopmaa
