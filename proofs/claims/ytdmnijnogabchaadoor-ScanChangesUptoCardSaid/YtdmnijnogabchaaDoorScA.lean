/-
  ScanChanges: where two trees differ: plain.
-/
import Derived.Test.YtdmnijnogabchaaDoorOne
import Derived.Test.YtdmnijnogabchaaDoorChn
set_option linter.unusedSimpArgs false
set_option linter.unusedVariables false
section
set_option maxRecDepth 20000
namespace Go.Tr
open Go Go.Eng
def zL7 (out:List Ent) (e:Ent):List Ent:=out.takeWhile (fun x=>blt x.1 e.1) ++ e :: out.dropWhile (fun x=>blt x.1 e.1)
def sortS (t:List Ent):List Ent:=t.foldl zL7 []
end Go.Tr
namespace Go.Proofs.YtdmnijnogabchaaDoor
open Go Go.Eng Go.RowKit Go.Tr
end Go.Proofs.YtdmnijnogabchaaDoor
end
section
namespace Go.Tr
open Go
end Go.Tr
end
section
namespace Go.Tr
open Go
theorem qSa:∀ {l m:List ByteArray},(l.Pairwise fun p q=>blt p q=true)→(m.Pairwise fun p q=>blt p q=true)→(∀ q,q ∈ l↔q ∈ m)→l=m
|[],[],_,_,_=>rfl
|[],y :: m,_,_,h=>absurd ((h y).2 (by simp)) (by simp)
|x :: l,[],_,_,h=>absurd ((h x).1 (by simp)) (by simp)
|x :: l,y :: m,hl,hm,h=>by
  obtain ⟨h1,h2⟩:=List.pairwise_cons.1 hl;obtain ⟨h3,h4⟩:=List.pairwise_cons.1 hm
  have e:x=y:=by
   rcases List.mem_cons.1 ((h x).1 (by simp)) with e|e
   ·exact e
   ·rcases List.mem_cons.1 ((h y).2 (by simp)) with e'|e'
    ·exact e'.symm
    ·have a:=h3 x e
     have b:=h1 y e'
     rw [jN a] at b;cases b
  subst e
  congr 1
  refine qSa h2 h4 fun q=>?_
  have hq:=h q
  simp only [List.mem_cons] at hq;constructor
  ·intro hql
   rcases hq.1 (.inr hql) with e|e
   ·exact absurd e.symm (qXh (h1 q hql))
   ·exact e
  ·intro hqm
   rcases hq.2 (.inr hqm) with e|e
   ·exact absurd e.symm (qXh (h3 q hqm))
   ·exact e
theorem qEh {t:List Ent} {p:ByteArray} (h:eR t p≠xS):∃ e ∈ t,e.1=p:=by
 cases e:qLe t p with
|false=>exact absurd (qPf e) h
|true =>
  obtain ⟨x,hx,hp⟩:=List.any_eq_true.1 e;exact ⟨x,hx,by simpa using hp⟩
end Go.Tr
end
section
namespace Go.Tr
open Go
theorem zE6 {a b:List Ent} (ra:rise a) (rb:rise b) (ka:kinds a) (kb:kinds b):cF a b=cF b a :=
 qSa (wE a b ra rb) (wE b a rb ra) fun q=>by
  rw [lR q a b ra rb ka kb,lR q b a rb ra kb ka];exact ne_comm
theorem zE7 {a b:List Ent} (oa:okR a=true) (ob:okR b=true):∀ q ∈ cF a b,pOk q 5=true:=fun q hq=>by
 have h:=(lR q a b (mC oa) (mC ob) (lM oa) (lM ob)).1 hq
 by_cases e:eR a q=xS
 ·have:eR b q≠xS:=fun e'=>h (by rw [e,e'])
  obtain ⟨x,hx,rfl⟩:=qEh this;exact qSr ob x hx
 ·obtain ⟨x,hx,rfl⟩:=qEh e;exact qSr oa x hx
theorem zE8 {a b:List Ent} (oa:okR a=true) (ob:okR b=true):decide ((cF a b).length=0)=decide (a=b):=by
 rw [decide_eq_decide];constructor
 ·intro h;exact qKk a b (List.length_eq_zero_iff.1 h)
 ·rintro rfl;rw [List.length_eq_zero_iff];refine List.eq_nil_iff_forall_not_mem.2 fun q hq=>?_
  exact (lR q a a (mC oa) (mC oa) (lM oa) (lM oa)).1 hq rfl
theorem zGt {a b:List Ent} (oa:okR a=true) (ob:okR b=true) (p:ByteArray):(cF a b).any (fun q=>decide (q=p))=!decide (eR a p=eR b p):=by
 rw [Bool.eq_iff_iff,List.any_eq_true,Bool.not_eq_true',decide_eq_false_iff_not]
 have:=lR p a b (mC oa) (mC ob) (lM oa) (lM ob)
 constructor
 ·rintro ⟨q,hq,he⟩;rw [of_decide_eq_true he] at hq;exact this.1 hq
 ·intro h;exact ⟨p,this.2 h,decide_eq_true rfl⟩
end Go.Tr
end
