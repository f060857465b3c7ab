/-
  slices.Insert of a tree, ahead of its end.
-/
import Derived.Test.YtbdomkfdkfdfgaaGreatDoorTsP
import Derived.Test.YtbdomkfdkfdfgaaGreatDoorOne
import Derived.Test.YtbdomkfdkfdfgaaGreatDoorTrL
import Derived.Deep.RegionLaw
import Derived.Shelf.RegionOpenPlain
import Derived.Lib.SliceRun
import Derived.Shelf.Spec.SlicesInsert
import Derived.Lib.AppendZerosOnto
import Derived.Laws.NewBlocks
import Derived.Lib.Overlaps
import Derived.Laws.Externs
set_option linter.unusedSimpArgs false
set_option linter.unusedVariables false
section
namespace Go.Tr
open Go
def rU (f:ByteArray→Bool):Option ByteArray→List Ent→List ByteArray
|_,[]=>[]
|prev,x :: r=>if prev≠some x.1∧f x.1=true then x.1 :: rU f (some x.1) r else rU f (some x.1) r
theorem qEi (f:ByteArray→Bool) (q:ByteArray):∀ (t:List Ent) (prev:Option ByteArray),rX t→(∀ p,prev=some p→∀ x ∈ t,blt x.1 p=false)→(q ∈ rU f prev t↔(∃ x ∈ t,x.1=q)∧f q=true∧prev≠some q)
|[],prev,_,_=>by simp [rU]
|x :: r,prev,h,hp=>by
  obtain ⟨hx,hr⟩:=List.pairwise_cons.1 h
  have ih:=qEi f q r (some x.1) hr (fun p e y hy=>by simp only [Option.some.injEq] at e;subst e;exact hx y hy)
  have later:prev=some q→x.1≠q→¬ ∃ y ∈ r,y.1=q:=fun e hne ⟨y,hy,hyq⟩=>by
   have h1:=hp q e x (by simp)
   have h2:=hx y hy
   rw [hyq] at h2
   rcases jJ x.1 q with h|h|h
   ·rw [h] at h1;cases h1
   ·exact hne h
   ·rw [h] at h2;cases h2
  rw [rU]
  by_cases hc:prev≠some x.1∧f x.1=true
  ·rw [if_pos hc,List.mem_cons,ih];constructor
   ·rintro (rfl|⟨⟨y,hy,hyq⟩,hf,hne⟩)
    ·exact ⟨⟨x,by simp,rfl⟩,hc.2,hc.1⟩
    ·exact ⟨⟨y,by simp [hy],hyq⟩,hf,fun e=>later e (fun e'=>hne (by rw [e'])) ⟨y,hy,hyq⟩⟩
   ·rintro ⟨⟨y,hy,hyq⟩,hf,hne⟩
    by_cases e:x.1=q
    ·exact .inl e.symm
    ·rcases List.mem_cons.1 hy with rfl|hy
     ·exact absurd hyq e
     ·exact .inr ⟨⟨y,hy,hyq⟩,hf,fun e'=>e (Option.some.inj e')⟩
  ·rw [if_neg hc,ih];constructor
   ·rintro ⟨⟨y,hy,hyq⟩,hf,hne⟩;exact ⟨⟨y,by simp [hy],hyq⟩,hf,fun e=>later e (fun e'=>hne (by rw [e'])) ⟨y,hy,hyq⟩⟩
   ·rintro ⟨⟨y,hy,hyq⟩,hf,hne⟩
    have e:x.1≠q:=fun e=>hc ⟨by rw [e];exact hne,by rw [e];exact hf⟩
    rcases List.mem_cons.1 hy with rfl|hy
    ·exact absurd hyq e
    ·exact ⟨⟨y,hy,hyq⟩,hf,fun e'=>e (Option.some.inj e')⟩
theorem qKe (f:ByteArray→Bool):∀ (t:List Ent) (prev:Option ByteArray),rX t→(∀ p,prev=some p→∀ x ∈ t,blt x.1 p=false)→(rU f prev t).Pairwise fun p q=>blt p q=true
|[],prev,_,_=>.nil
|x :: r,prev,h,hp=>by
  obtain ⟨hx,hr⟩:=List.pairwise_cons.1 h
  have hp':∀ p,some x.1=some p→∀ y ∈ r,blt y.1 p=false:=fun p e y hy=>by simp only [Option.some.injEq] at e;subst e;exact hx y hy
  have ih:=qKe f r (some x.1) hr hp'
  rw [rU];split
  ·refine List.pairwise_cons.2 ⟨fun q hq=>?_,ih⟩
   obtain ⟨⟨y,hy,hyq⟩,-,hne⟩:=(qEi f q r (some x.1) hr hp').1 hq
   have h2:=hx y hy
   rw [hyq] at h2
   rcases jJ x.1 q with h|h|h
   ·exact h
   ·exact absurd (by rw [h]) hne
   ·rw [h] at h2;cases h2
  ·exact ih
theorem qVf:∀ {l m:List ByteArray},(l.Pairwise fun p q=>blt p q=true)→(m.Pairwise fun p q=>blt p q=true)→(∀ q,q ∈ l↔q ∈ m)→l=m
|[],[],_,_,_=>rfl
|[],y :: m,_,_,h=>absurd ((h y).2 (by simp)) (by simp)
|x :: l,[],_,_,h=>absurd ((h x).1 (by simp)) (by simp)
|x :: l,y :: m,hl,hm,h=>by
  obtain ⟨h1,h2⟩:=List.pairwise_cons.1 hl;obtain ⟨h3,h4⟩:=List.pairwise_cons.1 hm
  have e:x=y:=by
   rcases List.mem_cons.1 ((h x).1 (by simp)) with e|e
   ·exact e
   ·rcases List.mem_cons.1 ((h y).2 (by simp)) with e'|e'
    ·exact e'.symm
    ·have a:=h3 x e
     have b:=h1 y e'
     rw [iQ a] at b;cases b
  subst e
  congr 1
  refine qVf h2 h4 fun q=>?_
  have hq:=h q
  simp only [List.mem_cons] at hq;constructor
  ·intro hql
   rcases hq.1 (.inr hql) with e|e
   ·exact absurd e.symm (uH (h1 q hql))
   ·exact e
  ·intro hqm
   rcases hq.2 (.inr hqm) with e|e
   ·exact absurd e.symm (uH (h3 q hqm))
   ·exact e
theorem qH5 {t:List Ent} {p:ByteArray} (h:aF t p≠kD):∃ e ∈ t,e.1=p:=by
 cases e:eF t p with
|false=>exact absurd (sQ e) h
|true =>
  obtain ⟨x,hx,hp⟩:=List.any_eq_true.1 e;exact ⟨x,hx,by simpa using hp⟩
end Go.Tr
end
section
set_option maxRecDepth 20000
namespace Go.Proofs.YtbdomkfdkfdfgaaGreatDoor
open Go Go.Eng Go.RowKit Go.Tr
end Go.Proofs.YtbdomkfdkfdfgaaGreatDoor
end
section
set_option maxRecDepth 20000
namespace Go.Proofs.YtbdomkfdkfdfgaaGreatDoor
open Go Go.Eng Go.RowKit Go.Tr
def prevE (t:List Ent) (i:Nat):Option ByteArray:=if i=0 then none else some (atE0 t (i - 1))
where atE0 (t:List Ent) (i:Nat):ByteArray:=(t.getD i (ByteArray.empty,0,ByteArray.empty)).1
end Go.Proofs.YtbdomkfdkfdfgaaGreatDoor
end
section
set_option maxRecDepth 20000
namespace Go.Tr
open Go Go.Eng Go.RowKit
def iT:List Ent→List Value
|[]=>[]
|e :: r=>.string e.1 :: .int .i64 e.2.1 :: .string e.2.2 :: iT r
theorem lL:∀ t:List Ent,(iT t).length=t.length * 3
|[]=>rfl
|e :: r=>by simp only [iT,List.length_cons,lL r];omega
theorem qE6:∀ (t:List Ent) (i k:Nat) (hi:i < (aL t).length) (hk:k < (aL t)[i].length),∃ x,(aL t)[i][k]=.v x∧(iT t)[i * 3 + k]?=some x∧x.oneCell'=true
|[],i,k,hi,_=>by simp [aL] at hi
|e :: r,0,k,hi,hk=>by
  have e0:(aL (e :: r))[0]=[.v (.string e.1),.v (.int .i64 e.2.1),.v (.string e.2.2)]:=rfl
  simp only [e0,List.length_cons,List.length_nil] at hk
  match k,hk with
 |0,_=>exact ⟨.string e.1,rfl,rfl,rfl⟩
 |1,_=>exact ⟨.int .i64 e.2.1,rfl,rfl,rfl⟩
 |2,_=>exact ⟨.string e.2.2,rfl,rfl,rfl⟩
|e :: r,i + 1,k,hi,hk=>by
  obtain ⟨x,h1,h2,h3⟩:=qE6 r i k (by simpa [aL] using hi) hk
  refine ⟨x,h1,?_,h3⟩;rw [show (i + 1) * 3 + k=i * 3 + k + 1 + 1 + 1 by omega]
  simpa [iT] using h2
theorem zM4 {w:World} {A:Nat→Prop} {n0:Nat} {arr:List Value} {t:List Ent} (hl:arr.length=t.length * 3) (hw:∀ x ∈ aL t,x.length=3) (h:∀ i k (hi:i < (aL t).length) (hk:k < (aL t)[i].length),∃ u,arr[i * 3 + k]?=some u∧u.oneCell'=true∧RepF w A n0 u (aL t)[i][k]):arr=iT t:=by
 apply List.ext_getElem?
 intro p
 by_cases hp:p < t.length * 3
 ·have hi:p / 3 < (aL t).length:=by rw [yV];omega
  have hk:p % 3 < (aL t)[p / 3].length:=by rw [hw _ (List.getElem_mem _)];omega
  obtain ⟨u,u1,-,u3⟩:=h (p / 3) (p % 3) hi hk;obtain ⟨x,h1,h2,-⟩:=qE6 t (p / 3) (p % 3) hi hk;rw [h1] at u3
  cases u3
  rw [show p / 3 * 3 + p % 3=p by omega] at u1 h2
  rw [u1,h2]
 ·rw [List.getElem?_eq_none (by omega),List.getElem?_eq_none (by rw [lL];omega)]
end Go.Tr
namespace Go.Proofs.YtbdomkfdkfdfgaaGreatDoor
open Go Go.Eng Go.RowKit Go.Tr Go.Lib
theorem qDr {b:Nat} {t:TypeId}:∀ (vs:List Value) (o:Nat) {w:World} {cs:Array Value},Blk w b cs t→o + vs.length≤cs.size→Blk (w.setCells b o vs) b (splice cs.toList o vs).toArray t∧Only b w (w.setCells b o vs)
|[],o,w,cs,h,hl=>by
  have e:(splice cs.toList o []).toArray=cs:=by simp [splice]
  rw [e];exact ⟨h,Only.refl _ _⟩
|v :: vs,o,w,cs,h,hl=>by
  simp only [List.length_cons] at hl
  have h1:Blk (w.setCell ⟨b,o,none⟩ v) b (cs.setIfInBounds o v) t:=by
   rw [setCell_eq_setRow w b o cs t _ v h];exact oZ h _
  have o1:Only b w (w.setCell ⟨b,o,none⟩ v):=by
   rw [setCell_eq_setRow w b o cs t _ v h];exact lX w b _
  obtain ⟨h2,o2⟩:=qDr vs (o + 1) h1 (by simp;omega)
  have e:splice (cs.setIfInBounds o v).toList (o + 1) vs=splice cs.toList o (v :: vs):=by
   apply List.ext_getElem?
   intro j;rw [eH _ _ _ (by simp;omega),eH _ _ _ (by simp;omega)]
   simp only [Array.toList_setIfInBounds,List.getElem?_set,List.length_cons]
   by_cases hj:j=o
   ·subst hj;rw [if_neg (by omega),if_pos rfl,if_pos (by simp;omega),if_pos (by omega)]
    simp
   ·by_cases h3:o + 1≤j∧j < o + 1 + vs.length
    ·rw [if_pos h3,if_pos (by omega)]
     obtain ⟨k,rfl⟩:∃ k,j=o + 1 + k:=⟨j - (o + 1),by omega⟩
     rw [show o + 1 + k - (o + 1)=k by omega,show o + 1 + k - o=k + 1 by omega,List.getElem?_cons_succ]
    ·rw [if_neg h3,if_neg (by omega),if_neg (by omega)]
  rw [e] at h2;exact ⟨h2,o1.trans o2⟩
theorem zGz {c:Ctx} {S:HS} {look:Nat→Option Value} {w:World} {ρ:Nat→Value} {xs:Nat→List Value} (G:Eng.Good c S look w ρ xs) {id:Nat} {t:List Ent} (hr:rlk S.st id=some (fW t)) (h0:0 < t.length) :
  ∃ g cap cur,ρ id=.slice (some ⟨g,0,none⟩) t.length cap∧Blk w g cur 67∧t.length≤cap∧cap≤maxLen∧cur.size=cap * 3∧cur.toList.take (t.length * 3)=iT t:=by
 obtain ⟨o1,o2,o3⟩:=cM G hr;rw [yV] at o1;obtain ⟨g,cap,hv,h1,h2,-⟩:=gM o1 h0;rw [hv] at o1;obtain ⟨cur,b1,b2,b3,b4,b5⟩:=tX o1
 have:=zM4 o1.1 o2 o3
 exact ⟨g,cap,cur,hv,b1,b2,b3,b4,by rw [b5,this]⟩
end Go.Proofs.YtbdomkfdkfdfgaaGreatDoor
end
section
set_option maxRecDepth 20000
namespace Go.Proofs.YtbdomkfdkfdfgaaGreatDoor
open Go Go.Eng Go.RowKit Go.Tr Go.Lib
end Go.Proofs.YtbdomkfdkfdfgaaGreatDoor
end
section
set_option maxRecDepth 20000
namespace Go.Proofs.YtbdomkfdkfdfgaaGreatDoor
open Go Go.Eng Go.RowKit Go.Tr Go.Lib
end Go.Proofs.YtbdomkfdkfdfgaaGreatDoor
end
