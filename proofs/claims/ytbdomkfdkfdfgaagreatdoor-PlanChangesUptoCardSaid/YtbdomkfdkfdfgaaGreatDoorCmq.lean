/-
  slices.Compact of texts: the row is squeezed where it lies; what comes back is its beginning.
-/
import Derived.Test.YtbdomkfdkfdfgaaGreatDoorUgc
import Derived.Test.YtbdomkfdkfdfgaaGreatDoorUsA
import Derived.Test.YtbdomkfdkfdfgaaGreatDoorOne
import Derived.Test.YtbdomkfdkfdfgaaGreatDoorSrs
set_option linter.unusedSimpArgs false
set_option linter.unusedVariables false
section
namespace Go.Tr
open Go
def dD:List ByteArray→List ByteArray
|[]=>[]
|[x]=>[x]
|x :: y :: r=>if x=y then dD (y :: r) else x :: dD (y :: r)
theorem qNz (q:ByteArray):∀ l:List ByteArray,q ∈ dD l↔q ∈ l
|[]=>Iff.rfl
|[x]=>Iff.rfl
|x :: y :: r=>by
  have ih:=qNz q (y :: r)
  rw [dD];split
  ·rename_i h;rw [ih,h];simp
  ·rw [List.mem_cons,ih,List.mem_cons (b:=x)]
theorem qSz:∀ l:List ByteArray,oG l→(dD l).Pairwise fun p q=>blt p q=true
|[],_=>.nil
|[x],_=>List.pairwise_singleton _ _
|x :: y :: r,h=>by
  obtain ⟨h1,h2⟩:=List.pairwise_cons.1 h
  have ih:=qSz (y :: r) h2
  rw [dD];split
  ·exact ih
  ·rename_i hn;refine List.pairwise_cons.2 ⟨fun q hq=>?_,ih⟩
   have hq:=(qNz q _).1 hq
   have hxy:blt x y=true:=by
    rcases jJ x y with h|h|h
    ·exact h
    ·exact absurd h hn
    ·rw [h1 y (by simp)] at h;cases h
   rcases List.mem_cons.1 hq with rfl|hq
   ·exact hxy
   ·have h3:=(List.pairwise_cons.1 h2).1 q hq
    rcases jJ x q with h|h|h
    ·exact h
    ·rw [← h,hxy] at h3;cases h3
    ·rw [h1 q (by simp [hq])] at h;cases h
def mL (A B:Tri):Nat→List ByteArray
|0=>[]
|k + 1=>mL A B k ++ eN (tr A k) (tr B k)
theorem qYe (A B:Tri) (q:ByteArray):∀ k,q ∈ mL A B k↔∃ j,j < k∧q ∈ eN (tr A j) (tr B j)
|0=>by simp [mL]
|k + 1=>by
  rw [mL,List.mem_append,qYe A B q k];constructor
  ·rintro (⟨j,hj,h⟩|h)
   ·exact ⟨j,by omega,h⟩
   ·exact ⟨k,by omega,h⟩
  ·rintro ⟨j,hj,h⟩
   by_cases e:j=k
   ·subst e;exact .inr h
   ·exact .inl ⟨j,by omega,h⟩
theorem qYj (A B:Tri) (x:Ent):∀ k,x ∈ wE A B k↔∃ j,j < k∧(x ∈ tr A j∨x ∈ tr B j)
|0=>by simp [wE]
|k + 1=>by
  rw [wE,List.mem_append,List.mem_append,qYj A B x k];constructor
  ·rintro ((⟨j,hj,h⟩|h)|h)
   ·exact ⟨j,by omega,h⟩
   ·exact ⟨k,by omega,.inl h⟩
   ·exact ⟨k,by omega,.inr h⟩
  ·rintro ⟨j,hj,h⟩
   by_cases e:j=k
   ·subst e
    rcases h with h|h
    ·exact .inl (.inr h)
    ·exact .inr h
   ·exact .inl (.inl ⟨j,by omega,h⟩)
theorem zD0 (A B:Tri) (q:ByteArray):qDm A B q=true↔∃ j,j < 3∧aF (tr A j) q≠aF (tr B j) q:=by
 unfold qDm;rw [Bool.not_eq_true',decide_eq_false_iff_not];constructor
 ·intro h
  by_cases h0:aF A.1 q=aF B.1 q
  ·by_cases h1:aF A.2.1 q=aF B.2.1 q
   ·exact ⟨2,by omega,fun h2=>h ⟨h0,h1,h2⟩⟩
   ·exact ⟨1,by omega,h1⟩
  ·exact ⟨0,by omega,h0⟩
 ·rintro ⟨j,hj,hd⟩ ⟨h0,h1,h2⟩
  rcases j with _|_|_|j
  ·exact hd h0
  ·exact hd h1
  ·exact hd h2
  ·omega
theorem qCs {A B:Tri} (hA:∀ j,j < 3→okR (tr A j)=true) (hB:∀ j,j < 3→okR (tr B j)=true) (sp:Int) :
  ((dD (pJ (mL A B 3))).filter (qDm A B)).map (oX sp A B)=sX sp A B:=by
 unfold sX
 congr 1
 have hn:=qFz (wE A B 3)
 have hp:=oC (wE A B 3)
 have hd:∀ q,q ∈ mL A B 3↔qDm A B q=true:=fun q=>by
  rw [qYe,zD0];constructor
  ·rintro ⟨j,hj,h⟩;exact ⟨j,hj,(qFd q _ _ (lY (hA j hj)) (lY (hB j hj)) (wV (hA j hj)) (wV (hB j hj))).1 h⟩
  ·rintro ⟨j,hj,h⟩;exact ⟨j,hj,(qFd q _ _ (lY (hA j hj)) (lY (hB j hj)) (wV (hA j hj)) (wV (hB j hj))).2 h⟩
 refine qVf (List.Pairwise.filter _ (qSz _ (qFy _))) (qKe _ _ _ hn (fun p e=>by cases e)) fun q=>?_
 rw [List.mem_filter,qNz,(qAq _).mem_iff,hd,qEi _ q _ _ hn (fun p e=>by cases e)]
 constructor
 ·rintro ⟨-,h⟩;refine ⟨?_,h,by simp⟩
  obtain ⟨j,hj,h⟩:=(zD0 A B q).1 h
  have:∃ x,(x ∈ tr A j∨x ∈ tr B j)∧x.1=q:=by
   by_cases e:aF (tr A j) q=kD
   ·have:aF (tr B j) q≠kD:=fun e'=>h (by rw [e,e'])
    obtain ⟨x,hx,r⟩:=qH5 this;exact ⟨x,.inr hx,r⟩
   ·obtain ⟨x,hx,r⟩:=qH5 e;exact ⟨x,.inl hx,r⟩
  obtain ⟨x,hx,r⟩:=this;exact ⟨x,hp.mem_iff.2 ((qYj A B x 3).2 ⟨j,hj,hx⟩),r⟩
 ·rintro ⟨-,h,-⟩;exact ⟨h,h⟩
end Go.Tr
end
section
set_option maxRecDepth 20000
namespace Go.Tr
open Go Go.Eng Go.RowKit Go.Proofs Go.Sort
theorem xL (x y:ByteArray) (r:List ByteArray):dD (x :: (y :: r))=if x=y then dD (y :: r) else x :: dD (y :: r):=rfl
theorem qFg (x y:ByteArray):∀ a:List ByteArray,dD (a ++ [x,y])=if x=y then dD (a ++ [x]) else dD (a ++ [x]) ++ [y]
|[]=>by
  show dD [x,y]=if x=y then dD [x] else dD [x] ++ [y]
  rw [xL];split
  ·rename_i h;rw [h]
  ·rfl
|[b]=>by
  have ih:dD [x,y]=if x=y then dD [x] else dD [x] ++ [y]:=qFg x y []
  have e1:dD ([b] ++ [x,y])=if b=x then dD [x,y] else b :: dD [x,y]:=rfl
  have e2:dD ([b] ++ [x])=if b=x then dD [x] else b :: dD [x]:=rfl
  rw [e1,e2,ih]
  by_cases h1:b=x <;> by_cases h2:x=y <;> simp [h1,h2]
|b :: c :: a=>by
  have ih:=qFg x y (c :: a)
  have e1:(b :: c :: a) ++ [x,y]=b :: (c :: (a ++ [x,y])):=rfl
  have e2:(b :: c :: a) ++ [x]=b :: (c :: (a ++ [x])):=rfl
  have e3:(c :: a) ++ [x,y]=c :: (a ++ [x,y]):=rfl
  have e4:(c :: a) ++ [x]=c :: (a ++ [x]):=rfl
  rw [e3,e4] at ih;rw [e1,e2,xL,xL,ih]
  by_cases h1:b=c <;> by_cases h2:x=y <;> simp [h1,h2]
theorem sV:∀ l:List ByteArray,(dD l).length≤l.length
|[]=>Nat.le_refl _
|[x]=>Nat.le_refl _
|x :: y :: r=>by
  have:=sV (y :: r)
  rw [xL];split
  ·simp only [List.length_cons] at *;omega
  ·simp only [List.length_cons] at *;omega
theorem qHu {l:List ByteArray} {j:Nat} (h:j < l.length):(byL l).toArray[j]! = l[j].data.toList:=by
 have h':j < (byL l).toArray.size:=by simp [byL,h]
 rw [getElem!_pos (byL l).toArray j h'];simp [byL]
theorem qSy (l:List ByteArray):∀ m,m≤l.length→Lib.compactUpTo (byL l).toArray m=byL (dD (l.take m))
|0,_=>by simp [Lib.compactUpTo,dD,byL]
|1,h=>by
  rw [Lib.compactUpTo_succ]
  have h0:0 < l.length:=h
  have e:l.take 1=[l[0]]:=by rw [List.take_succ_eq_append_getElem h0];rfl
  have hk:Lib.keeps (byL l).toArray 0=true:=by simp [Lib.keeps]
  rw [e,hk,if_pos rfl,qHu h0];simp [Lib.compactUpTo,dD,byL]
|m + 2,h=>by
  have ih:=qSy l (m + 1) (by omega)
  have h1:m + 1 < l.length:=h
  have h0:m < l.length:=by omega
  have e1:l.take (m + 1)=l.take m ++ [l[m]]:=List.take_succ_eq_append_getElem h0
  have e2:l.take (m + 2)=l.take m ++ [l[m],l[m + 1]]:=by rw [List.take_succ_eq_append_getElem h1,e1,List.append_assoc];rfl
  rw [Lib.compactUpTo_succ,ih,e1,e2,qFg,qHu h1]
  have hk:Lib.keeps (byL l).toArray (m + 1)=!decide (l[m]=l[m + 1]):=by
   unfold Lib.keeps;rw [Nat.add_sub_cancel,qHu h1,qHu h0]
   by_cases h:l[m]=l[m + 1]
   ·simp [h]
   ·have:l[m + 1].data.toList≠l[m].data.toList:=fun z=>h (oVt z).symm
    simp [h,this]
  rw [hk]
  by_cases h:l[m]=l[m + 1]
  ·simp [h]
  ·simp [h,byL]
theorem zK1 (l:List ByteArray):Lib.compact (byL l)=byL (dD l):=by
 unfold Lib.compact;rw [show (byL l).length=l.length by simp [byL],qSy l l.length (Nat.le_refl _),List.take_length]
end Go.Tr
namespace Go.Proofs.YtbdomkfdkfdfgaaGreatDoor
open Go Go.Eng Go.RowKit Go.Tr Go.Lib Go.Sort Go.Proofs
def oW (l:List ByteArray):List ByteArray:=dD l ++ List.replicate (l.length - (dD l).length) ByteArray.empty
theorem xM (l:List ByteArray):(oW l).length=l.length:=by
 have:=sV l
 unfold oW;rw [List.length_append,List.length_replicate];omega
theorem zAn {S:HS} {id:Nat} {nw:Bool} {l:List ByteArray} (hl:l.length≤4194304) {K:HV→HS→Prop} (hr:rlk S.st id=some (.sl nw 9 1 (cX l))) (hK:K (.vw id 1 0 (dD l).length) ⟨S.env,gJ id (.sl nw 9 1 (cX (oW l))) S.st⟩) :
  HAt Tryz.prog 42 [.own id] S K :=
 ⟨zVk,fun c look w ρ xs vs G R=>by
  obtain ⟨R1,R2⟩:=R
  match vs,R1 with
 |[v0],_ =>
  have r0:=R2 0 (by simp) (by simp)
  simp only [List.getElem_cons_zero] at r0
  cases r0
  obtain ⟨o1,o2,o3⟩:=cM G hr
  by_cases h0:l=[]
  ·subst h0
   have hsh:∃ ad cap,ρ id=.slice ad 0 cap∧(ad=none→cap=0)∧cap≤maxLen∧(0 < cap→∃ g,ad=some ⟨g,0,none⟩):=by
    rcases o1.2 with ⟨e,-⟩|⟨g,cap,cur,e,-,-,-,h2,-⟩
    ·exact ⟨none,0,e,fun _=>rfl,Nat.zero_le _,fun h=>absurd h (Nat.lt_irrefl 0)⟩
    ·exact ⟨_,cap,e,(fun h=>by cases h),h2,fun _=>⟨g,rfl⟩⟩
   obtain ⟨ad,cap,e0',q1,q2,q3⟩:=hsh;rw [e0'];refine Calls.mono (Any.slices_Compact_string_empty Tryz.laysCompact ad cap w) ?_;rintro e w' ⟨rfl,rfl⟩;refine mR ⟨_,_,hK,ρ,xs,G.same hr,?_⟩;exact .vw (n:=0) (c:=cap) 1 0 _ e0' (Nat.le_refl _) (Nat.sub_zero _).symm q1 q2 (fun h=>by obtain ⟨g,rfl⟩:=q3 h;exact ⟨g,rfl,by rw [Nat.zero_mul]⟩)
  ·have hpos:=List.length_pos_iff.2 h0
   obtain ⟨g,cap,cur,e0,b1,b2,b3,b4,b5⟩:=zA5 G (qCb l) (by decide) (by rw [rN];exact hr) (by rw [rP];exact hpos)
   rw [rP] at e0 b2 b5;rw [wK,Nat.mul_one] at b5;rw [Nat.mul_one] at b4
   have hb:w.heap[g]?=some (.cells cur 9 (0,0)):=b1
   have hH:Holds encStr w g 0 (byL l).toArray:=holds_of_block hb (by rw [hZ];exact b5)
   have hcon:=Any.slices_Compact_string Tryz.laysCompact g 0 cap (byL l) w hH (by rw [hZ];omega) (by rw [hZ];omega)
   rw [hZ,zK1,hZ] at hcon;rw [e0];refine Calls.mono hcon ?_;rintro e w' ⟨rfl,n,rfl⟩
   have hz:byL (dD l) ++ List.replicate (l.length - (dD l).length) []=byL (oW l):=by unfold oW byL;rw [List.map_append,List.map_replicate];rfl
   rw [hz]
   have hg:=grownBy_sorted (w:=w) (g:=g) (n:=n) (os:=#[]) (byL (oW l)).toArray
   have ho:=ownsRow_sorted (w:=w) (base:=0) (n:=n) (os:=#[]) (ss:=byL l) (ts:=byL (oW l)) (by rw [hZ,hZ,xM]) (Nat.zero_le g) hb (by rw [hZ];exact b2) b3 (by rw [b4,Nat.mul_one])
   rw [grow_empty] at hg ho;rw [hZ,← wK] at ho
   have hc:l.length=(qCc (oW l)).length:=by rw [rP,xM]
   have G2:=G.turnP (id:=id) (ty:=9) (sz:=1) (nw:=nw) (cs0:=qCc l) (cs:=qCc (oW l)) (qCb _) (by rw [rN];exact hr) (by rw [← hc];exact e0) (w':=putRow encStr (Sort.ahead w n) g 0 (byL (oW l)).toArray) (by rw [e0,← hc];exact ho) hg.os hg.tape hg.output hg.size (fun b hlt hne=>hg.block b hlt fun e=>hne (Option.some.inj e))
   rw [rN] at G2;refine mR ⟨_,_,hK,ρ,_,G2,?_⟩;exact .vw (n:=l.length) (c:=cap) 1 0 _ e0 (by rw [Nat.zero_add];exact sV l) (Nat.sub_zero _).symm (fun h=>by cases h) b3 (fun _=>⟨g,rfl,by rw [Nat.zero_mul]⟩)⟩
end Go.Proofs.YtbdomkfdkfdfgaaGreatDoor
end
