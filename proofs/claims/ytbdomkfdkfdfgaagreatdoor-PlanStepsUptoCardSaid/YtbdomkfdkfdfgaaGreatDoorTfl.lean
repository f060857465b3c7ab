/-
  A row of entries in memory.
-/
import Derived.Test.YtbdomkfdkfdfgaaGreatDoorTrU
import Derived.Test.YtbdomkfdkfdfgaaGreatDoorUpt
import Derived.Test.YtbdomkfdkfdfgaaGreatDoorTrL
set_option linter.unusedSimpArgs false
set_option linter.unusedVariables false
section
set_option maxRecDepth 20000
namespace Go.Tr
open Go Go.Eng
theorem zCk (n:Int × ByteArray):FreshH (nF n):=.agg fun x hx=>by simp at hx;rcases hx with rfl|rfl <;> exact .v _
theorem zLc {n:Int × ByteArray} {ρ ρ':Nat→Value} {w:World} {A:Nat→Prop} {n0:Nat} {v:Value} (h:RepH w A n0 ρ v (nF n)):RepH w A n0 ρ' v (nF n):=by
 cases h with
|agg hn h1 h =>
  refine .agg hn h1 fun j a b=>?_
  have:=h j a b
  match j,b with
 |0,_=>rw [bL this];exact .v _
 |1,_=>rw [bL this];exact .v _
theorem qBp {P:Program} {T:HS} {f:FuncId} {args args':List HV} {n:Int × ByteArray} {K:HV→Prop} (hc:aE P f=true) (H:HFun P f args' (fun h st=>h=nF n∧st=[])) (hl:Lends T.st args args') (hK:K (nF n)):zN5 P f args T K :=
 zW0 hc H (zCk n) (fun ρ ρ' w A n v h=>zLc h) hl hK
end Go.Tr
end
section
namespace Go.Eng
open Go Go.RowKit
section
variable {P:Program} {N:Nat} {x:Code} {Q:gG} {c:Ctx} {S S':HS} {look:Nat→Option Value} {w:World}
theorem nQ {id:Nat} {ops:List Oper} (n:Nat) (hm:P.follows .mixedOrders=true) (hok:qA4 (bU S.env) ops n=true)
  (h:∀ K:HS→Prop,(∀ S',Q .normal S'→K S')→∀ K1:HS→Prop,(∀ S',mU (HV2 P N (cT ops) K (ops.drop n)) S'→K1 S')→HVr P N (cT ops) K1 (ops.take n) S):HW P N (.region id ops.toArray true) Q S :=
 zQu n hm hok fun K hK=>h K hK _ fun _ h=>h
theorem kP {id:Nat} {ops:List Oper} (n:Nat) (hm:P.follows .mixedOrders=true) (hok:qA4 (bU S.env) ops n=true)
  (h:∀ K:HS→Prop,(∀ S',Q .normal S'→K S')→∀ K1:HS→Prop,(∀ S',mU (HV2 P N (cT ops) K (ops.drop n)) S'→K1 S')→HVq P N (cT ops) K1 (ops.take n) S):HW P N (.region id ops.toArray true) Q S :=
 HW_drw n hm hok fun K hK=>h K hK _ fun _ h=>h
end
end Go.Eng
end
section
set_option maxRecDepth 20000
namespace Go.Tr
open Go Go.Eng
def spare:Ent:=({ data:=#[115,112,97,114,101] },0,ByteArray.empty)
abbrev dT (t:List Ent):Row:=.sl true 67 3 (aG t)
theorem zP3 {S:HS} {id sz n:Nat} {ty:Nat} {els:List (List FV)} {Q:HV→aD→Prop} (hr:rlk S.st id=some (.sl true ty sz els)) (hf:∀ x ∈ els,∀ f ∈ x,FreshF f) (q:Q (.vw 0 sz 0 n) [(0,.sl true ty sz els)]):qB9 S (.vw id sz 0 n) Q :=
 ⟨[id],by simp,by simp [dup],.vw ..,fun i h r hr'=>by
  simp at h;subst h;rw [hr] at hr';simp only [Option.some.injEq] at hr';subst hr';exact ⟨rfl,hf⟩,by
  rw [HV.ren];simp only [pos,if_true,jR,hr,Row.ren];exact q⟩
end Go.Tr
namespace Go.Proofs.YtbdomkfdkfdfgaaGreatDoor
open Go Go.Eng Go.RowKit Go.Tr
set_option maxHeartbeats 2000000 in
theorem zDf (t:List Ent) (hl:t.length≤1048576):HFun Tryz.prog 10 [.lst false (aG t)] (fun h st=>h=.vw 0 3 0 t.length∧st=[(0,dT (t ++ [spare]))]):=by
 refine eX (N:=12) Tryz.func10 rfl Tryz.ntmps10 Tryz.results10 (by simp) ?_
 refine zE ?_;refine zJ (fun K hK=>?_);simp (disch:=omega) only [push_cast,↓Int.cast_ofNat_Int,simprocAttr];refine hK _ ?_;clear hK K
 have e1:aG t ++ [[FV.v (.string { data:=#[115,112,97,114,101] }),.v (.int .i64 0),.v (.string ByteArray.empty)]]=aG (t ++ [spare]):=mR t _ _ _
 refine zE ?_;refine zJ (fun K hK=>?_);simp (disch:=omega) only [push_cast,↓Int.cast_ofNat_Int,simprocAttr,yV,yU,Nat.sub_zero,e1];refine hK _ ?_;clear hK K
 refine zA ?_;refine zW ?_;simp only [yA,yM,yH,yE,aA,aC,yK,yJ,zS,zM,Nat.reduceEqDiff,reduceIte,reduceCtorEq];exact zP3 rfl (aP _) ⟨rfl,rfl⟩
set_option maxHeartbeats 4000000 in
theorem qRv (t:List Ent) (p:ByteArray) (hl:t.length≤1048576) (hs:∀ e ∈ t,e.1.size≤1048576) (hp:p.size≤1048576):HFun Tryz.prog 51 [.lst false (aG t),.v (.string p)] (fun h st=>h=.own 0∧st=[(0,dT (t.filter fun e=>dY e.1 p))]):=by
 refine eX (N:=25) Tryz.func51 rfl Tryz.ntmps51 Tryz.results51 (by simp) ?_
 refine zE ?_;refine zJ (fun K hK=>?_);simp (disch:=omega) only [push_cast,↓Int.cast_ofNat_Int,simprocAttr];refine hK _ ?_;clear hK K
 refine zE ?_;refine zJ (fun K hK=>?_);simp (disch:=omega) only [push_cast,↓Int.cast_ofNat_Int,simprocAttr];refine hK _ ?_;clear hK K
 refine zE ?_;refine zE ?_;refine zJ (fun K hK=>?_);simp (disch:=omega) only [push_cast,↓Int.cast_ofNat_Int,simprocAttr,yV];refine hK _ ?_;clear hK K
 refine zA ?_;refine zD ?_;refine cP (fun x:Nat × List Ent=>⟨[(1,.v (.string p)),(5,.own 64),(9,.lst false (aG t)),(10,.v (.int .i64 t.length)),(11,.v (.int .i64 x.1))],[(64,dT x.2)]⟩) (fun x=>x.1≤t.length∧x.2=(t.take x.1).filter fun e=>dY e.1 p) (fun x=>t.length - x.1) [1,5,9,10,11] [64] (0,[]) (by simp only [zZ,zR,zP,zQ,zN,zS,zM,zX,zU,Nat.reduceEqDiff,reduceIte];rfl) ⟨Nat.zero_le _,rfl⟩ ?_
 rintro ⟨i,out⟩ ⟨hi,ho⟩;simp only at hi ho
 by_cases hlt:i < t.length
 ·have hsz:=hs _ (List.getElem_mem hlt)
  have hol:out.length≤i:=by
   rw [ho];refine Nat.le_trans (List.length_filter_le ..) ?_;rw [List.length_take];omega
  have cu:=qKo t[i].1 p hsz hp
  refine zE ?_;refine zJ (fun K hK=>?_);simp (disch:=omega) only [push_cast,↓Int.cast_ofNat_Int,simprocAttr];refine hK _ ?_;clear hK K
  refine zE ?_;refine yD rfl ?_;refine zC ?_;refine zE ?_;refine zD ?_;refine zE ?_;refine zJ (fun K hK=>?_);simp (disch:=omega) only [push_cast,↓Int.cast_ofNat_Int,simprocAttr,yV,yU,yW hlt];refine hK _ ?_;clear hK K
  refine zE ?_;refine zJ (fun K hK=>?_);simp (disch:=omega) only [push_cast,↓Int.cast_ofNat_Int,simprocAttr]
  refine bE zNg cu (.cons (.v _) (.cons (.v _) .nil)) ?_;with_reducible refine aB ?_;simp (disch:=omega) only [push_cast,↓Int.cast_ofNat_Int,simprocAttr]
  refine hK _ ?_;clear hK K
  cases hu:dY t[i].1 p with
 |true =>
   have e2:aG out ++ [[FV.v (.string t[i].1),.v (.int .i64 t[i].2.1),.v (.string t[i].2.2)]]=aG (out ++ [t[i]]):=mR out _ _ _
   refine yD rfl ?_;refine zJ (fun K hK=>?_);simp (disch:=omega) only [push_cast,↓Int.cast_ofNat_Int,simprocAttr,yV,e2];(repeat refine ⟨by first|omega|decide|((repeat' apply And.intro) <;> first|omega|decide),?_⟩);refine hK _ ?_;clear hK K
   refine zB ?_;refine zA ?_;refine zJ (fun K hK=>?_);simp (disch:=omega) only [push_cast,↓Int.cast_ofNat_Int,simprocAttr];refine hK _ ?_;clear hK K
   refine zA ?_;refine ⟨(i + 1,out ++ [t[i]]),by simp only [zZ,zR,zP,zQ,zN,zS,zM,zX,zU,Nat.reduceEqDiff,reduceIte];rfl,⟨hlt,?_⟩,by dsimp only;omega⟩
   dsimp only;rw [List.take_succ_eq_append_getElem hlt,List.filter_append,← ho];simp [hu]
 |false =>
   refine yC rfl ?_;refine zC ?_;refine zB ?_;refine zA ?_;refine zJ (fun K hK=>?_);simp (disch:=omega) only [push_cast,↓Int.cast_ofNat_Int,simprocAttr];refine hK _ ?_;clear hK K
   refine zA ?_;refine ⟨(i + 1,out),by simp only [zZ,zR,zP,zQ,zN,zS,zM,zX,zU,Nat.reduceEqDiff,reduceIte];rfl,⟨hlt,?_⟩,by dsimp only;omega⟩
   dsimp only;rw [List.take_succ_eq_append_getElem hlt,List.filter_append,← ho];simp [hu]
 ·have hne:i=t.length:=by omega
  subst hne;rw [List.take_length] at ho;rw [ho];refine zE ?_;refine zJ (fun K hK=>?_);simp (disch:=omega) only [push_cast,↓Int.cast_ofNat_Int,simprocAttr];refine hK _ ?_;clear hK K
  refine zE ?_;refine yC rfl ?_;refine zT ?_;refine zG ?_;refine zG ?_;refine zH ?_;refine zE ?_;refine zJ (fun K hK=>?_);simp (disch:=omega) only [push_cast,↓Int.cast_ofNat_Int,simprocAttr];refine hK _ ?_;clear hK K
  refine zA ?_;refine zW ?_;simp only [yA,yM,yH,yE,aA,aC,yK,yJ,zS,zM,Nat.reduceEqDiff,reduceIte,reduceCtorEq];exact xX rfl (aP _) ⟨rfl,rfl⟩
theorem qLs:∀ (t:List Ent),t.length≤1048576→(∀ e ∈ t,e.2.2.size≤1048576)→cZ t≤t.length * 1048576
|[],_,_=>by simp [cZ]
|e :: r,h,hs=>by
  have ih:=qLs r (by simp at h;omega) (fun x hx=>hs x (by simp [hx]))
  have:=hs e (by simp)
  simp only [cZ,List.map_cons,List.sum_cons,List.length_cons] at ih ⊢;omega
theorem qLr (t:List Ent) (e:Ent):cZ (t ++ [e])=cZ t + e.2.2.size:=by simp [cZ]
set_option maxHeartbeats 4000000 in
theorem zS6 (t:List Ent) (hl:t.length≤1048576) (hs:∀ e ∈ t,e.2.2.size≤1048576):HFun Tryz.prog 48 [.lst false (aG t)] (fun h st=>h=.v (.int .i64 (cZ t))):=by
 refine eX (N:=20) Tryz.func48 rfl Tryz.ntmps48 Tryz.results48 (by simp) ?_
 refine zE ?_;refine zJ (fun K hK=>?_);simp (disch:=omega) only [push_cast,↓Int.cast_ofNat_Int,simprocAttr];refine hK _ ?_;clear hK K
 refine zE ?_;refine zJ (fun K hK=>?_);simp (disch:=omega) only [push_cast,↓Int.cast_ofNat_Int,simprocAttr];refine hK _ ?_;clear hK K
 refine zE ?_;refine zE ?_;refine zJ (fun K hK=>?_);simp (disch:=omega) only [push_cast,↓Int.cast_ofNat_Int,simprocAttr,yV];refine hK _ ?_;clear hK K
 refine zA ?_;refine zD ?_;refine cP (fun i:Nat=>⟨[(3,.v (.int .i64 (cZ (t.take i)))),(6,.lst false (aG t)),(7,.v (.int .i64 t.length)),(8,.v (.int .i64 i))],[]⟩) (fun i=>i≤t.length) (fun i=>t.length - i) [3,6,7,8] [] 0 rfl (Nat.zero_le _) ?_
 rintro i hi
 by_cases hlt:i < t.length
 ·have h1:=hs _ (List.getElem_mem hlt)
  have h2:=qLs (t.take i) (by rw [List.length_take];omega) (fun e he=>hs e (List.mem_of_mem_take he))
  rw [List.length_take,Nat.min_eq_left hi] at h2
  have h3:cZ (t.take (i + 1))=cZ (t.take i) + t[i].2.2.size:=by rw [List.take_succ_eq_append_getElem hlt,qLr]
  generalize cZ (t.take i)=a at *
  refine zE ?_;refine zJ (fun K hK=>?_);simp (disch:=omega) only [push_cast,↓Int.cast_ofNat_Int,simprocAttr];refine hK _ ?_;clear hK K
  refine zE ?_;refine yD rfl ?_;refine zC ?_;refine zE ?_;refine zD ?_;refine zE ?_;refine zJ (fun K hK=>?_);simp (disch:=omega) only [push_cast,↓Int.cast_ofNat_Int,simprocAttr,yV,yU,yW hlt];refine hK _ ?_;clear hK K
  refine zA ?_;refine zJ (fun K hK=>?_);simp (disch:=omega) only [push_cast,↓Int.cast_ofNat_Int,simprocAttr];refine hK _ ?_;clear hK K
  refine zB ?_;refine zA ?_;refine zJ (fun K hK=>?_);simp (disch:=omega) only [push_cast,↓Int.cast_ofNat_Int,simprocAttr];refine hK _ ?_;clear hK K
  refine zA ?_;exact ⟨i + 1,by simp only [zZ,zR,zP,zQ,zN,zS,zM,zX,zU,Nat.reduceEqDiff,reduceIte];rw [h3];rfl,hlt,by omega⟩
 ·have hne:i=t.length:=by omega
  subst hne;rw [List.take_length];refine zE ?_;refine zJ (fun K hK=>?_);simp (disch:=omega) only [push_cast,↓Int.cast_ofNat_Int,simprocAttr];refine hK _ ?_;clear hK K
  refine zE ?_;refine yC rfl ?_;refine zT ?_;refine zG ?_;refine zG ?_;refine zH ?_;refine zE ?_;refine zJ (fun K hK=>?_);simp (disch:=omega) only [push_cast,↓Int.cast_ofNat_Int,simprocAttr];refine hK _ ?_;clear hK K
  refine zA ?_;refine zW ?_;simp only [yA,yM,yH,yE,aA,aC,yK,yJ,zS,zM,Nat.reduceEqDiff,reduceIte,reduceCtorEq];exact aJ rfl
end Go.Proofs.YtbdomkfdkfdfgaaGreatDoor
end
section
set_option maxRecDepth 20000
namespace Go.Tr
open Go Go.Eng Go.RowKit
def dJ:List Ent→List Value
|[]=>[]
|e :: r=>.string e.1 :: .int .i64 e.2.1 :: .string e.2.2 :: dJ r
theorem jP:∀ t:List Ent,(dJ t).length=t.length * 3
|[]=>rfl
|e :: r=>by simp only [dJ,List.length_cons,jP r];omega
theorem qCv:∀ a b:List Ent,dJ (a ++ b)=dJ a ++ dJ b
|[],b=>rfl
|e :: r,b=>by simp [dJ,qCv r b]
theorem qEb:∀ (t:List Ent) (i:Nat),dJ (t.take i)=(dJ t).take (i * 3)
|[],i=>by simp [dJ]
|e :: r,0=>by simp [dJ]
|e :: r,i + 1=>by
  rw [List.take_succ_cons,show (i + 1) * 3=i * 3 + 1 + 1 + 1 by omega]
  simp only [dJ,List.take_succ_cons,qEb r i]
theorem qEc:∀ (t:List Ent) (i:Nat),dJ (t.drop i)=(dJ t).drop (i * 3)
|[],i=>by simp [dJ]
|e :: r,0=>by simp [dJ]
|e :: r,i + 1=>by
  rw [List.drop_succ_cons,show (i + 1) * 3=i * 3 + 1 + 1 + 1 by omega]
  simp only [dJ,List.drop_succ_cons,qEc r i]
theorem qN:∀ (t:List Ent),∀ u ∈ dJ t,u.oneCell'=true
|[],u,h=>by simp [dJ] at h
|e :: r,u,h=>by
  simp only [dJ,List.mem_cons] at h
  rcases h with rfl|rfl|rfl|h
  ·rfl
  ·rfl
  ·rfl
  ·exact qN r u h
theorem qCu:∀ (t:List Ent) (i k:Nat) (hi:i < (aG t).length) (hk:k < (aG t)[i].length),∃ x,(aG t)[i][k]=.v x∧(dJ t)[i * 3 + k]?=some x∧x.oneCell'=true
|[],i,k,hi,_=>by simp [aG] at hi
|e :: r,0,k,hi,hk=>by
  have e0:(aG (e :: r))[0]=[.v (.string e.1),.v (.int .i64 e.2.1),.v (.string e.2.2)]:=rfl
  simp only [e0,List.length_cons,List.length_nil] at hk
  match k,hk with
 |0,_=>exact ⟨.string e.1,rfl,rfl,rfl⟩
 |1,_=>exact ⟨.int .i64 e.2.1,rfl,rfl,rfl⟩
 |2,_=>exact ⟨.string e.2.2,rfl,rfl,rfl⟩
|e :: r,i + 1,k,hi,hk=>by
  obtain ⟨x,h1,h2,h3⟩:=qCu r i k (by simpa [aG] using hi) hk
  refine ⟨x,h1,?_,h3⟩;rw [show (i + 1) * 3 + k=i * 3 + k + 1 + 1 + 1 by omega]
  simpa [dJ] using h2
theorem zQa {w:World} {A:Nat→Prop} {n0:Nat} {arr:List Value} {t:List Ent} (hl:arr.length=t.length * 3) (hw:∀ x ∈ aG t,x.length=3) (h:∀ i k (hi:i < (aG t).length) (hk:k < (aG t)[i].length),∃ u,arr[i * 3 + k]?=some u∧u.oneCell'=true∧RepF w A n0 u (aG t)[i][k]):arr=dJ t:=by
 apply List.ext_getElem?
 intro p
 by_cases hp:p < t.length * 3
 ·have hi:p / 3 < (aG t).length:=by rw [yV];omega
  have hk:p % 3 < (aG t)[p / 3].length:=by rw [hw _ (List.getElem_mem _)];omega
  obtain ⟨u,u1,-,u3⟩:=h (p / 3) (p % 3) hi hk;obtain ⟨x,h1,h2,-⟩:=qCu t (p / 3) (p % 3) hi hk;rw [h1] at u3
  cases u3
  rw [show p / 3 * 3 + p % 3=p by omega] at u1 h2
  rw [u1,h2]
 ·rw [List.getElem?_eq_none (by omega),List.getElem?_eq_none (by rw [jP];omega)]
end Go.Tr
namespace Go.Proofs.YtbdomkfdkfdfgaaGreatDoor
open Go Go.Eng Go.RowKit Go.Tr Go.Lib
theorem qJ {b:Nat} {t:TypeId}:∀ (vs:List Value) (o:Nat) {w:World} {cs:Array Value},Blk w b cs t→o + vs.length≤cs.size→Blk (w.setCells b o vs) b (splice cs.toList o vs).toArray t∧Only b w (w.setCells b o vs)
|[],o,w,cs,h,hl=>by
  have e:(splice cs.toList o []).toArray=cs:=by simp [splice]
  rw [e];exact ⟨h,Only.refl _ _⟩
|v :: vs,o,w,cs,h,hl=>by
  simp only [List.length_cons] at hl
  have h1:Blk (w.setCell ⟨b,o,none⟩ v) b (cs.setIfInBounds o v) t:=by
   rw [setCell_eq_setRow w b o cs t _ v h];exact iU h _
  have o1:Only b w (w.setCell ⟨b,o,none⟩ v):=by
   rw [setCell_eq_setRow w b o cs t _ v h];exact fF w b _
  obtain ⟨h2,o2⟩:=qJ vs (o + 1) h1 (by simp;omega)
  have e:splice (cs.setIfInBounds o v).toList (o + 1) vs=splice cs.toList o (v :: vs):=by
   apply List.ext_getElem?
   intro j;rw [dM _ _ _ (by simp;omega),dM _ _ _ (by simp;omega)]
   simp only [Array.toList_setIfInBounds,List.getElem?_set,List.length_cons]
   by_cases hj:j=o
   ·subst hj;rw [if_neg (by omega),if_pos rfl,if_pos (by simp;omega),if_pos (by omega)]
    simp
   ·by_cases h3:o + 1≤j∧j < o + 1 + vs.length
    ·rw [if_pos h3,if_pos (by omega)]
     obtain ⟨k,rfl⟩:∃ k,j=o + 1 + k:=⟨j - (o + 1),by omega⟩
     rw [show o + 1 + k - (o + 1)=k by omega,show o + 1 + k - o=k + 1 by omega,List.getElem?_cons_succ]
    ·rw [if_neg h3,if_neg (by omega),if_neg (by omega)]
  rw [e] at h2;exact ⟨h2,o1.trans o2⟩
theorem qE1 {c:Ctx} {S:HS} {look:Nat→Option Value} {w:World} {ρ:Nat→Value} {xs:Nat→List Value} (G:Eng.Good c S look w ρ xs) {id:Nat} {t:List Ent} (hr:rlk S.st id=some (dT t)) (h0:0 < t.length) :
  ∃ g cap cur,ρ id=.slice (some ⟨g,0,none⟩) t.length cap∧Blk w g cur 67∧t.length≤cap∧cap≤maxLen∧cur.size=cap * 3∧cur.toList.take (t.length * 3)=dJ t:=by
 obtain ⟨o1,o2,o3⟩:=dK G hr;rw [yV] at o1;obtain ⟨g,cap,hv,h1,h2,-⟩:=fZ o1 h0;rw [hv] at o1;obtain ⟨cur,b1,b2,b3,b4,b5⟩:=qCj o1
 have:=zQa o1.1 o2 o3
 exact ⟨g,cap,cur,hv,b1,b2,b3,b4,by rw [b5,this]⟩
theorem zM4 {c:Ctx} {st:aD} {w w':World} {ρ:Nat→Value} {xs:Nat→List Value} (G:Eng.Good c ⟨[],st⟩ (fun _=>none) w ρ xs) (hw:c.w0=w) {t0 t:List Ent} (hr:rlk st 0=some (dT t0)) {v:Value}
  (hO:Own w' 0 67 3 v t.length (dJ t)) (hg:w.grownBy w' (ρ 0).ownBlock) (hb:∀ b,v.ownBlock=some b→w.heap.size≤b∨(ρ 0).ownBlock=some b) :
  Eng.Good c ⟨[],[(0,dT t)]⟩ (fun _=>none) w' (fun _=>v) (fun _=>dJ t):=by
 have hn0:=c.hn
 have hnew:=(G.rows 0 _ hr).new
 refine ⟨fun i r h=>?_,fun i j r s b hne h h'=>?_,fun k h hk=>by simp [hlk] at hk,G.kept.trans (T':=fun b=>(ρ 0).ownBlock=some b) ⟨hg.os,hg.tape,hg.output,hg.size,fun b hlt hne=>hg.block b hlt fun e=>hne e.symm⟩ (fun b hlt hT=>?_),G.a0⟩
 ·simp only [rlk] at h;split at h
  ·rename_i e;simp only [Option.some.injEq] at h;subst h;refine ⟨by simpa [Row.ty,Row.sz,Row.len,yV] using hO,⟨of_eq_true (yU _),fun i k hi hk=>?_⟩,fun b hb'=>?_⟩
   ·obtain ⟨x,h1,h2,h3⟩:=qCu t i k hi hk;exact ⟨x,h2,h3,by rw [h1];exact .v x⟩
   ·rcases hb b hb' with h|h
    ·rw [hw] at hn0 ⊢;exact ⟨.inl h,fun _=>by omega⟩
    ·exact hnew b h
  ·cases h
 ·simp only [rlk] at h h';split at h
  ·split at h'
   ·omega
   ·cases h'
  ·cases h
 ·rcases (hnew b hT).1 with h|h
  ·omega
  ·exact h
theorem zQd {t:List Ent}:∀ i r,rlk [(0,dT t)] i=some r→i < 8:=fun i r h=>by
 simp only [rlk] at h;split at h
 ·omega
 ·cases h
theorem qWg {c:Ctx} {st:aD} {w w':World} {ρ:Nat→Value} {xs:Nat→List Value} (G:Eng.Good c ⟨[],st⟩ (fun _=>none) w ρ xs) (hw:c.w0=w) {t0 t:List Ent} (hr:rlk st 0=some (dT t0)) (hbx:∀ j,¬ pF (rlk st j)) {v:Value}
  (hO:Own w' 0 67 3 v t.length (dJ t)) (hg:w.grownBy w' (ρ 0).ownBlock) (hb:∀ b,v.ownBlock=some b→w.heap.size≤b∨(ρ 0).ownBlock=some b) (h1:v.oneCell'=true) :
  ∃ h st' ρ' xs',(∀ i r,rlk st' i=some r→i < 8)∧(∀ j,pF (rlk st j)→pF (rlk st' j))∧(h=.own 0∧st'=[(0,dT t)])∧Eng.Good c ⟨[],st'⟩ (fun _=>none) w' ρ' xs'∧RepH w' (c.A ρ' st') c.n0 ρ' v h :=
 ⟨_,[(0,dT t)],fun _=>v,fun _=>dJ t,zQd,fun j h=>(hbx j h).elim,⟨rfl,rfl⟩,zM4 G hw hr hO hg hb,.own 0 h1⟩
end Go.Proofs.YtbdomkfdkfdfgaaGreatDoor
end
