/-
  The document's Size, Diff; are two lists of texts alike: walked.
-/
import Derived.Test.YtbdomkfdkfdfgaaGreatDoorPaE
import Derived.Test.YtbdomkfdkfdfgaaGreatDoorPnA
import Derived.Test.YtbdomkfdkfdfgaaGreatDoorTka
import Derived.Test.YtbdomkfdkfdfgaaGreatDoorOne
set_option linter.unusedSimpArgs false
set_option linter.unusedVariables false
section
set_option maxRecDepth 20000
namespace Go.Proofs.YtbdomkfdkfdfgaaGreatDoor
open Go Go.Eng Go.RowKit Go.Tr
set_option maxHeartbeats 8000000 in
theorem zBm (root:Int) (old now:List Ent) (hlo:old.length≤1048576) (hln:now.length≤1048576) :
  HFun Tryz.prog 26 [.v (.int .i64 root),.lst false (aG old),.lst false (aG now)] (fun h st=>h=.own 0∧st=[(0,qE3 (qB4 root old now))]):=by
 refine eX (N:=77) Tryz.func26 rfl Tryz.ntmps26 Tryz.results26 (by simp) ?_
 refine zE ?_;refine zJ (fun K hK=>?_);simp (disch:=omega) only [push_cast,↓Int.cast_ofNat_Int,simprocAttr];refine hK _ ?_;clear hK K
 refine zE ?_;refine zJ (fun K hK=>?_);simp (disch:=omega) only [push_cast,↓Int.cast_ofNat_Int,simprocAttr];refine hK _ ?_;clear hK K
 refine zE ?_;refine zE ?_;refine zJ (fun K hK=>?_);simp (disch:=omega) only [push_cast,↓Int.cast_ofNat_Int,simprocAttr,yV];refine hK _ ?_;clear hK K
 refine zA ?_;refine zD ?_;refine eW 7 9000 64 4 rfl (by simp only [dX,fM,fN,bQ,aY,aZ,aT,cY,bD,cE,bC,bB,cM,bP,bN,aX,bV,bW,cJ,cX,dC,cD,Nat.reduceBEq,Nat.reduceEqDiff,reduceIte,cond_true,cond_false,List.map_cons,List.map_nil];exact rfl) ?_
 refine cP (fun j:Nat=>⟨[(0,.v (.int .i64 root)),(1,.lst false (aG old)),(2,.lst false (aG now)),(7,.own 9000),(8,.v (.int .i64 ((old.length:Int) - 1 - j)))],[(9000,qE3 (lQ root now (old.reverse.take j)))]⟩) (fun j=>j≤old.length) (fun j=>old.length - j) [0,1,2,7,8] [9000] 0 (by simp only [zZ,zR,zP,zQ,zN,zS,zM,zX,zU,Nat.reduceEqDiff,reduceIte];simp [lQ,eP]) (Nat.zero_le _) ?_
 intro j hj
 have hP:(lQ root now (old.reverse.take j)).length≤j:=by
  have h2:=List.length_filter_le (qGk now) (old.reverse.take j)
  unfold lQ;rw [List.length_map];rw [List.length_take] at h2;omega
 by_cases hlt:j < old.length
 ·obtain ⟨m,hm⟩:∃ m,old.length - 1 - j=m:=⟨_,rfl⟩
  have hml:m < old.length:=by omega
  have em:((old.length:Int) - 1 - j)=(m:Int):=by omega
  have hd:lQ root now (old.reverse.take (j + 1))=lQ root now (old.reverse.take j) ++ if qGk now old[m]=true then [(root,old[m].1,mF)] else []:=by
   have hlr:j < old.reverse.length:=by rw [List.length_reverse];exact hlt
   have:old.reverse[j]=old[m]:=by rw [List.getElem_reverse];congr 1
   unfold lQ;rw [List.take_succ_eq_append_getElem hlr,List.filter_append,List.map_append,this]
   cases h:qGk now old[m] <;> simp [h]
  have hg:=@yW old m [] hml
  rw [em];generalize old[m]=e at *
  obtain ⟨p,k,d⟩:=e
  have c24:=qA1 now p (by omega)
  obtain ⟨x,hx⟩:∃ x,aN now p=x:=⟨_,rfl⟩;rw [hx] at c24;simp only [qGk,hx] at hd;obtain ⟨km,dm⟩:=x;dsimp only at hd;refine zE ?_;refine zE ?_;refine zJ (fun K hK=>?_);simp (disch:=omega) only [push_cast,↓Int.cast_ofNat_Int,simprocAttr];refine hK _ ?_;clear hK K
  refine zA ?_;refine yD rfl ?_;refine zC ?_;refine zE ?_
  have wm:IntKind.i64.wrap ((m:Int) - 1)=(m:Int) - 1:=by rw [IntKind.wrap_i64];omega
  have en:((old.length:Int) - 1 - ((j + 1:Nat):Int))=(m:Int) - 1:=by omega
  cases hb:decide (km=k) with
 |true =>
   rw [hb] at hd;refine zD ?_;refine zE ?_;refine nQ 14 mixed (by kernel_rfl) (fun K hK K1 hK1=>?_);simp (disch:=omega) only [push_cast,↓Int.cast_ofNat_Int,simprocAttr,hb,yV,yU,hg]
   refine qBp qKk c24 (.cons (aL (yT _)) (.cons (.v _) .nil)) ?_;with_reducible refine aB ?_;simp (disch:=omega) only [push_cast,↓Int.cast_ofNat_Int,simprocAttr,hb,yV,yU,hg]
   refine hK1 _ ?_;(try clear hK1 K1);with_reducible refine aB ?_;simp (disch:=omega) only [push_cast,↓Int.cast_ofNat_Int,simprocAttr,hb]
   refine hK _ ?_;clear hK K;refine yC rfl ?_;refine zC ?_;refine zB ?_;refine zA ?_;refine zJ (fun K hK=>?_);simp (disch:=omega) only [push_cast,↓Int.cast_ofNat_Int,simprocAttr,wm];refine hK _ ?_;clear hK K
   refine zA ?_;exact ⟨j + 1,by simp only [zZ,zR,zP,zQ,zN,zS,zM,zX,zU,Nat.reduceEqDiff,reduceIte,en];rw [hd];simp,hlt,by omega⟩
 |false =>
   rw [hb] at hd;refine zD ?_;refine zE ?_;refine nQ 14 mixed (by kernel_rfl) (fun K hK K1 hK1=>?_);simp (disch:=omega) only [push_cast,↓Int.cast_ofNat_Int,simprocAttr,hb,yV,yU,hg]
   refine qBp qKk c24 (.cons (aL (yT _)) (.cons (.v _) .nil)) ?_;with_reducible refine aB ?_;simp (disch:=omega) only [push_cast,↓Int.cast_ofNat_Int,simprocAttr,hb,yV,yU,hg]
   refine hK1 _ ?_;(try clear hK1 K1);with_reducible refine aB ?_;simp (disch:=omega) only [push_cast,↓Int.cast_ofNat_Int,simprocAttr,hb]
   refine hK _ ?_;clear hK K;refine yD rfl ?_
   have e2:eP (lQ root now (old.reverse.take j)) ++ [[FV.v (.int .i64 root),.v (.string p),.v (.int .i64 0),.v (.string ByteArray.empty)]]=eP (lQ root now (old.reverse.take j) ++ [(root,p,mF)]):=qC4 _ _ _ _ _
   refine zJ (fun K hK=>?_);simp (disch:=omega) only [push_cast,↓Int.cast_ofNat_Int,simprocAttr,cW,gF,yV,yU,hg,e2];(repeat refine ⟨by first|omega|decide|((repeat' apply And.intro) <;> first|omega|decide),?_⟩);refine hK _ ?_;clear hK K
   refine zB ?_;refine zA ?_;refine zJ (fun K hK=>?_);simp (disch:=omega) only [push_cast,↓Int.cast_ofNat_Int,simprocAttr,wm];refine hK _ ?_;clear hK K
   refine zA ?_;exact ⟨j + 1,by simp only [zZ,zR,zP,zQ,zN,zS,zM,zX,zU,Nat.reduceEqDiff,reduceIte,en];rw [hd];simp,hlt,by omega⟩
 ·have hne:j=old.length:=by omega
  subst hne
  have em:((old.length:Int) - 1 - (old.length:Nat))=-1:=by omega
  have er:old.reverse.take old.length=old.reverse:=List.take_of_length_le (by simp)
  rw [em,er];rw [er] at hP
  have hA:qB4 root old now=lQ root now old.reverse ++ mD root old now:=rfl
  rw [hA];generalize lQ root now old.reverse=C at *
  refine zE ?_;refine zE ?_;refine zJ (fun K hK=>?_);simp (disch:=omega) only [push_cast,↓Int.cast_ofNat_Int,simprocAttr];refine hK _ ?_;clear hK K
  refine zA ?_;refine yC rfl ?_;refine zT ?_;refine zG ?_;refine zG ?_;refine zH ?_;refine zE ?_;refine zE ?_;refine zJ (fun K hK=>?_);simp (disch:=omega) only [push_cast,↓Int.cast_ofNat_Int,simprocAttr];refine hK _ ?_;clear hK K
  refine zA ?_;refine zD ?_;refine cP (fun i:Nat=>⟨[(0,.v (.int .i64 root)),(1,.lst false (aG old)),(2,.lst false (aG now)),(7,.own 9000),(9,.v (.int .i64 i))],[(9000,qE3 (C ++ mD root old (now.take i)))]⟩) (fun i=>i≤now.length) (fun i=>now.length - i) [0,1,2,7,9] [9000] 0 (by simp only [zZ,zR,zP,zQ,zN,zS,zM,zX,zU,Nat.reduceEqDiff,reduceIte];simp [mD]) (Nat.zero_le _) ?_
  intro i hi
  have hP2:(mD root old (now.take i)).length≤i:=by
   have h2:=List.length_filter_le (qKj old) (now.take i)
   unfold mD;rw [List.length_map];rw [List.length_take] at h2;omega
  have hCP:(C ++ mD root old (now.take i)).length≤2097152:=by rw [List.length_append];omega
  by_cases hlt2:i < now.length
  ·have hd:mD root old (now.take (i + 1))=mD root old (now.take i) ++ if qKj old now[i]=true then [(root,now[i].1,now[i].2)] else []:=by
    unfold mD;rw [List.take_succ_eq_append_getElem hlt2,List.filter_append,List.map_append]
    cases h:qKj old now[i] <;> simp [h]
   have hg:=yW hlt2 (d:=[])
   generalize now[i]=e at *
   obtain ⟨p,k,d⟩:=e
   have c24:=qA1 old p (by omega)
   obtain ⟨x,hx⟩:∃ x,aN old p=x:=⟨_,rfl⟩;rw [hx] at c24;simp only [qKj,hx] at hd;obtain ⟨km,dm⟩:=x;simp only [Prod.mk.injEq] at hd;refine zE ?_;refine zE ?_;refine zJ (fun K hK=>?_);simp (disch:=omega) only [push_cast,↓Int.cast_ofNat_Int,simprocAttr,yV];refine hK _ ?_;clear hK K
   refine zA ?_;refine yD rfl ?_;refine zC ?_;refine zE ?_
   cases hb:decide (km=k∧dm=d) with
  |true =>
    rw [hb] at hd;refine zD ?_;refine zE ?_;refine nQ 12 mixed (by kernel_rfl) (fun K hK K1 hK1=>?_);simp (disch:=omega) only [push_cast,↓Int.cast_ofNat_Int,simprocAttr,hb,yV,yU,hg]
    refine qBp qKk c24 (.cons (aL (yT _)) (.cons (.v _) .nil)) ?_;with_reducible refine aB ?_;simp (disch:=omega) only [push_cast,↓Int.cast_ofNat_Int,simprocAttr,hb,yV,yU,hg]
    refine hK1 _ ?_;(try clear hK1 K1);with_reducible refine aB ?_;simp (disch:=omega) only [push_cast,↓Int.cast_ofNat_Int,simprocAttr,hb]
    refine ⟨_,eqN _ _ _ _,?_⟩;with_reducible refine aB ?_;simp (disch:=omega) only [push_cast,↓Int.cast_ofNat_Int,simprocAttr,hb]
    refine hK _ ?_;clear hK K;refine yC rfl ?_;refine zC ?_;refine zB ?_;refine zA ?_;refine zJ (fun K hK=>?_);simp (disch:=omega) only [push_cast,↓Int.cast_ofNat_Int,simprocAttr];refine hK _ ?_;clear hK K
    refine zA ?_;exact ⟨i + 1,by simp only [zZ,zR,zP,zQ,zN,zS,zM,zX,zU,Nat.reduceEqDiff,reduceIte];rw [hd];simp,hlt2,by omega⟩
  |false =>
    rw [hb] at hd;refine zD ?_;refine zE ?_;refine nQ 12 mixed (by kernel_rfl) (fun K hK K1 hK1=>?_);simp (disch:=omega) only [push_cast,↓Int.cast_ofNat_Int,simprocAttr,hb,yV,yU,hg]
    refine qBp qKk c24 (.cons (aL (yT _)) (.cons (.v _) .nil)) ?_;with_reducible refine aB ?_;simp (disch:=omega) only [push_cast,↓Int.cast_ofNat_Int,simprocAttr,hb,yV,yU,hg]
    refine hK1 _ ?_;(try clear hK1 K1);with_reducible refine aB ?_;simp (disch:=omega) only [push_cast,↓Int.cast_ofNat_Int,simprocAttr,hb]
    refine ⟨_,eqN _ _ _ _,?_⟩;with_reducible refine aB ?_;simp (disch:=omega) only [push_cast,↓Int.cast_ofNat_Int,simprocAttr,hb]
    refine hK _ ?_;clear hK K;refine yD rfl ?_
    have e2:eP (C ++ mD root old (now.take i)) ++ [[FV.v (.int .i64 root),.v (.string p),.v (.int .i64 k),.v (.string d)]]=eP (C ++ (mD root old (now.take i) ++ [(root,p,k,d)])):=by rw [qC4,List.append_assoc]
    refine nQ 14 mixed (by kernel_rfl) (fun K hK K1 hK1=>?_);simp (disch:=omega) only [push_cast,↓Int.cast_ofNat_Int,simprocAttr,yV,yU,hg]
    have hw1:Wid 4 [[FV.v (.int .i64 root),.v (.string p),.v (.int .i64 k),.v (.string d)]]=True:=eq_true fun x hx=>by rw [List.mem_singleton.1 hx];rfl
    refine hK1 _ ?_;(try clear hK1 K1);with_reducible refine aB ?_;simp (disch:=omega) only [push_cast,↓Int.cast_ofNat_Int,simprocAttr,cW,gF,e2,hw1]
    (repeat refine ⟨by first|omega|decide|((repeat' apply And.intro) <;> first|omega|decide),?_⟩)
    refine hK _ ?_;clear hK K;refine zB ?_;refine zA ?_;refine zJ (fun K hK=>?_);simp (disch:=omega) only [push_cast,↓Int.cast_ofNat_Int,simprocAttr];refine hK _ ?_;clear hK K
    refine zA ?_;exact ⟨i + 1,by simp only [zZ,zR,zP,zQ,zN,zS,zM,zX,zU,Nat.reduceEqDiff,reduceIte];rw [hd];rfl,hlt2,by omega⟩
  ·have hne:i=now.length:=by omega
   subst hne;rw [List.take_length];refine zE ?_;refine zE ?_;refine zJ (fun K hK=>?_);simp (disch:=omega) only [push_cast,↓Int.cast_ofNat_Int,simprocAttr,yV];refine hK _ ?_;clear hK K
   refine zA ?_;refine yC rfl ?_;refine zT ?_;refine zG ?_;refine zG ?_;refine zH ?_;refine zE ?_;refine zJ (fun K hK=>?_);simp (disch:=omega) only [push_cast,↓Int.cast_ofNat_Int,simprocAttr];refine hK _ ?_;clear hK K
   refine zA ?_;refine zW ?_;simp only [yA,yM,yH,yE,aA,aC,yK,yJ,zS,zM,Nat.reduceEqDiff,reduceIte,reduceCtorEq];exact xX rfl (qQ4 _) ⟨rfl,rfl⟩
set_option maxHeartbeats 8000000 in
theorem zBj (l:List Tr.Act) (hl:l.length≤140737488355328):HFun Tryz.prog 25 [.lst false (eP l),.lst false (eP l)] (fun h st=>h=.v (.bool true)):=by
 refine eX (N:=26) Tryz.func25 rfl Tryz.ntmps25 Tryz.results25 (by simp) ?_
 refine zE ?_;refine zJ (fun K hK=>?_);simp (disch:=omega) only [push_cast,↓Int.cast_ofNat_Int,simprocAttr];refine hK _ ?_;clear hK K
 refine zE ?_;refine zE ?_;refine zJ (fun K hK=>?_);simp (disch:=omega) only [push_cast,↓Int.cast_ofNat_Int,simprocAttr,cW];refine hK _ ?_;clear hK K
 refine yC rfl ?_;refine zC ?_;refine zE ?_;refine zE ?_;refine zJ (fun K hK=>?_);simp (disch:=omega) only [push_cast,↓Int.cast_ofNat_Int,simprocAttr];refine hK _ ?_;clear hK K
 refine zA ?_;refine zD ?_;refine cP (fun i:Nat=>⟨[(0,.lst false (eP l)),(1,.lst false (eP l)),(5,.v (.int .i64 i))],[]⟩) (fun i=>i≤l.length) (fun i=>l.length - i) [0,1,5] [] 0 (by simp only [zZ,zR,zP,zQ,zN,zS,zM,zX,zU,Nat.reduceEqDiff,reduceIte];try rfl) (Nat.zero_le _) ?_
 intro i hi
 by_cases hlt:i < l.length
 ·have hg:=@xJ l i [] hlt
  generalize l[i]=x at *
  obtain ⟨r,p,k,d⟩:=x
  have hd:decide ((r,p,k,d)=(r,p,k,d))=true:=decide_eq_true rfl
  refine zE ?_;refine zE ?_;refine zJ (fun K hK=>?_);simp (disch:=omega) only [push_cast,↓Int.cast_ofNat_Int,simprocAttr,cW];refine hK _ ?_;clear hK K
  refine zA ?_;refine yD rfl ?_;refine zC ?_;refine zE ?_;refine zD ?_;refine zE ?_;refine kP 8 mixed (by kernel_rfl) (fun K hK K1 hK1=>?_);simp (disch:=omega) only [push_cast,↓Int.cast_ofNat_Int,simprocAttr,cW,gF,hg]
  refine hK1 _ ?_;(try clear hK1 K1);with_reducible refine aB ?_;simp (disch:=omega) only [push_cast,↓Int.cast_ofNat_Int,simprocAttr]
  refine ⟨_,zSp _ _ _ _ _ _ _ _,?_⟩;with_reducible refine aB ?_;simp (disch:=omega) only [push_cast,↓Int.cast_ofNat_Int,simprocAttr,hd]
  refine hK _ ?_;clear hK K;refine yC rfl ?_;refine zC ?_;refine zB ?_;refine zA ?_;refine zJ (fun K hK=>?_);simp (disch:=omega) only [push_cast,↓Int.cast_ofNat_Int,simprocAttr];refine hK _ ?_;clear hK K
  refine zA ?_;exact ⟨i + 1,by simp only [zZ,zR,zP,zQ,zN,zS,zM,zX,zU,Nat.reduceEqDiff,reduceIte];try rfl,hlt,by omega⟩
 ·have hne:i=l.length:=by omega
  subst hne;refine zE ?_;refine zE ?_;refine zJ (fun K hK=>?_);simp (disch:=omega) only [push_cast,↓Int.cast_ofNat_Int,simprocAttr,cW];refine hK _ ?_;clear hK K
  refine zA ?_;refine yC rfl ?_;refine zT ?_;refine zG ?_;refine zG ?_;refine zH ?_;refine zE ?_;refine zJ (fun K hK=>?_);simp (disch:=omega) only [push_cast,↓Int.cast_ofNat_Int,simprocAttr];refine hK _ ?_;clear hK K
  refine zA ?_;refine zW ?_;simp only [yA,yM,yH,yE,aA,aC,yK,yJ,zS,zM,Nat.reduceEqDiff,reduceIte,reduceCtorEq];exact aJ rfl
end Go.Proofs.YtbdomkfdkfdfgaaGreatDoor
end
section
namespace Go.Tr
open Go Go.Lib
theorem zJ4 (a b:List Ent):cZ (a ++ b)=cZ a + cZ b:=by simp [cZ]
theorem Tree.put_size {t:List Ent} (h:Tree t) {p:ByteArray} {n:Int × ByteArray} (hE:fP t p n=0):cZ (iL t p n) + (aN t p).2.size=cZ t + n.2.size:=by
 obtain ⟨A,B,hA,hB,ht,hv⟩:=qKy h.ri p n
 have hE':=(h.putI p n).1 hE
 rw [iL,if_pos hE,hv fun e=>(h.thr p).2 (hE'.2.2.1 e)]
 conv=>rhs;rw [ht]
 have one:∀ m:Int × ByteArray,cZ [(p,m)]=m.2.size:=fun m=>by simp [cZ]
 have e1:cZ (if aU t p=true then [(p,aN t p)] else [])=(aN t p).2.size:=by
  split
  ·exact one _
  ·rename_i hn
   have:(aN t p).1=0:=Decidable.byContradiction fun z=>hn ((h.thr p).2 z)
   rw [h.kind0.1 this];rfl
 have e2:cZ (if n.1=0 then [] else [(p,n)])=n.2.size:=by
  split
  ·rename_i hn;rw [qDp hE'.2.1 hn];rfl
  ·exact one _
 simp only [zJ4,e1,e2];omega
def pV (fA:Int):List Act→List Ent→Bool
|[],_=>true
|x :: r,t=>if 0 < fA∧cZ t < cZ (iL t x.2.1 x.2.2)∧fA < (cZ (iL t x.2.1 x.2.2):Int) then false else pV fA r (iL t x.2.1 x.2.2)
end Go.Tr
end
section
set_option maxRecDepth 20000
namespace Go.Proofs.YtbdomkfdkfdfgaaGreatDoor
open Go Go.Eng Go.RowKit Go.Tr
set_option maxHeartbeats 4000000 in
theorem zDe (t:List Ent) (hl:t.length≤1048576) (hs:∀ e ∈ t,e.2.2.size≤1048576):HFun Tryz.prog 49 [.lst false (aG t)] (fun h st=>h=.v (.int .i64 (cZ t))):=by
 refine eX (N:=21) Tryz.func49 rfl Tryz.ntmps49 Tryz.results49 (by simp) ?_
 refine zE ?_;refine zJ (fun K hK=>?_);simp (disch:=omega) only [push_cast,↓Int.cast_ofNat_Int,simprocAttr];refine hK _ ?_;clear hK K
 refine zE ?_;refine zJ (fun K hK=>?_);simp (disch:=omega) only [push_cast,↓Int.cast_ofNat_Int,simprocAttr];refine hK _ ?_;clear hK K
 refine zE ?_;refine zE ?_;refine zJ (fun K hK=>?_);simp (disch:=omega) only [push_cast,↓Int.cast_ofNat_Int,simprocAttr];refine hK _ ?_;clear hK K
 refine zA ?_;refine zD ?_;refine cP (fun i:Nat=>⟨[(0,.lst false (aG t)),(3,.v (.int .i64 (cZ (t.take i)))),(4,.v (.int .i64 i))],[]⟩) (fun i=>i≤t.length) (fun i=>t.length - i) [0,3,4] [] 0 rfl (Nat.zero_le _) ?_
 rintro i hi
 by_cases hlt:i < t.length
 ·have h1:=hs _ (List.getElem_mem hlt)
  have h2:=qLs (t.take i) (by rw [List.length_take];omega) (fun e he=>hs e (List.mem_of_mem_take he))
  rw [List.length_take,Nat.min_eq_left hi] at h2
  have h3:cZ (t.take (i + 1))=cZ (t.take i) + t[i].2.2.size:=by rw [List.take_succ_eq_append_getElem hlt,qLr]
  generalize cZ (t.take i)=a at *
  refine zE ?_;refine zE ?_;refine zJ (fun K hK=>?_);simp (disch:=omega) only [push_cast,↓Int.cast_ofNat_Int,simprocAttr,yV];refine hK _ ?_;clear hK K
  refine zA ?_;refine yD rfl ?_;refine zC ?_;refine zE ?_;refine zD ?_;refine zJ (fun K hK=>?_);simp (disch:=omega) only [push_cast,↓Int.cast_ofNat_Int,simprocAttr,yV,yU,yW hlt];refine hK _ ?_;clear hK K
  refine zB ?_;refine zA ?_;refine zJ (fun K hK=>?_);simp (disch:=omega) only [push_cast,↓Int.cast_ofNat_Int,simprocAttr];refine hK _ ?_;clear hK K
  refine zA ?_;exact ⟨i + 1,by simp only [zZ,zR,zP,zQ,zN,zS,zM,zX,zU,Nat.reduceEqDiff,reduceIte];rw [h3];rfl,hlt,by omega⟩
 ·have hne:i=t.length:=by omega
  subst hne;rw [List.take_length];refine zE ?_;refine zE ?_;refine zJ (fun K hK=>?_);simp (disch:=omega) only [push_cast,↓Int.cast_ofNat_Int,simprocAttr,yV];refine hK _ ?_;clear hK K
  refine zA ?_;refine yC rfl ?_;refine zT ?_;refine zG ?_;refine zG ?_;refine zH ?_;refine zE ?_;refine zJ (fun K hK=>?_);simp (disch:=omega) only [push_cast,↓Int.cast_ofNat_Int,simprocAttr];refine hK _ ?_;clear hK K
  refine zA ?_;refine zW ?_;simp only [yA,yM,yH,yE,aA,aC,yK,yJ,zS,zM,Nat.reduceEqDiff,reduceIte,reduceCtorEq];exact aJ rfl
end Go.Proofs.YtbdomkfdkfdfgaaGreatDoor
end
