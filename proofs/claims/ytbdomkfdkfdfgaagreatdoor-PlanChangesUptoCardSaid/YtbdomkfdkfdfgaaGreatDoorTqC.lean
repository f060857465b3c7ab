/-
  The document's Replace.
-/
import Derived.Test.YtbdomkfdkfdfgaaGreatDoorTqA
import Derived.Test.YtbdomkfdkfdfgaaGreatDoorTrQ
set_option linter.unusedSimpArgs false
set_option linter.unusedVariables false
section
set_option maxRecDepth 20000
namespace Go.Tr
open Go Go.Eng
def zGy (t:List Ent) (p:ByteArray) (u:List Ent):List Ent:=(t.filter fun e=>!eK e.1 p) ++ u
def lV (t:List Ent) (p:ByteArray) (u:List Ent):Int :=
 if pOk p 5=false then 10 else if (u.all fun e=>eK e.1 p)=false then 1 else cQ (sortS (zGy t p u))
def tL (t:List Ent) (p:ByteArray) (u:List Ent):List Ent:=if lV t p u=0 then sortS (zGy t p u) else []
theorem zAo {a b:List Ent} (h:a.length=b.length) (ha:cQ a≠0) (hb:cQ b≠0):cQ a=cQ b:=by
 unfold cQ at *
 rw [h] at *
 split
 ·rfl
 ·rename_i hh;rw [if_neg hh] at ha hb
  cases e1:okR a <;> cases e2:okR b <;> simp_all
theorem zFa {s l:List Ent} (hp:s.Perm l) (hn:rX s):cQ s=cQ (sortS l)∧(cQ s=0→s=sortS l):=by
 have hps:s.Perm (sortS l):=hp.trans (oC l).symm
 by_cases h0:cQ s=0
 ·have hr:=lY (sW h0).2
  have:sortS l=s:=zMc hr hp.symm
  rw [this];exact ⟨rfl,fun _=>rfl⟩
 ·by_cases h1:cQ (sortS l)=0
  ·have hr:=lY (sW h1).2
   have:s=sortS l:=qVw hn hr hps
   rw [← this];exact ⟨rfl,fun _=>rfl⟩
  ·exact ⟨zAo hps.length_eq h0 h1,fun h=>absurd h h0⟩
end Go.Tr
namespace Go.Proofs.YtbdomkfdkfdfgaaGreatDoor
open Go Go.Eng Go.RowKit Go.Tr
set_option maxHeartbeats 8000000 in
theorem zE9 (t:List Ent) (p:ByteArray) (u:List Ent) (hl:t.length≤1048576) (hlu:u.length≤1048576) (sz:p.size≤1048576) (szt:∀ e ∈ t,e.1.size≤1048576) (szu:∀ e ∈ u,e.1.size≤1048576):HFun Tryz.prog 80 [.lst false (aL t),.v (.string p),.lst false (aL u)] (fun h st=>h=.tup [.own 0,.v (.int .i64 (lV t p u))]∧st=[(0,fW (tL t p u))]):=by
 refine fJ (N:=57) Tryz.func80 rfl Tryz.ntmps80 Tryz.results80 (by simp) ?_
 have c50:HFun Tryz.prog 66 [.v (.string p),.v (.int .i64 5)] (fun h st=>h=.v (.int .i64 (okN (pOk p 5)))):=qVl p 5 sz (by omega)
 refine zE ?_;refine zJ (fun K hK=>?_);simp (disch:=omega) only [push_cast,↓Int.cast_ofNat_Int,simprocAttr];refine hK _ ?_;clear hK K
 cases ok:pOk p 5 with
|false =>
  have hE:lV t p u=10:=by simp [lV,ok]
  rw [ok,zH5] at c50;refine zE ?_;refine zE ?_;refine zJ (fun K hK=>?_);simp (disch:=omega) only [push_cast,↓Int.cast_ofNat_Int,simprocAttr]
  refine cP qYg c50 (.cons (.v _) (.cons (.v _) .nil)) ?_;with_reducible refine aC ?_;simp (disch:=omega) only [push_cast,↓Int.cast_ofNat_Int,simprocAttr]
  refine hK _ ?_;clear hK K;refine yD rfl ?_;refine zE ?_;refine zJ (fun K hK=>?_);simp (disch:=omega) only [push_cast,↓Int.cast_ofNat_Int,simprocAttr];refine hK _ ?_;clear hK K
  refine qR 6 9000 67 3 rfl (by simp only [lR,qS,qT,fE,eE,eW,dZ,iM,fC,gV,fB,fA,gC,fD,eZ,eD,fX,fZ,fY,iL,iZ,gU,Nat.reduceBEq,Nat.reduceEqDiff,reduceIte,cond_true,cond_false,List.map_cons,List.map_nil];exact rfl) ?_
  refine zW ?_;refine zK ?_;simp only [yA,yM,yH,yE,aA,aD,yK,yJ,zS,zM,Nat.reduceEqDiff,reduceIte,reduceCtorEq];exact qHr rfl (fG []) ⟨by rw [hE],by rw [tL,hE];rfl⟩
|true =>
 rw [ok,zH4] at c50;refine zE ?_;refine zE ?_;refine zJ (fun K hK=>?_);simp (disch:=omega) only [push_cast,↓Int.cast_ofNat_Int,simprocAttr]
 refine cP qYg c50 (.cons (.v _) (.cons (.v _) .nil)) ?_;with_reducible refine aC ?_;simp (disch:=omega) only [push_cast,↓Int.cast_ofNat_Int,simprocAttr]
 refine hK _ ?_;clear hK K;refine yC rfl ?_;refine zC ?_;refine zE ?_;refine zJ (fun K hK=>?_);simp (disch:=omega) only [push_cast,↓Int.cast_ofNat_Int,simprocAttr];refine hK _ ?_;clear hK K
 refine zE ?_;refine zE ?_;refine zJ (fun K hK=>?_);simp (disch:=omega) only [push_cast,↓Int.cast_ofNat_Int,simprocAttr,yV];refine hK _ ?_;clear hK K
 refine zA ?_;refine zD ?_;refine cH (fun x:Nat × List Ent=>⟨[(1,.v (.string p)),(2,.lst false (aL u)),(8,.own 136),(18,.lst false (aL t)),(19,.v (.int .i64 t.length)),(20,.v (.int .i64 x.1))],[(136,fW x.2)]⟩) (fun x=>x.1≤t.length∧x.2=(t.take x.1).filter fun e=>!eK e.1 p) (fun x=>t.length - x.1) [1,2,8,18,19,20] [136] (0,[]) (by simp only [zZ,zR,zP,zQ,zN,zS,zM,zX,zU,Nat.reduceEqDiff,reduceIte];rfl) ⟨Nat.zero_le _,rfl⟩ ?_
 rintro ⟨i,out⟩ ⟨hi,ho⟩;simp only at hi ho
 by_cases hlt:i < t.length
 ·have hsz:=szt _ (List.getElem_mem hlt)
  have hol:out.length≤i:=by
   rw [ho];refine Nat.le_trans (List.length_filter_le ..) ?_;rw [List.length_take];omega
  have cu:=qHi t[i].1 p hsz sz
  refine zE ?_;refine zJ (fun K hK=>?_);simp (disch:=omega) only [push_cast,↓Int.cast_ofNat_Int,simprocAttr];refine hK _ ?_;clear hK K
  refine zE ?_;refine yD rfl ?_;refine zC ?_;refine zE ?_;refine zD ?_;refine zE ?_;refine zJ (fun K hK=>?_);simp (disch:=omega) only [push_cast,↓Int.cast_ofNat_Int,simprocAttr,yV,yU,yW hlt];refine hK _ ?_;clear hK K
  refine zE ?_;refine zJ (fun K hK=>?_);simp (disch:=omega) only [push_cast,↓Int.cast_ofNat_Int,simprocAttr]
  refine cP zK3 cu (.cons (.v _) (.cons (.v _) .nil)) ?_;with_reducible refine aC ?_;simp (disch:=omega) only [push_cast,↓Int.cast_ofNat_Int,simprocAttr]
  refine hK _ ?_;clear hK K
  cases hu:eK t[i].1 p with
 |false =>
   have e2:aL out ++ [[FV.v (.string t[i].1),.v (.int .i64 t[i].2.1),.v (.string t[i].2.2)]]=aL (out ++ [t[i]]):=xF out _ _ _
   refine yD rfl ?_;refine zJ (fun K hK=>?_);simp (disch:=omega) only [push_cast,↓Int.cast_ofNat_Int,simprocAttr,yV,e2];(repeat refine ⟨by first|omega|decide|((repeat' apply And.intro) <;> first|omega|decide),?_⟩);refine hK _ ?_;clear hK K
   refine zB ?_;refine zA ?_;refine zJ (fun K hK=>?_);simp (disch:=omega) only [push_cast,↓Int.cast_ofNat_Int,simprocAttr];refine hK _ ?_;clear hK K
   refine zA ?_;refine ⟨(i + 1,out ++ [t[i]]),by simp only [zZ,zR,zP,zQ,zN,zS,zM,zX,zU,Nat.reduceEqDiff,reduceIte];rfl,⟨hlt,?_⟩,by dsimp only;omega⟩
   dsimp only;rw [List.take_succ_eq_append_getElem hlt,List.filter_append,← ho];simp [hu]
 |true =>
   refine yC rfl ?_;refine zC ?_;refine zB ?_;refine zA ?_;refine zJ (fun K hK=>?_);simp (disch:=omega) only [push_cast,↓Int.cast_ofNat_Int,simprocAttr];refine hK _ ?_;clear hK K
   refine zA ?_;refine ⟨(i + 1,out),by simp only [zZ,zR,zP,zQ,zN,zS,zM,zX,zU,Nat.reduceEqDiff,reduceIte];rfl,⟨hlt,?_⟩,by dsimp only;omega⟩
   dsimp only;rw [List.take_succ_eq_append_getElem hlt,List.filter_append,← ho];simp [hu]
 ·have hne:i=t.length:=by omega
  subst hne;rw [List.take_length] at ho
  have hol:out.length≤t.length:=by
   rw [ho];exact List.length_filter_le ..
  have hL:zGy t p u=out ++ u:=by rw [zGy,← ho]
  have hmem:∀ e ∈ out,e.1.size≤1048576:=fun e he=>by
   rw [ho] at he;exact szt e (List.mem_filter.1 he).1
  clear ho;refine zE ?_;refine zJ (fun K hK=>?_);simp (disch:=omega) only [push_cast,↓Int.cast_ofNat_Int,simprocAttr];refine hK _ ?_;clear hK K
  refine zE ?_;refine yC rfl ?_;refine zT ?_;refine zG ?_;refine zG ?_;refine zH ?_;refine zE ?_;refine zE ?_;refine zJ (fun K hK=>?_);simp (disch:=omega) only [push_cast,↓Int.cast_ofNat_Int,simprocAttr,yV];refine hK _ ?_;clear hK K
  refine zA ?_;refine zD ?_;refine cH (fun x:Nat=>⟨[(1,.v (.string p)),(2,.lst false (aL u)),(8,.own 136),(34,.lst false (aL u)),(35,.v (.int .i64 u.length)),(36,.v (.int .i64 x))],[(136,fW out)]⟩) (fun x=>x≤u.length∧∀ j (h:j < u.length),j < x→eK u[j].1 p=true) (fun x=>u.length - x) [1,2,8,34,35,36] [136] 0 (by simp only [zZ,zR,zP,zQ,zN,zS,zM,zX,zU,Nat.reduceEqDiff,reduceIte];rfl) ⟨Nat.zero_le _,fun j h hj=>by omega⟩ ?_
  rintro k ⟨hk,hb⟩
  by_cases hkl:k < u.length
  ·have hsz:=szu _ (List.getElem_mem hkl)
   have cu:=qHi u[k].1 p hsz sz
   refine zE ?_;refine zJ (fun K hK=>?_);simp (disch:=omega) only [push_cast,↓Int.cast_ofNat_Int,simprocAttr];refine hK _ ?_;clear hK K
   refine zE ?_;refine yD rfl ?_;refine zC ?_;refine zE ?_;refine zD ?_;refine zE ?_;refine zJ (fun K hK=>?_);simp (disch:=omega) only [push_cast,↓Int.cast_ofNat_Int,simprocAttr,yV,yU,yW hkl];refine hK _ ?_;clear hK K
   refine zE ?_;refine zJ (fun K hK=>?_);simp (disch:=omega) only [push_cast,↓Int.cast_ofNat_Int,simprocAttr]
   refine cP zK3 cu (.cons (.v _) (.cons (.v _) .nil)) ?_;with_reducible refine aC ?_;simp (disch:=omega) only [push_cast,↓Int.cast_ofNat_Int,simprocAttr]
   refine hK _ ?_;clear hK K
   cases hu:eK u[k].1 p with
  |false =>
    have hE:lV t p u=1:=by
     have:(u.all fun e=>eK e.1 p)=false:=List.all_eq_false.2 ⟨u[k],List.getElem_mem hkl,by rw [hu];decide⟩
     simp [lV,ok,this]
    refine yD rfl ?_;refine zE ?_;refine zJ (fun K hK=>?_);simp (disch:=omega) only [push_cast,↓Int.cast_ofNat_Int,simprocAttr];refine hK _ ?_;clear hK K
    refine qR 6 9000 67 3 rfl (by simp only [lR,qS,qT,fE,eE,eW,dZ,iM,fC,gV,fB,fA,gC,fD,eZ,eD,fX,fZ,fY,iL,iZ,gU,Nat.reduceBEq,Nat.reduceEqDiff,reduceIte,cond_true,cond_false,List.map_cons,List.map_nil];exact rfl) ?_
    refine zW ?_;refine zL ?_;refine zK ?_;refine zK ?_;refine zL ?_;refine zK ?_;simp only [yA,yM,yH,yE,aA,aD,yK,yJ,zS,zM,Nat.reduceEqDiff,reduceIte,reduceCtorEq];exact qHr rfl (fG []) ⟨by rw [hE],by rw [tL,hE];rfl⟩
  |true =>
    refine yC rfl ?_;refine zC ?_;refine zB ?_;refine zA ?_;refine zJ (fun K hK=>?_);simp (disch:=omega) only [push_cast,↓Int.cast_ofNat_Int,simprocAttr];refine hK _ ?_;clear hK K
    refine zA ?_;refine ⟨k + 1,by simp only [zZ,zR,zP,zQ,zN,zS,zM,zX,zU,Nat.reduceEqDiff,reduceIte];rfl,⟨hkl,fun j hj h=>?_⟩,by omega⟩
    by_cases e:j=k
    ·subst e;exact hu
    ·exact hb j hj (by omega)
  ·have hkk:k=u.length:=by omega
   subst hkk
   have hall:(u.all fun e=>eK e.1 p)=true:=List.all_eq_true.2 fun e he=>by
    obtain ⟨j,hj,rfl⟩:=List.getElem_of_mem he;exact hb j hj hj
   have hE:lV t p u=cQ (sortS (out ++ u)):=by
    rw [lV,if_neg (by rw [ok];decide),if_neg (by rw [hall];decide),hL]
   have e3:aL out ++ aL u=aL (out ++ u):=(wB out u)
   refine zE ?_;refine zJ (fun K hK=>?_);simp (disch:=omega) only [push_cast,↓Int.cast_ofNat_Int,simprocAttr];refine hK _ ?_;clear hK K
   refine zE ?_;refine yC rfl ?_;refine zT ?_;refine zG ?_;refine zG ?_;refine zH ?_;refine zE ?_;refine zJ (fun K hK=>?_);simp (disch:=omega) only [push_cast,↓Int.cast_ofNat_Int,simprocAttr,yV,yU,e3];(repeat refine ⟨by first|omega|decide|((repeat' apply And.intro) <;> first|omega|decide),?_⟩);refine hK _ ?_;clear hK K
   refine yB [8] [136] (by simp only [zZ,zR,zP,zQ,zN,zS,zM,zX,zU,Nat.reduceEqDiff,reduceIte];exact rfl) ?_
   refine zE ?_;refine zJ (fun K hK=>?_);simp (disch:=omega) only [push_cast,↓Int.cast_ofNat_Int,simprocAttr]
   refine zMd (t:=out ++ u) (by rw [List.length_append];omega) rfl ?_
   intro s hp hn;with_reducible refine aC ?_;simp (disch:=omega) only [push_cast,↓Int.cast_ofNat_Int,simprocAttr]
   refine hK _ ?_;clear hK K;obtain ⟨q1,q2⟩:=zFa hp hn
   have hsl:s.length≤2097152:=by rw [hp.length_eq,List.length_append];omega
   have c15:=zNc s (by omega) (fun e he=>by
    rcases List.mem_append.1 (hp.mem_iff.1 he) with h|h
    ·exact hmem e h
    ·exact szu e h)
   rw [← q1] at hE;refine zE ?_;refine zE ?_;refine zJ (fun K hK=>?_);simp (disch:=omega) only [push_cast,↓Int.cast_ofNat_Int,simprocAttr]
   refine cP zT4 c15 (.cons (pX (yT _) rfl) .nil) ?_;with_reducible refine aC ?_;simp (disch:=omega) only [push_cast,↓Int.cast_ofNat_Int,simprocAttr]
   refine hK _ ?_;clear hK K
   by_cases h0:cQ s=0
   ·have hT:tL t p u=s:=by rw [tL,if_pos (hE.trans h0),hL,q2 h0]
    rw [hE,hT,h0];refine zE ?_;refine zJ (fun K hK=>?_);simp (disch:=omega) only [push_cast,↓Int.cast_ofNat_Int,simprocAttr];refine hK _ ?_;clear hK K
    refine yC rfl ?_;refine zC ?_;refine zE ?_;refine zJ (fun K hK=>?_);simp (disch:=omega) only [push_cast,↓Int.cast_ofNat_Int,simprocAttr];refine hK _ ?_;clear hK K
    refine zA ?_;refine zW ?_;simp only [yA,yM,yH,yE,aA,aD,yK,yJ,zS,zM,Nat.reduceEqDiff,reduceIte,reduceCtorEq];exact qHr rfl (fG _) ⟨rfl,rfl⟩
   ·have hT:tL t p u=[]:=by rw [tL,if_neg (fun h=>h0 (hE.symm.trans h))]
    have hz:decide (cQ s=0)=false:=decide_eq_false h0
    rw [hE,hT];generalize cQ s=e at hz;refine zE ?_;refine zJ (fun K hK=>?_);simp (disch:=omega) only [push_cast,↓Int.cast_ofNat_Int,simprocAttr,hz];refine hK _ ?_;clear hK K
    refine yD rfl ?_;refine zE ?_;refine zJ (fun K hK=>?_);simp (disch:=omega) only [push_cast,↓Int.cast_ofNat_Int,simprocAttr];refine hK _ ?_;clear hK K
    refine qR 6 9000 67 3 rfl (by simp only [lR,qS,qT,fE,eE,eW,dZ,iM,fC,gV,fB,fA,gC,fD,eZ,eD,fX,fZ,fY,iL,iZ,gU,Nat.reduceBEq,Nat.reduceEqDiff,reduceIte,cond_true,cond_false,List.map_cons,List.map_nil];exact rfl) ?_
    refine zW ?_;refine zK ?_;simp only [yA,yM,yH,yE,aA,aD,yK,yJ,zS,zM,Nat.reduceEqDiff,reduceIte,reduceCtorEq];exact qHr rfl (fG []) ⟨rfl,rfl⟩
end Go.Proofs.YtbdomkfdkfdfgaaGreatDoor
end
section
set_option maxRecDepth 20000
namespace Go.Proofs.YtbdomkfdkfdfgaaGreatDoor
open Go Go.Eng Go.RowKit Go.Tr
end Go.Proofs.YtbdomkfdkfdfgaaGreatDoor
end
