/-
  Plain: sorted rows.
-/
import Derived.Test.YtbdomkfdkfdfgaaGreatDoorTpD
import Derived.Test.YtbdomkfdkfdfgaaGreatDoorOne
import Derived.Test.YtbdomkfdkfdfgaaGreatDoorTsA
set_option linter.unusedSimpArgs false
set_option linter.unusedVariables false
section
set_option maxRecDepth 20000
namespace Go.Tr
open Go Go.Eng
def qE0 (t:List Ent) (p:ByteArray) (n:Int × ByteArray):List Ent:=(t.filter fun e=>!decide (e.1=p)) ++ if n.1=0 then [] else [(p,n)]
def qAy (t:List Ent) (p:ByteArray) (n:Int × ByteArray):List Ent:=if fP t p n=0 then pS (qE0 t p n) else []
end Go.Tr
namespace Go.Proofs.YtbdomkfdkfdfgaaGreatDoor
open Go Go.Eng Go.RowKit Go.Tr
set_option maxHeartbeats 8000000 in
theorem zJ8 (t:List Ent) (p:ByteArray) (n:Int × ByteArray) (hth:aU t p=!decide ((aN t p).1=0)) (hl:t.length≤1048576) (sz:p.size≤1048576) (szt:∀ e ∈ t,e.1.size≤1048576):HFun Tryz.prog 46 [.lst false (aG t),.v (.string p),nF n] (fun h st=>h=.tup [.own 0,.v (.int .i64 (fP t p n))]∧st=[(0,dT (qAy t p n))]):=by
 obtain ⟨k,d⟩:=n;refine eX (N:=101) Tryz.func46 rfl Tryz.ntmps46 Tryz.results46 (by simp) ?_
 have c34:HFun Tryz.prog 37 [.v (.string p),.v (.int .i64 5)] (fun h st=>h=.v (.int .i64 (okN (pOk p 5)))):=qSb p 5 sz (by omega)
 have c18:=qW7 (k,d)
 have c26:=qA1 t p (by omega)
 have c52:=qSc p sz
 have c26b:=qA1 t (par p) (by omega)
 have c27:=zS8 t p (by omega) szt sz
 refine zE ?_;refine zJ (fun K hK=>?_);simp (disch:=omega) only [push_cast,↓Int.cast_ofNat_Int,simprocAttr];refine hK _ ?_;clear hK K
 cases ok:pOk p 5 with
|false =>
  have hE:fP t p (k,d)=10:=by simp [fP,ok]
  rw [ok,qXv] at c34;refine zE ?_;refine zE ?_;refine zJ (fun K hK=>?_);simp (disch:=omega) only [push_cast,↓Int.cast_ofNat_Int,simprocAttr]
  refine bE zAk c34 (.cons (.v _) (.cons (.v _) .nil)) ?_;with_reducible refine aB ?_;simp (disch:=omega) only [push_cast,↓Int.cast_ofNat_Int,simprocAttr]
  refine hK _ ?_;clear hK K;refine yD rfl ?_;refine zE ?_;refine zJ (fun K hK=>?_);simp (disch:=omega) only [push_cast,↓Int.cast_ofNat_Int,simprocAttr];refine hK _ ?_;clear hK K
  refine eW 6 9000 67 3 rfl (by simp only [dX,fM,fN,bQ,aY,aZ,aT,cY,bD,cE,bC,bB,cM,bP,bN,aX,bV,bW,cJ,cX,dC,cD,Nat.reduceBEq,Nat.reduceEqDiff,reduceIte,cond_true,cond_false,List.map_cons,List.map_nil];exact rfl) ?_
  refine zW ?_;refine zK ?_;simp only [yA,yM,yH,yE,aA,aC,yK,yJ,zS,zM,Nat.reduceEqDiff,reduceIte,reduceCtorEq];exact eU rfl (aP []) ⟨by rw [hE],by rw [qAy,hE];rfl⟩
|true =>
 rw [ok,qXu] at c34;refine zE ?_;refine zE ?_;refine zJ (fun K hK=>?_);simp (disch:=omega) only [push_cast,↓Int.cast_ofNat_Int,simprocAttr]
 refine bE zAk c34 (.cons (.v _) (.cons (.v _) .nil)) ?_;with_reducible refine aB ?_;simp (disch:=omega) only [push_cast,↓Int.cast_ofNat_Int,simprocAttr]
 refine hK _ ?_;clear hK K;refine yC rfl ?_;refine zC ?_;refine zE ?_;refine zE ?_
 cases wh:fY (k,d) with
|false =>
  have hE:fP t p (k,d)=1:=by simp [fP,ok,wh]
  rw [wh] at c18;refine zJ (fun K hK=>?_);simp (disch:=omega) only [push_cast,↓Int.cast_ofNat_Int,simprocAttr]
  refine bE zCt c18 (.cons (dE (n:=(k,d))) .nil) ?_;with_reducible refine aB ?_;simp (disch:=omega) only [push_cast,↓Int.cast_ofNat_Int,simprocAttr]
  refine hK _ ?_;clear hK K;refine yD rfl ?_;refine zE ?_;refine zJ (fun K hK=>?_);simp (disch:=omega) only [push_cast,↓Int.cast_ofNat_Int,simprocAttr];refine hK _ ?_;clear hK K
  refine eW 6 9000 67 3 rfl (by simp only [dX,fM,fN,bQ,aY,aZ,aT,cY,bD,cE,bC,bB,cM,bP,bN,aX,bV,bW,cJ,cX,dC,cD,Nat.reduceBEq,Nat.reduceEqDiff,reduceIte,cond_true,cond_false,List.map_cons,List.map_nil];exact rfl) ?_
  refine zW ?_;refine zK ?_;simp only [yA,yM,yH,yE,aA,aC,yK,yJ,zS,zM,Nat.reduceEqDiff,reduceIte,reduceCtorEq];exact eU rfl (aP []) ⟨by rw [hE],by rw [qAy,hE];rfl⟩
|true =>
 rw [wh] at c18;refine zJ (fun K hK=>?_);simp (disch:=omega) only [push_cast,↓Int.cast_ofNat_Int,simprocAttr]
 refine bE zCt c18 (.cons (dE (n:=(k,d))) .nil) ?_;with_reducible refine aB ?_;simp (disch:=omega) only [push_cast,↓Int.cast_ofNat_Int,simprocAttr]
 refine hK _ ?_;clear hK K;refine yC rfl ?_;refine zC ?_;refine zE ?_;generalize aN t p=m0 at c26 hth;obtain ⟨k0,d0⟩:=m0;dsimp only at hth;refine zJ (fun K hK=>?_);simp (disch:=omega) only [push_cast,↓Int.cast_ofNat_Int,simprocAttr]
 refine hat 160 qKk c26 (.cons (aL (yT _)) (.cons (.v _) .nil)) ?_;rintro _ _ ⟨rfl,rfl⟩;with_reducible refine aB ?_;simp (disch:=omega) only [push_cast,↓Int.cast_ofNat_Int,simprocAttr,hth.symm]
 refine hK _ ?_;clear hK K;refine zE ?_;refine zJ (fun K hK=>?_);simp (disch:=omega) only [push_cast,↓Int.cast_ofNat_Int,simprocAttr]
 refine bE zJh c52 (.cons (.v _) .nil) ?_;with_reducible refine aB ?_;simp (disch:=omega) only [push_cast,↓Int.cast_ofNat_Int,simprocAttr]
 refine hK _ ?_;clear hK K;refine zE ?_;refine zE ?_
 cases hgood:(if k=0 then aU t p else qK4 t p) with
|false =>
  have hE:fP t p (k,d)=11:=by simp only [fP,ok,wh,hgood];simp
  by_cases hk:k=0
  ·rw [if_pos hk] at hgood
   have hk0:decide (k=0)=true:=decide_eq_true hk
   rw [hgood];refine zJ (fun K hK=>?_);simp (disch:=omega) only [push_cast,↓Int.cast_ofNat_Int,simprocAttr,hk0];refine hK _ ?_;clear hK K
   refine yD rfl ?_;refine zE ?_;refine zJ (fun K hK=>?_);simp (disch:=omega) only [push_cast,↓Int.cast_ofNat_Int,simprocAttr];refine hK _ ?_;clear hK K
   refine eW 6 9000 67 3 rfl (by simp only [dX,fM,fN,bQ,aY,aZ,aT,cY,bD,cE,bC,bB,cM,bP,bN,aX,bV,bW,cJ,cX,dC,cD,Nat.reduceBEq,Nat.reduceEqDiff,reduceIte,cond_true,cond_false,List.map_cons,List.map_nil];exact rfl) ?_
   refine zW ?_;refine zK ?_;simp only [yA,yM,yH,yE,aA,aC,yK,yJ,zS,zM,Nat.reduceEqDiff,reduceIte,reduceCtorEq];exact eU rfl (aP []) ⟨by rw [hE],by rw [qAy,hE];rfl⟩
  ·rw [if_neg hk] at hgood
   have hk0:decide (k=0)=false:=decide_eq_false hk
   simp only [qK4,Bool.or_eq_false_iff] at hgood;obtain ⟨he,hk1⟩:=hgood;generalize aN t (par p)=m at c26b hk1;obtain ⟨km,dm⟩:=m;dsimp only at hk1;refine zJ (fun K hK=>?_);simp (disch:=omega) only [push_cast,↓Int.cast_ofNat_Int,simprocAttr,hk0,he]
   refine hat 344 qKk c26b (.cons (aL (yT _)) (.cons (.v _) .nil)) ?_;rintro _ _ ⟨rfl,rfl⟩;with_reducible refine aB ?_;simp (disch:=omega) only [push_cast,↓Int.cast_ofNat_Int,simprocAttr,he,hk1]
   refine hK _ ?_;clear hK K;refine yD rfl ?_;refine zE ?_;refine zJ (fun K hK=>?_);simp (disch:=omega) only [push_cast,↓Int.cast_ofNat_Int,simprocAttr];refine hK _ ?_;clear hK K
   refine eW 6 9000 67 3 rfl (by simp only [dX,fM,fN,bQ,aY,aZ,aT,cY,bD,cE,bC,bB,cM,bP,bN,aX,bV,bW,cJ,cX,dC,cD,Nat.reduceBEq,Nat.reduceEqDiff,reduceIte,cond_true,cond_false,List.map_cons,List.map_nil];exact rfl) ?_
   refine zW ?_;refine zK ?_;simp only [yA,yM,yH,yE,aA,aC,yK,yJ,zS,zM,Nat.reduceEqDiff,reduceIte,reduceCtorEq];exact eU rfl (aP []) ⟨by rw [hE],by rw [qAy,hE];rfl⟩
|true =>
 refine uU (fun _:Unit=>⟨[(0,.lst false (aG t)),(1,.v (.string p)),(5,.ptr 40 2 0 0),(8,.v (.bool (aU t p))),(47,.v (.bool false))],[(40,.bx true 47 [.v (.int .i64 k),.v (.string d)])]⟩) (fun _=>True) [0,1,5,8,47] [40] ?_ ?_
 ·by_cases hk:k=0
  ·rw [if_pos hk] at hgood
   have hk0:decide (k=0)=true:=decide_eq_true hk
   rw [hgood];refine zJ (fun K hK=>?_);simp (disch:=omega) only [push_cast,↓Int.cast_ofNat_Int,simprocAttr,hk0];refine hK _ ?_;clear hK K
   exact ⟨(),by simp only [zZ,zR,zP,zQ,zN,zS,zM,zX,zU,Nat.reduceEqDiff,reduceIte],trivial⟩
  ·rw [if_neg hk] at hgood
   have hk0:decide (k=0)=false:=decide_eq_false hk
   cases he:decide (par p={ data:=#[] }) with
  |true =>
    refine zJ (fun K hK=>?_);simp (disch:=omega) only [push_cast,↓Int.cast_ofNat_Int,simprocAttr,hk0,he];refine hK _ ?_;clear hK K
    exact ⟨(),by simp only [zZ,zR,zP,zQ,zN,zS,zM,zX,zU,Nat.reduceEqDiff,reduceIte];try rfl,trivial⟩
  |false =>
    simp only [qK4,he,Bool.false_or] at hgood;generalize aN t (par p)=m at c26b hgood;obtain ⟨km,dm⟩:=m;dsimp only at hgood;refine zJ (fun K hK=>?_);simp (disch:=omega) only [push_cast,↓Int.cast_ofNat_Int,simprocAttr,hk0,he]
    refine hat 344 qKk c26b (.cons (aL (yT _)) (.cons (.v _) .nil)) ?_;rintro _ _ ⟨rfl,rfl⟩;with_reducible refine aB ?_;simp (disch:=omega) only [push_cast,↓Int.cast_ofNat_Int,simprocAttr,he,hgood]
    refine hK _ ?_;clear hK K;exact ⟨(),by simp only [zZ,zR,zP,zQ,zN,zS,zM,zX,zU,Nat.reduceEqDiff,reduceIte];try rfl,trivial⟩
 intro S' _ hE _;refine zA ?_;refine yB [0,1,5,8,47] [40] hE ?_;clear hE;refine yC rfl ?_;refine zC ?_;refine zE ?_;refine zE ?_
 by_cases h12:k≠1∧1 < (t.filter fun e=>dY e.1 p).length
 ·have hE:fP t p (k,d)=12:=(qKs (n:=(k,d)) ok wh hgood).trans (if_pos h12)
  obtain ⟨hk1,hfl⟩:=h12
  have hkd:decide (k=1)=false:=decide_eq_false hk1
  generalize t.filter (fun e=>dY e.1 p)=F at c27 hfl
  refine zJ (fun K hK=>?_);simp (disch:=omega) only [push_cast,↓Int.cast_ofNat_Int,simprocAttr,hkd]
  refine hat 432 zV1 c27 (.cons (aL (yT _)) (.cons (.v _) .nil)) ?_;rintro _ _ ⟨rfl,rfl⟩;with_reducible refine aB ?_;simp (disch:=omega) only [push_cast,↓Int.cast_ofNat_Int,simprocAttr,hkd,yV]
  refine hK _ ?_;clear hK K;refine yD rfl ?_;refine zE ?_;refine zJ (fun K hK=>?_);simp (disch:=omega) only [push_cast,↓Int.cast_ofNat_Int,simprocAttr];refine hK _ ?_;clear hK K
  refine eW 6 9000 67 3 rfl (by simp only [dX,fM,fN,bQ,aY,aZ,aT,cY,bD,cE,bC,bB,cM,bP,bN,aX,bV,bW,cJ,cX,dC,cD,Nat.reduceBEq,Nat.reduceEqDiff,reduceIte,cond_true,cond_false,List.map_cons,List.map_nil];exact rfl) ?_
  refine zW ?_;refine zK ?_;simp only [yA,yM,yH,yE,aA,aC,yK,yJ,zS,zM,Nat.reduceEqDiff,reduceIte,reduceCtorEq];exact eU rfl (aP []) ⟨by rw [hE],by rw [qAy,hE];rfl⟩
 refine uU (fun _:Unit=>⟨[(0,.lst false (aG t)),(1,.v (.string p)),(5,.ptr 40 2 0 0),(8,.v (.bool (aU t p))),(57,.v (.bool false))],[(40,.bx true 47 [.v (.int .i64 k),.v (.string d)])]⟩) (fun _=>True) [0,1,5,8,57] [40] ?_ ?_
 ·by_cases hk1:k=1
  ·have hkd:decide (k=1)=true:=decide_eq_true hk1
   refine zJ (fun K hK=>?_);simp (disch:=omega) only [push_cast,↓Int.cast_ofNat_Int,simprocAttr,hkd];refine hK _ ?_;clear hK K
   exact ⟨(),by simp only [zZ,zR,zP,zQ,zN,zS,zM,zX,zU,Nat.reduceEqDiff,reduceIte];try rfl,trivial⟩
  ·have hkd:decide (k=1)=false:=decide_eq_false hk1
   have hfl:¬ 1 < (t.filter fun e=>dY e.1 p).length:=fun h=>h12 ⟨hk1,h⟩
   generalize t.filter (fun e=>dY e.1 p)=F at c27 hfl
   refine zJ (fun K hK=>?_);simp (disch:=omega) only [push_cast,↓Int.cast_ofNat_Int,simprocAttr,hkd]
   refine hat 432 zV1 c27 (.cons (aL (yT _)) (.cons (.v _) .nil)) ?_;rintro _ _ ⟨rfl,rfl⟩;with_reducible refine aB ?_;simp (disch:=omega) only [push_cast,↓Int.cast_ofNat_Int,simprocAttr,hkd,yV]
   refine hK _ ?_;clear hK K;exact ⟨(),by simp only [zZ,zR,zP,zQ,zN,zS,zM,zX,zU,Nat.reduceEqDiff,reduceIte];try rfl,trivial⟩
 intro S' _ hE _;refine zA ?_;refine yB [0,1,5,8,57] [40] hE ?_;clear hE;refine yC rfl ?_;refine zC ?_;refine zE ?_;refine zE ?_
 have hgo:=(qKs (n:=(k,d)) ok wh hgood).trans (if_neg h12)
 by_cases h4:k≠0∧aU t p=false∧200≤t.length
 ·have hE:fP t p (k,d)=4:=hgo.trans (if_pos h4)
  obtain ⟨hk,th,h200⟩:=h4
  have hk0:decide (k=0)=false:=decide_eq_false hk
  rw [th];refine zJ (fun K hK=>?_);simp (disch:=omega) only [push_cast,↓Int.cast_ofNat_Int,simprocAttr,hk0,yV];refine hK _ ?_;clear hK K
  refine yD rfl ?_;refine zE ?_;refine zJ (fun K hK=>?_);simp (disch:=omega) only [push_cast,↓Int.cast_ofNat_Int,simprocAttr];refine hK _ ?_;clear hK K
  refine eW 6 9000 67 3 rfl (by simp only [dX,fM,fN,bQ,aY,aZ,aT,cY,bD,cE,bC,bB,cM,bP,bN,aX,bV,bW,cJ,cX,dC,cD,Nat.reduceBEq,Nat.reduceEqDiff,reduceIte,cond_true,cond_false,List.map_cons,List.map_nil];exact rfl) ?_
  refine zW ?_;refine zK ?_;simp only [yA,yM,yH,yE,aA,aC,yK,yJ,zS,zM,Nat.reduceEqDiff,reduceIte,reduceCtorEq];exact eU rfl (aP []) ⟨by rw [hE],by rw [qAy,hE];rfl⟩
 have hE:fP t p (k,d)=0:=hgo.trans (if_neg h4)
 have hT:qAy t p (k,d)=pS (qE0 t p (k,d)):=by rw [qAy,if_pos hE]
 refine uU (fun _:Unit=>⟨[(0,.lst false (aG t)),(1,.v (.string p)),(5,.ptr 40 2 0 0),(69,.v (.bool false))],[(40,.bx true 47 [.v (.int .i64 k),.v (.string d)])]⟩) (fun _=>True) [0,1,5,69] [40] ?_ ?_
 ·by_cases hk:k=0
  ·have hk0:decide (k=0)=true:=decide_eq_true hk
   refine zJ (fun K hK=>?_);simp (disch:=omega) only [push_cast,↓Int.cast_ofNat_Int,simprocAttr,hk0];refine hK _ ?_;clear hK K
   exact ⟨(),by simp only [zZ,zR,zP,zQ,zN,zS,zM,zX,zU,Nat.reduceEqDiff,reduceIte];try rfl,trivial⟩
  ·have hk0:decide (k=0)=false:=decide_eq_false hk
   cases th:aU t p with
  |true =>
    refine zJ (fun K hK=>?_);simp (disch:=omega) only [push_cast,↓Int.cast_ofNat_Int,simprocAttr,hk0];refine hK _ ?_;clear hK K
    exact ⟨(),by simp only [zZ,zR,zP,zQ,zN,zS,zM,zX,zU,Nat.reduceEqDiff,reduceIte];try rfl,trivial⟩
  |false =>
    have h200:¬ 200≤t.length:=fun h=>h4 ⟨hk,th,h⟩
    refine zJ (fun K hK=>?_);simp (disch:=omega) only [push_cast,↓Int.cast_ofNat_Int,simprocAttr,hk0,yV];refine hK _ ?_;clear hK K
    exact ⟨(),by simp only [zZ,zR,zP,zQ,zN,zS,zM,zX,zU,Nat.reduceEqDiff,reduceIte];try rfl,trivial⟩
 intro S' _ hE' _;refine zA ?_;refine yB [0,1,5,69] [40] hE' ?_;clear hE';refine yC rfl ?_;refine zC ?_;refine zE ?_;refine zJ (fun K hK=>?_);simp (disch:=omega) only [push_cast,↓Int.cast_ofNat_Int,simprocAttr];refine hK _ ?_;clear hK K
 refine zE ?_;refine zE ?_;refine zJ (fun K hK=>?_);simp (disch:=omega) only [push_cast,↓Int.cast_ofNat_Int,simprocAttr];refine hK _ ?_;clear hK K
 refine zA ?_;refine zD ?_;refine eW 10 9000 67 3 rfl (by simp only [dX,fM,fN,bQ,aY,aZ,aT,cY,bD,cE,bC,bB,cM,bP,bN,aX,bV,bW,cJ,cX,dC,cD,Nat.reduceBEq,Nat.reduceEqDiff,reduceIte,cond_true,cond_false,List.map_cons,List.map_nil];exact rfl) ?_
 refine cP (fun x:Nat × List Ent=>⟨[(0,.lst false (aG t)),(1,.v (.string p)),(5,.ptr 40 2 0 0),(10,.own 9000),(11,.v (.int .i64 x.1))],[(9000,dT x.2),(40,.bx true 47 [.v (.int .i64 k),.v (.string d)])]⟩) (fun x=>x.1≤t.length∧x.2=(t.take x.1).filter fun e=>!decide (e.1=p)) (fun x=>t.length - x.1) [0,1,5,10,11] [9000,40] (0,[]) (by simp only [zZ,zR,zP,zQ,zN,zS,zM,zX,zU,Nat.reduceEqDiff,reduceIte];rfl) ⟨Nat.zero_le _,rfl⟩ ?_
 rintro ⟨i,out⟩ ⟨hi,ho⟩;simp only at hi ho
 by_cases hlt:i < t.length
 ·have hol:out.length≤i:=by
   rw [ho];refine Nat.le_trans (List.length_filter_le ..) ?_;rw [List.length_take];omega
  refine zE ?_;refine zE ?_;refine zJ (fun K hK=>?_);simp (disch:=omega) only [push_cast,↓Int.cast_ofNat_Int,simprocAttr,yV];refine hK _ ?_;clear hK K
  refine zA ?_;refine yD rfl ?_;refine zC ?_;refine zE ?_
  cases hu:decide (t[i].1=p) with
 |false =>
   refine zD ?_;refine zE ?_;refine zJ (fun K hK=>?_);simp (disch:=omega) only [push_cast,↓Int.cast_ofNat_Int,simprocAttr,yV,yU,yW hlt,hu];refine hK _ ?_;clear hK K
   have e2:aG out ++ [[FV.v (.string t[i].1),.v (.int .i64 t[i].2.1),.v (.string t[i].2.2)]]=aG (out ++ [t[i]]):=mR out _ _ _
   refine yD rfl ?_;refine zJ (fun K hK=>?_);simp (disch:=omega) only [push_cast,↓Int.cast_ofNat_Int,simprocAttr,yV,yU,yW hlt,e2];(repeat refine ⟨by first|omega|decide|((repeat' apply And.intro) <;> first|omega|decide),?_⟩);refine hK _ ?_;clear hK K
   refine zB ?_;refine zA ?_;refine zJ (fun K hK=>?_);simp (disch:=omega) only [push_cast,↓Int.cast_ofNat_Int,simprocAttr];refine hK _ ?_;clear hK K
   refine zA ?_;refine ⟨(i + 1,out ++ [t[i]]),by simp only [zZ,zR,zP,zQ,zN,zS,zM,zX,zU,Nat.reduceEqDiff,reduceIte];try rfl,⟨hlt,?_⟩,by dsimp only;omega⟩
   dsimp only;rw [List.take_succ_eq_append_getElem hlt,List.filter_append,← ho];simp [hu]
 |true =>
   refine zD ?_;refine zE ?_;refine zJ (fun K hK=>?_);simp (disch:=omega) only [push_cast,↓Int.cast_ofNat_Int,simprocAttr,yV,yU,yW hlt,hu];refine hK _ ?_;clear hK K
   refine yC rfl ?_;refine zC ?_;refine zB ?_;refine zA ?_;refine zJ (fun K hK=>?_);simp (disch:=omega) only [push_cast,↓Int.cast_ofNat_Int,simprocAttr];refine hK _ ?_;clear hK K
   refine zA ?_;refine ⟨(i + 1,out),by simp only [zZ,zR,zP,zQ,zN,zS,zM,zX,zU,Nat.reduceEqDiff,reduceIte];try rfl,⟨hlt,?_⟩,by dsimp only;omega⟩
   dsimp only;rw [List.take_succ_eq_append_getElem hlt,List.filter_append,← ho];simp [hu]
 ·have hne:i=t.length:=by omega
  subst hne;rw [List.take_length] at ho
  have hol:out.length≤t.length:=by
   rw [ho];exact List.length_filter_le ..
  refine zE ?_;refine zE ?_;refine zJ (fun K hK=>?_);simp (disch:=omega) only [push_cast,↓Int.cast_ofNat_Int,simprocAttr,yV];refine hK _ ?_;clear hK K
  refine zA ?_;refine yC rfl ?_;refine zT ?_;refine zG ?_;refine zG ?_;refine zH ?_;refine zE ?_;refine zE ?_
  by_cases hk:k=0
  ·have hk0:decide (k=0)=true:=decide_eq_true hk
   have hL:qE0 t p (k,d)=out:=by rw [qE0,if_pos hk,List.append_nil,← ho]
   rw [hT,hL];refine zJ (fun K hK=>?_);simp (disch:=omega) only [push_cast,↓Int.cast_ofNat_Int,simprocAttr,hk0];refine hK _ ?_;clear hK K
   refine yC rfl ?_;refine zC ?_;refine zE ?_;refine zJ (fun K hK=>?_);simp (disch:=omega) only [push_cast,↓Int.cast_ofNat_Int,simprocAttr]
   refine hat 800 zV0 (zJ3 out (by omega)) (.cons (gD (yT _) rfl) .nil) ?_
   rintro _ _ ⟨rfl,rfl⟩;with_reducible refine aB ?_;simp (disch:=omega) only [push_cast,↓Int.cast_ofNat_Int,simprocAttr]
   refine hK _ ?_;clear hK K;refine zA ?_;refine zW ?_;simp only [yA,yM,yH,yE,aA,aC,yK,yJ,zS,zM,Nat.reduceEqDiff,reduceIte,reduceCtorEq];exact eU rfl (aP _) ⟨by rw [hE],rfl⟩
  ·have hk0:decide (k=0)=false:=decide_eq_false hk
   have hL:qE0 t p (k,d)=out ++ [(p,k,d)]:=by rw [qE0,if_neg hk,← ho]
   rw [hT,hL]
   have e2:aG out ++ [[FV.v (.string p),.v (.int .i64 k),.v (.string d)]]=aG (out ++ [(p,k,d)]):=mR out _ _ _
   refine zJ (fun K hK=>?_);simp (disch:=omega) only [push_cast,↓Int.cast_ofNat_Int,simprocAttr,hk0];refine hK _ ?_;clear hK K
   refine yD rfl ?_;refine zJ (fun K hK=>?_);simp (disch:=omega) only [push_cast,↓Int.cast_ofNat_Int,simprocAttr,yV,yU,e2];(repeat refine ⟨by first|omega|decide|((repeat' apply And.intro) <;> first|omega|decide),?_⟩);refine hK _ ?_;clear hK K
   refine zE ?_;refine zJ (fun K hK=>?_);simp (disch:=omega) only [push_cast,↓Int.cast_ofNat_Int,simprocAttr]
   refine hat 800 zV0 (zJ3 (out ++ [(p,k,d)]) (by simp;omega)) (.cons (gD (yT _) rfl) .nil) ?_
   rintro _ _ ⟨rfl,rfl⟩;with_reducible refine aB ?_;simp (disch:=omega) only [push_cast,↓Int.cast_ofNat_Int,simprocAttr]
   refine hK _ ?_;clear hK K;refine zA ?_;refine zW ?_;simp only [yA,yM,yH,yE,aA,aC,yK,yJ,zS,zM,Nat.reduceEqDiff,reduceIte,reduceCtorEq];exact eU rfl (aP _) ⟨by rw [hE],rfl⟩
end Go.Proofs.YtbdomkfdkfdfgaaGreatDoor
end
section
namespace Go.Tr
open Go
def qBf (t:List Ent):Prop:=t.Pairwise fun x y=>blt y.1 x.1=false
theorem qFm {a b c:ByteArray} (h1:blt b a=false) (h2:blt c b=false):blt c a=false:=by
 cases e:blt c a with
|false=>rfl
|true =>
  rcases uS a b with h|h|h
  ·rw [kK e h] at h2;cases h2
  ·rw [← h,e] at h2;cases h2
  ·rw [h] at h1;cases h1
theorem zCc {out:List Ent} {e:Ent} (h:qBf out):qBf (qC9 out e):=by
 unfold qC9
 induction out with
|nil=>simp [qBf]
|cons x r ih =>
  obtain ⟨hx,hr⟩:=List.pairwise_cons.1 h
  cases hb:blt x.1 e.1 with
 |true =>
   simp only [List.takeWhile_cons,List.dropWhile_cons,hb,if_true,List.cons_append];refine List.pairwise_cons.2 ⟨fun y hy=>?_,ih hr⟩
   rcases List.mem_append.1 hy with hy|hy
   ·exact hx y ((List.takeWhile_sublist _).subset hy)
   ·rcases List.mem_cons.1 hy with rfl|hy
    ·exact kL hb
    ·exact hx y ((List.dropWhile_sublist _).subset hy)
 |false =>
   simp only [List.takeWhile_cons,List.dropWhile_cons,hb,Bool.false_eq_true,if_false,List.nil_append];refine List.pairwise_cons.2 ⟨fun y hy=>?_,h⟩
   rcases List.mem_cons.1 hy with rfl|hy
   ·exact hb
   ·exact qFm hb (hx y hy)
theorem zH3 (out:List Ent) (e:Ent):(qC9 out e).Perm (e :: out):=by
 unfold qC9;refine List.perm_middle.trans (List.Perm.cons e ?_);rw [List.takeWhile_append_dropWhile]
theorem qLg:∀ (t out:List Ent),qBf out→qBf (t.foldl qC9 out)
|[],out,h=>h
|e :: t,out,h=>by rw [List.foldl_cons];exact qLg t _ (zCc h)
theorem qR7:∀ (t out:List Ent),(t.foldl qC9 out).Perm (out ++ t)
|[],out=>by simp
|e :: t,out=>by
  rw [List.foldl_cons];refine (qR7 t _).trans ?_;refine (List.Perm.append_right t (zH3 out e)).trans ?_;exact (List.perm_middle (l₁:=out)).symm
theorem qW1 (t:List Ent):qBf (pS t):=qLg t [] .nil
theorem qDw (t:List Ent):(pS t).Perm t:=qR7 t []
theorem qXx {l X:List Ent} (hn:qBf l) (h:rise X) (hp:l.Perm X):l=X:=by
 refine List.Perm.eq_of_pairwise (le:=fun x y:Ent=>blt y.1 x.1=false) (fun a b ha hb h1 h2=>?_) hn (h.imp fun hh=>kL hh) hp
 have he:a.1=b.1:=by
  rcases uS a.1 b.1 with h|h|h
  ·rw [h] at h2;cases h2
  ·exact h
  ·rw [h] at h1;cases h1
 have ha':a ∈ X:=hp.mem_iff.1 ha
 obtain ⟨i,hi,rfl⟩:=List.getElem_of_mem ha';obtain ⟨j,hj,rfl⟩:=List.getElem_of_mem hb
 have:=zKb h hi hj he
 subst this;rfl
theorem qKq {l X:List Ent} (h:rise X) (hp:l.Perm X):pS l=X:=qXx (qW1 l) h ((qDw l).trans hp)
end Go.Tr
end
