/-
  tree.Put.
-/
import Derived.Test.YtbdomkfdkfdfgaaGreatDoorTpB
import Derived.Test.YtbdomkfdkfdfgaaGreatDoorTrQ
set_option linter.unusedSimpArgs false
set_option linter.unusedVariables false
section
set_option maxRecDepth 20000
namespace Go.Proofs.YtbdomkfdkfdfgaaGreatDoor
open Go Go.Eng Go.RowKit Go.Tr
theorem zNe (t:List Ent) (i:Nat):qGl (dJ t) i=dJ (t.eraseIdx i):=by
 rw [List.eraseIdx_eq_take_drop_succ,qCv,qEb,qEc];rfl
theorem qYg (t:List Ent) (i:Nat) (e:Ent):nG (dJ t) i (dJ [e])=dJ (t.take i ++ e :: t.drop i):=by
 rw [show e :: t.drop i=[e] ++ t.drop i from rfl,qCv,qCv,qEb,qEc,nG,List.append_assoc]
theorem zNd (t:List Ent) (i:Nat) (hi:i < t.length):HFunS Tryz.prog 69 [.own 0,.v (.int .i64 i),.v (.int .i64 ((i:Int) + 1))] [(0,dT t)] (fun h st=>h=.own 0∧st=[(0,dT (t.eraseIdx i))]):=by
 intro c w ρ xs vs hw G R;obtain ⟨R1,R2⟩:=R
 match vs,R1 with
|[v0,v1,v2],_ =>
 have r0:=R2 0 (by simp) (by simp)
 have r1:=R2 1 (by simp) (by simp)
 have r2:=R2 2 (by simp) (by simp)
 simp only [List.getElem_cons_zero,List.getElem_cons_succ] at r0 r1 r2
 cases r1
 cases r2
 cases r0
 obtain ⟨g,cap,cur,e0,b1,b2,b3,b4,b5⟩:=qE1 (id:=0) G rfl (by omega)
 have h:=qWh w g t.length cap i (i + 1) cur b1 b2 b3 b4 rfl (by omega) (by rw [b5];exact qN t)
 rw [e0];refine Ret.mono h ?_;rintro r w' ⟨rfl,hO,cur',d1,d2,d3⟩;rw [b5,zNe] at d3
 have hl:(t.eraseIdx i).length=t.length - 1:=by rw [List.length_eraseIdx,if_pos hi]
 refine qWg G hw (t0:=t) (t:=t.eraseIdx i) rfl (fun j h=>?_) ?_ ?_ ?_ rfl
 ·match j,h with
 |0,h=>exact h
 |j + 1,h=>exact h
 ·rw [hl];exact ⟨by rw [jP,hl],.inr ⟨g,cap,cur',rfl,Nat.zero_le _,d1,by omega,b3,d2,d3⟩⟩
 ·rw [e0];exact ⟨hO.os,hO.tape,hO.output,Nat.le_of_eq hO.size.symm,fun b _ hb=>hO.block b fun e=>hb (by rw [e];rfl)⟩
 ·intro b hb
  right
  rw [e0];exact hb
theorem zLr (t:List Ent) (i:Nat) (e:Ent) (hi:i≤t.length) (hl:t.length≤1048576):HFunS Tryz.prog 70 [.own 0,.v (.int .i64 i),.own 1] [(0,dT t),(1,dT [e])] (fun h st=>h=.own 0∧st=[(0,dT (t.take i ++ e :: t.drop i))]):=by
 by_cases hlt:i < t.length
 ·intro c w ρ xs vs hw G R;obtain ⟨R1,R2⟩:=R
  match vs,R1 with
 |[v0,v1,v2],_ =>
  have r0:=R2 0 (by simp) (by simp)
  have r1:=R2 1 (by simp) (by simp)
  have r2:=R2 2 (by simp) (by simp)
  simp only [List.getElem_cons_zero,List.getElem_cons_succ] at r0 r1 r2
  cases r1
  cases r0
  cases r2
  obtain ⟨g,cap,cur,e0,b1,b2,b3,b4,b5⟩:=qE1 (id:=0) G rfl (by omega)
  obtain ⟨vb,vc,cv,e1,c1,c2,c3,c4,c5⟩:=qE1 (id:=1) (t:=[e]) G rfl (by simp)
  have hne:vb≠g:=fun h=>G.apart 0 1 _ _ g (by omega) rfl rfl (by rw [e0];rfl) (by rw [e1,h];rfl)
  have hbx:∀ j,¬ pF (rlk [(0,dT t),(1,dT [e])] j):=fun j h=>by
   match j,h with
  |0,h=>exact h
  |1,h=>exact h
  |j + 2,h=>exact h
  have hlen:(t.take i ++ e :: t.drop i).length=t.length + 1:=by simp;omega
  rw [e0,e1];simp only [List.length_singleton,Nat.one_mul] at c2 c5
  by_cases hroom:t.length + 1≤cap
  ·refine Ret.mono (qV7 w g t.length cap i vb vc cur cv b1 c1 hne hroom b3 b4 c4 c2 hlt (by rw [b5];exact qN t) (by rw [c5];exact qN _)) ?_
   rintro r w' ⟨rfl,hO,cur',d1,d2,d3⟩;rw [b5,c5,qYg] at d3;refine qWg G hw (t0:=t) (t:=t.take i ++ e :: t.drop i) rfl hbx ?_ ?_ ?_ rfl
   ·rw [hlen];exact ⟨by rw [jP,hlen],.inr ⟨g,cap,cur',rfl,Nat.zero_le _,d1,hroom,b3,d2,d3⟩⟩
   ·rw [e0];exact ⟨hO.os,hO.tape,hO.output,Nat.le_of_eq hO.size.symm,fun b _ hb=>hO.block b fun e=>hb (by rw [e];rfl)⟩
   ·intro b hb
    right
    rw [e0];exact hb
  ·refine Ret.mono (qYf w g t.length cap i vb vc cur cv b1 c1 b2 (by omega) (by omega) b4 c4 c2 hlt (by rw [b5];exact qN t) (by rw [c5];exact qN _)) ?_
   rintro r w' ⟨G',rfl,g1,g2,hB,cur',d1,d2,d3⟩;rw [b5,c5,qYg] at d3;refine qWg G hw (t0:=t) (t:=t.take i ++ e :: t.drop i) rfl hbx ?_ ?_ ?_ rfl
   ·rw [hlen];exact ⟨by rw [jP,hlen],.inr ⟨_,G',cur',rfl,Nat.zero_le _,d1,g1,g2,d2,d3⟩⟩
   ·exact ⟨hB.os,hB.tape,hB.output,hB.size,fun b hlt _=>hB.block b hlt⟩
   ·intro b hb
    left
    simp only [Value.ownBlock,Option.some.injEq] at hb;omega
 ·have hie:i=t.length:=by omega
  subst hie;rw [List.take_length,List.drop_length];exact zLt t e hl
end Go.Proofs.YtbdomkfdkfdfgaaGreatDoor
end
section
set_option maxRecDepth 20000
namespace Go.Tr
open Go Go.Eng
def qK4 (t:List Ent) (p:ByteArray):Bool:=decide (par p={ data:=#[] }) || decide ((aN t (par p)).1=1)
def fP (t:List Ent) (p:ByteArray) (n:Int × ByteArray):Int :=
 if pOk p 5=false then 10
 else if fY n=false then 1
 else if (if n.1=0 then aU t p else qK4 t p)=false then 11
 else if n.1≠1∧1 < (t.filter fun e=>dY e.1 p).length then 12
 else if n.1≠0∧aU t p=false∧200≤t.length then 4
 else 0
def qL4 (t:List Ent) (p:ByteArray) (n:Int × ByteArray):List Ent :=
 if n.1=0 then t.eraseIdx (aQ t p) else if aU t p=true then t.set (aQ t p) (p,n) else t.take (aQ t p) ++ (p,n) :: t.drop (aQ t p)
def iL (t:List Ent) (p:ByteArray) (n:Int × ByteArray):List Ent:=if fP t p n=0 then qL4 t p n else []
theorem qKs {t:List Ent} {p:ByteArray} {n:Int × ByteArray} (ok:pOk p 5=true) (wh:fY n=true) (hg:(if n.1=0 then aU t p else qK4 t p)=true) :
  fP t p n=if n.1≠1∧1 < (t.filter fun e=>dY e.1 p).length then 12 else if n.1≠0∧aU t p=false∧200≤t.length then 4 else 0:=by
 rw [fP,if_neg (by rw [ok];decide),if_neg (by rw [wh];decide),if_neg (by rw [hg];decide)]
end Go.Tr
namespace Go.Proofs.YtbdomkfdkfdfgaaGreatDoor
open Go Go.Eng Go.RowKit Go.Tr
set_option maxHeartbeats 8000000 in
theorem zU9 (t:List Ent) (p:ByteArray) (n:Int × ByteArray) (ri:rise t) (hl:t.length≤1048576) (sz:p.size≤1048576) (szt:∀ e ∈ t,e.1.size≤1048576):HFun Tryz.prog 45 [.lst false (aG t),.v (.string p),nF n] (fun h st=>h=.tup [.own 0,.v (.int .i64 (fP t p n))]∧st=[(0,dT (iL t p n))]):=by
 obtain ⟨k,d⟩:=n;refine eX (N:=80) Tryz.func45 rfl Tryz.ntmps45 Tryz.results45 (by simp) ?_
 have c50:HFun Tryz.prog 66 [.v (.string p),.v (.int .i64 5)] (fun h st=>h=.v (.int .i64 (okN (pOk p 5)))):=qMd p 5 sz (by omega)
 have c17:=zC2 (k,d)
 have c53:=zM3 t p ri (by omega)
 have c51:=qXl p sz
 have c25:=qDm t (par p) ri (by omega)
 have c24:=qRv t p (by omega) szt sz
 have pl:=qFg t p
 have tp:=gN ri p
 refine zE ?_;refine zJ (fun K hK=>?_);simp (disch:=omega) only [push_cast,↓Int.cast_ofNat_Int,simprocAttr];refine hK _ ?_;clear hK K
 cases ok:pOk p 5 with
|false =>
  have hE:fP t p (k,d)=10:=by simp [fP,ok]
  rw [ok,qXv] at c50;refine zE ?_;refine zE ?_;refine zJ (fun K hK=>?_);simp (disch:=omega) only [push_cast,↓Int.cast_ofNat_Int,simprocAttr]
  refine bE qRm c50 (.cons (.v _) (.cons (.v _) .nil)) ?_;with_reducible refine aB ?_;simp (disch:=omega) only [push_cast,↓Int.cast_ofNat_Int,simprocAttr]
  refine hK _ ?_;clear hK K;refine yD rfl ?_;refine zE ?_;refine zJ (fun K hK=>?_);simp (disch:=omega) only [push_cast,↓Int.cast_ofNat_Int,simprocAttr];refine hK _ ?_;clear hK K
  refine eW 6 9000 67 3 rfl (by simp only [dX,fM,fN,bQ,aY,aZ,aT,cY,bD,cE,bC,bB,cM,bP,bN,aX,bV,bW,cJ,cX,dC,cD,Nat.reduceBEq,Nat.reduceEqDiff,reduceIte,cond_true,cond_false,List.map_cons,List.map_nil];exact rfl) ?_
  refine zW ?_;refine zK ?_;simp only [yA,yM,yH,yE,aA,aC,yK,yJ,zS,zM,Nat.reduceEqDiff,reduceIte,reduceCtorEq];exact eU rfl (aP []) ⟨by rw [hE],by rw [iL,hE];rfl⟩
|true =>
 rw [ok,qXu] at c50;refine zE ?_;refine zE ?_;refine zJ (fun K hK=>?_);simp (disch:=omega) only [push_cast,↓Int.cast_ofNat_Int,simprocAttr]
 refine bE qRm c50 (.cons (.v _) (.cons (.v _) .nil)) ?_;with_reducible refine aB ?_;simp (disch:=omega) only [push_cast,↓Int.cast_ofNat_Int,simprocAttr]
 refine hK _ ?_;clear hK K;refine yC rfl ?_;refine zC ?_;refine zE ?_;refine zE ?_
 cases wh:fY (k,d) with
|false =>
  have hE:fP t p (k,d)=1:=by simp [fP,ok,wh]
  rw [wh] at c17;refine zJ (fun K hK=>?_);simp (disch:=omega) only [push_cast,↓Int.cast_ofNat_Int,simprocAttr]
  refine bE zCr c17 (.cons (dE (n:=(k,d))) .nil) ?_;with_reducible refine aB ?_;simp (disch:=omega) only [push_cast,↓Int.cast_ofNat_Int,simprocAttr]
  refine hK _ ?_;clear hK K;refine yD rfl ?_;refine zE ?_;refine zJ (fun K hK=>?_);simp (disch:=omega) only [push_cast,↓Int.cast_ofNat_Int,simprocAttr];refine hK _ ?_;clear hK K
  refine eW 6 9000 67 3 rfl (by simp only [dX,fM,fN,bQ,aY,aZ,aT,cY,bD,cE,bC,bB,cM,bP,bN,aX,bV,bW,cJ,cX,dC,cD,Nat.reduceBEq,Nat.reduceEqDiff,reduceIte,cond_true,cond_false,List.map_cons,List.map_nil];exact rfl) ?_
  refine zW ?_;refine zK ?_;simp only [yA,yM,yH,yE,aA,aC,yK,yJ,zS,zM,Nat.reduceEqDiff,reduceIte,reduceCtorEq];exact eU rfl (aP []) ⟨by rw [hE],by rw [iL,hE];rfl⟩
|true =>
 rw [wh] at c17;refine zJ (fun K hK=>?_);simp (disch:=omega) only [push_cast,↓Int.cast_ofNat_Int,simprocAttr]
 refine bE zCr c17 (.cons (dE (n:=(k,d))) .nil) ?_;with_reducible refine aB ?_;simp (disch:=omega) only [push_cast,↓Int.cast_ofNat_Int,simprocAttr]
 refine hK _ ?_;clear hK K;refine yC rfl ?_;refine zC ?_;refine zE ?_;refine zJ (fun K hK=>?_);simp (disch:=omega) only [push_cast,↓Int.cast_ofNat_Int,simprocAttr]
 refine zL6 (xs:=[.int .i64 (aQ t p),.bool (aU t p)]) zVz c53 (.cons (aL (yT _)) (.cons (.v _) .nil)) ?_;with_reducible refine aB ?_;simp (disch:=omega) only [push_cast,↓Int.cast_ofNat_Int,simprocAttr]
 refine hK _ ?_;clear hK K
 cases hgood:(if k=0 then aU t p else qK4 t p) with
|false =>
  have hE:fP t p (k,d)=11:=by simp only [fP,ok,wh,hgood];simp
  by_cases hk:k=0
  ·rw [if_pos hk] at hgood
   have hk0:decide (k=0)=true:=decide_eq_true hk
   refine zE ?_;refine zE ?_;refine zJ (fun K hK=>?_);simp (disch:=omega) only [push_cast,↓Int.cast_ofNat_Int,simprocAttr,hk0];refine hK _ ?_;clear hK K
   refine yC rfl ?_;refine zE ?_;refine zJ (fun K hK=>?_);simp (disch:=omega) only [push_cast,↓Int.cast_ofNat_Int,simprocAttr,hgood];refine hK _ ?_;clear hK K
   refine yD rfl ?_;refine zE ?_;refine zJ (fun K hK=>?_);simp (disch:=omega) only [push_cast,↓Int.cast_ofNat_Int,simprocAttr];refine hK _ ?_;clear hK K
   refine eW 6 9000 67 3 rfl (by simp only [dX,fM,fN,bQ,aY,aZ,aT,cY,bD,cE,bC,bB,cM,bP,bN,aX,bV,bW,cJ,cX,dC,cD,Nat.reduceBEq,Nat.reduceEqDiff,reduceIte,cond_true,cond_false,List.map_cons,List.map_nil];exact rfl) ?_
   refine zW ?_;refine zK ?_;simp only [yA,yM,yH,yE,aA,aC,yK,yJ,zS,zM,Nat.reduceEqDiff,reduceIte,reduceCtorEq];exact eU rfl (aP []) ⟨by rw [hE],by rw [iL,hE];rfl⟩
  ·rw [if_neg hk] at hgood
   have hk0:decide (k=0)=false:=decide_eq_false hk
   simp only [qK4,Bool.or_eq_false_iff] at hgood;obtain ⟨he,hk1⟩:=hgood;refine zE ?_;refine zE ?_;refine zJ (fun K hK=>?_);simp (disch:=omega) only [push_cast,↓Int.cast_ofNat_Int,simprocAttr,hk0];refine hK _ ?_;clear hK K
   refine yD rfl ?_;refine zE ?_;refine zJ (fun K hK=>?_);simp (disch:=omega) only [push_cast,↓Int.cast_ofNat_Int,simprocAttr]
   refine bE zTu c51 (.cons (.v _) .nil) ?_;with_reducible refine aB ?_;simp (disch:=omega) only [push_cast,↓Int.cast_ofNat_Int,simprocAttr]
   refine hK _ ?_;clear hK K;generalize aN t (par p)=m at c25 hk1;obtain ⟨km,dm⟩:=m;dsimp only at hk1;refine zE ?_;refine zJ (fun K hK=>?_);simp (disch:=omega) only [push_cast,↓Int.cast_ofNat_Int,simprocAttr,he]
   refine hat 272 qGo c25 (.cons (aL (yT _)) (.cons (.v _) .nil)) ?_;rintro _ _ ⟨rfl,rfl⟩;with_reducible refine aB ?_;simp (disch:=omega) only [push_cast,↓Int.cast_ofNat_Int,simprocAttr,he,hk1]
   refine hK _ ?_;clear hK K;refine yD rfl ?_;refine zE ?_;refine zJ (fun K hK=>?_);simp (disch:=omega) only [push_cast,↓Int.cast_ofNat_Int,simprocAttr];refine hK _ ?_;clear hK K
   refine eW 6 9000 67 3 rfl (by simp only [dX,fM,fN,bQ,aY,aZ,aT,cY,bD,cE,bC,bB,cM,bP,bN,aX,bV,bW,cJ,cX,dC,cD,Nat.reduceBEq,Nat.reduceEqDiff,reduceIte,cond_true,cond_false,List.map_cons,List.map_nil];exact rfl) ?_
   refine zW ?_;refine zK ?_;simp only [yA,yM,yH,yE,aA,aC,yK,yJ,zS,zM,Nat.reduceEqDiff,reduceIte,reduceCtorEq];exact eU rfl (aP []) ⟨by rw [hE],by rw [iL,hE];rfl⟩
|true =>
 obtain ⟨b,hk0⟩:∃ b,decide (k=0)=b:=⟨_,rfl⟩;refine zE ?_;refine zE ?_;refine zJ (fun K hK=>?_);simp (disch:=omega) only [push_cast,↓Int.cast_ofNat_Int,simprocAttr,hk0];refine hK _ ?_;clear hK K
 refine uU (fun _:Unit=>⟨[(0,.lst false (aG t)),(1,.v (.string p)),(5,.ptr 40 2 0 0),(8,.v (.int .i64 (aQ t p))),(9,.v (.bool (aU t p)))],[(40,.bx true 47 [.v (.int .i64 k),.v (.string d)])]⟩) (fun _=>True) [0,1,5,8,9] [40] ?_ ?_
 ·cases b with
 |true =>
   have hk:=of_decide_eq_true hk0
   rw [if_pos hk] at hgood;refine yC rfl ?_;refine zE ?_;refine zJ (fun K hK=>?_);simp (disch:=omega) only [push_cast,↓Int.cast_ofNat_Int,simprocAttr,hgood];refine hK _ ?_;clear hK K
   refine yC rfl ?_;refine zC ?_;refine vC ?_;exact ⟨(),by simp only [zZ,zR,zP,zQ,zN,zS,zM,zX,zU,Nat.reduceEqDiff,reduceIte,hgood],trivial⟩
 |false =>
   have hk:=of_decide_eq_false hk0
   rw [if_neg hk] at hgood;refine yD rfl ?_;refine zE ?_;refine zJ (fun K hK=>?_);simp (disch:=omega) only [push_cast,↓Int.cast_ofNat_Int,simprocAttr]
   refine bE zTu c51 (.cons (.v _) .nil) ?_;with_reducible refine aB ?_;simp (disch:=omega) only [push_cast,↓Int.cast_ofNat_Int,simprocAttr]
   refine hK _ ?_;clear hK K
   cases he:decide (par p={ data:=#[] }) with
  |true =>
    refine zE ?_;refine zJ (fun K hK=>?_);simp (disch:=omega) only [push_cast,↓Int.cast_ofNat_Int,simprocAttr,he];refine hK _ ?_;clear hK K
    refine yC rfl ?_;refine zC ?_;refine vC ?_;exact ⟨(),by simp only [zZ,zR,zP,zQ,zN,zS,zM,zX,zU,Nat.reduceEqDiff,reduceIte];try rfl,trivial⟩
  |false =>
    simp only [qK4,he,Bool.false_or] at hgood;generalize aN t (par p)=m at c25 hgood;obtain ⟨km,dm⟩:=m;dsimp only at hgood;refine zE ?_;refine zJ (fun K hK=>?_);simp (disch:=omega) only [push_cast,↓Int.cast_ofNat_Int,simprocAttr,he]
    refine hat 272 qGo c25 (.cons (aL (yT _)) (.cons (.v _) .nil)) ?_;rintro _ _ ⟨rfl,rfl⟩;with_reducible refine aB ?_;simp (disch:=omega) only [push_cast,↓Int.cast_ofNat_Int,simprocAttr,he,hgood]
    refine hK _ ?_;clear hK K;refine yC rfl ?_;refine zC ?_;refine vC ?_;exact ⟨(),by simp only [zZ,zR,zP,zQ,zN,zS,zM,zX,zU,Nat.reduceEqDiff,reduceIte];try rfl,trivial⟩
 intro S' _ hE _;refine zE ?_;refine zE ?_;refine yB [0,1,5,8,9] [40] hE ?_;clear hE;clear hk0 b
 skip
 by_cases h12:k≠1∧1 < (t.filter fun e=>dY e.1 p).length
 ·have hE:fP t p (k,d)=12:=(qKs (n:=(k,d)) ok wh hgood).trans (if_pos h12)
  obtain ⟨hk1,hfl⟩:=h12
  have hkd:decide (k=1)=false:=decide_eq_false hk1
  generalize t.filter (fun e=>dY e.1 p)=F at c24 hfl
  refine zJ (fun K hK=>?_);simp (disch:=omega) only [push_cast,↓Int.cast_ofNat_Int,simprocAttr,hkd]
  refine hat 368 zCs c24 (.cons (aL (yT _)) (.cons (.v _) .nil)) ?_;rintro _ _ ⟨rfl,rfl⟩;with_reducible refine aB ?_;simp (disch:=omega) only [push_cast,↓Int.cast_ofNat_Int,simprocAttr,hkd,yV]
  refine hK _ ?_;clear hK K;refine yD rfl ?_;refine zE ?_;refine zJ (fun K hK=>?_);simp (disch:=omega) only [push_cast,↓Int.cast_ofNat_Int,simprocAttr];refine hK _ ?_;clear hK K
  refine eW 6 9000 67 3 rfl (by simp only [dX,fM,fN,bQ,aY,aZ,aT,cY,bD,cE,bC,bB,cM,bP,bN,aX,bV,bW,cJ,cX,dC,cD,Nat.reduceBEq,Nat.reduceEqDiff,reduceIte,cond_true,cond_false,List.map_cons,List.map_nil];exact rfl) ?_
  refine zW ?_;refine zK ?_;simp only [yA,yM,yH,yE,aA,aC,yK,yJ,zS,zM,Nat.reduceEqDiff,reduceIte,reduceCtorEq];exact eU rfl (aP []) ⟨by rw [hE],by rw [iL,hE];rfl⟩
 refine uU (fun _:Unit=>⟨[(0,.lst false (aG t)),(1,.v (.string p)),(5,.ptr 40 2 0 0),(8,.v (.int .i64 (aQ t p))),(9,.v (.bool (aU t p))),(49,.v (.bool false))],[(40,.bx true 47 [.v (.int .i64 k),.v (.string d)])]⟩) (fun _=>True) [0,1,5,8,9,49] [40] ?_ ?_
 ·by_cases hk1:k=1
  ·have hkd:decide (k=1)=true:=decide_eq_true hk1
   refine zJ (fun K hK=>?_);simp (disch:=omega) only [push_cast,↓Int.cast_ofNat_Int,simprocAttr,hkd];refine hK _ ?_;clear hK K
   exact ⟨(),by simp only [zZ,zR,zP,zQ,zN,zS,zM,zX,zU,Nat.reduceEqDiff,reduceIte];try rfl,trivial⟩
  ·have hkd:decide (k=1)=false:=decide_eq_false hk1
   have hfl:¬ 1 < (t.filter fun e=>dY e.1 p).length:=fun h=>h12 ⟨hk1,h⟩
   generalize t.filter (fun e=>dY e.1 p)=F at c24 hfl
   refine zJ (fun K hK=>?_);simp (disch:=omega) only [push_cast,↓Int.cast_ofNat_Int,simprocAttr,hkd]
   refine hat 368 zCs c24 (.cons (aL (yT _)) (.cons (.v _) .nil)) ?_;rintro _ _ ⟨rfl,rfl⟩;with_reducible refine aB ?_;simp (disch:=omega) only [push_cast,↓Int.cast_ofNat_Int,simprocAttr,hkd,yV]
   refine hK _ ?_;clear hK K;exact ⟨(),by simp only [zZ,zR,zP,zQ,zN,zS,zM,zX,zU,Nat.reduceEqDiff,reduceIte];try rfl,trivial⟩
 intro S' _ hE _;refine zA ?_;refine yB [0,1,5,8,9,49] [40] hE ?_;clear hE;refine yC rfl ?_;refine zC ?_;refine zE ?_;refine zJ (fun K hK=>?_);simp (disch:=omega) only [push_cast,↓Int.cast_ofNat_Int,simprocAttr]
 refine hat 408 zNh (qGn t (by omega)) (.cons (aL (yT _)) .nil) ?_
 rintro _ _ ⟨rfl,rfl⟩;with_reducible refine aB ?_;simp (disch:=omega) only [push_cast,↓Int.cast_ofNat_Int,simprocAttr]
 refine hK _ ?_;clear hK K
 have hgo:=(qKs (n:=(k,d)) ok wh hgood).trans (if_neg h12)
 by_cases hk:k=0
 ·have hk0:decide (k=0)=true:=decide_eq_true hk
  rw [if_pos hk] at hgood
  have hE:fP t p (k,d)=0:=hgo.trans (if_neg fun h=>h.1 hk)
  have hlt:aQ t p < t.length:=by
   rw [hgood] at tp;exact (of_decide_eq_true tp.symm).1
  have hT:iL t p (k,d)=t.eraseIdx (aQ t p):=by rw [iL,if_pos hE,qL4,if_pos hk]
  refine zE ?_;refine zD ?_;refine zE ?_;refine zJ (fun K hK=>?_);simp (disch:=omega) only [push_cast,↓Int.cast_ofNat_Int,simprocAttr,hk0];refine hK _ ?_;clear hK K
  refine zA ?_;refine yD rfl ?_;refine zJ (fun K hK=>?_);simp (disch:=omega) only [push_cast,↓Int.cast_ofNat_Int,simprocAttr]
  refine qD7 536 [408] zXe (zNd t (aQ t p) hlt) rfl (by decide) (by decide) (by simp only [push_cast,simprocAttr];try rfl) (by simp only [push_cast,simprocAttr];try rfl) ?_
  rintro _ _ ⟨rfl,rfl⟩;refine aB ?_;simp (disch:=omega) only [push_cast,↓Int.cast_ofNat_Int,simprocAttr];refine hK _ ?_;clear hK K;refine zB ?_;refine zE ?_;refine zJ (fun K hK=>?_);simp (disch:=omega) only [push_cast,↓Int.cast_ofNat_Int,simprocAttr];refine hK _ ?_;clear hK K
  refine zA ?_;refine zW ?_;simp only [yA,yM,yH,yE,aA,aC,yK,yJ,zS,zM,Nat.reduceEqDiff,reduceIte,reduceCtorEq];exact eU rfl (aP _) ⟨by rw [hE],by rw [hT]⟩
 ·have hk0:decide (k=0)=false:=decide_eq_false hk
  rw [if_neg hk] at hgood;refine zE ?_;refine zD ?_;refine zE ?_;refine zJ (fun K hK=>?_);simp (disch:=omega) only [push_cast,↓Int.cast_ofNat_Int,simprocAttr,hk0];refine hK _ ?_;clear hK K
  refine zA ?_;refine yC rfl ?_;refine zE ?_;refine zJ (fun K hK=>?_);simp (disch:=omega) only [push_cast,↓Int.cast_ofNat_Int,simprocAttr];refine hK _ ?_;clear hK K
  cases th:aU t p with
 |true =>
   have hE:fP t p (k,d)=0:=hgo.trans (if_neg fun h=>by rw [th] at h;cases h.2.1)
   have hlt:aQ t p < t.length:=by
    rw [th] at tp;exact (of_decide_eq_true tp.symm).1
   have hat:t[aQ t p].1=p:=by
    rw [th] at tp;exact (of_decide_eq_true tp.symm).2
   have hT:iL t p (k,d)=t.set (aQ t p) (p,k,d):=by rw [iL,if_pos hE,qL4,if_neg hk,if_pos th]
   refine yD rfl ?_
   have e9:(aG t).set (aQ t p) [FV.v (.string t[aQ t p].1),.v (.int .i64 k),.v (.string d)]=aG (t.set (aQ t p) (p,k,d)):=by
    rw [hat,aG,aG,List.map_set];rfl
   refine zJ (fun K hK=>?_);simp (disch:=omega) only [push_cast,↓Int.cast_ofNat_Int,simprocAttr,yV,yU,yW hlt,e9];refine hK _ ?_;clear hK K
   refine zB ?_;refine zE ?_;refine zJ (fun K hK=>?_);simp (disch:=omega) only [push_cast,↓Int.cast_ofNat_Int,simprocAttr];refine hK _ ?_;clear hK K
   refine zA ?_;refine zW ?_;simp only [yA,yM,yH,yE,aA,aC,yK,yJ,zS,zM,Nat.reduceEqDiff,reduceIte,reduceCtorEq];exact eU rfl (aP _) ⟨by rw [hE],by rw [hT]⟩
 |false =>
   refine yC rfl ?_;refine zE ?_
   by_cases h200:200≤t.length
   ·have hE:fP t p (k,d)=4:=hgo.trans (if_pos ⟨hk,th,h200⟩)
    refine zJ (fun K hK=>?_);simp (disch:=omega) only [push_cast,↓Int.cast_ofNat_Int,simprocAttr,yV];refine hK _ ?_;clear hK K
    refine yD rfl ?_;refine zE ?_;refine zJ (fun K hK=>?_);simp (disch:=omega) only [push_cast,↓Int.cast_ofNat_Int,simprocAttr];refine hK _ ?_;clear hK K
    refine eW 6 9000 67 3 rfl (by simp only [dX,fM,fN,bQ,aY,aZ,aT,cY,bD,cE,bC,bB,cM,bP,bN,aX,bV,bW,cJ,cX,dC,cD,Nat.reduceBEq,Nat.reduceEqDiff,reduceIte,cond_true,cond_false,List.map_cons,List.map_nil];exact rfl) ?_
    refine zW ?_;refine zL ?_;refine zK ?_;simp only [yA,yM,yH,yE,aA,aC,yK,yJ,zS,zM,Nat.reduceEqDiff,reduceIte,reduceCtorEq];exact eU rfl (aP []) ⟨by rw [hE],by rw [iL,hE];rfl⟩
   ·have hE:fP t p (k,d)=0:=hgo.trans (if_neg fun h=>h200 h.2.2)
    have hT:iL t p (k,d)=t.take (aQ t p) ++ (p,k,d) :: t.drop (aQ t p):=by rw [iL,if_pos hE,qL4,if_neg hk,th];rfl
    refine zJ (fun K hK=>?_);simp (disch:=omega) only [push_cast,↓Int.cast_ofNat_Int,simprocAttr,yV];refine hK _ ?_;clear hK K
    refine yC rfl ?_
    skip
    refine zJ (fun K hK=>?_);simp (disch:=omega) only [push_cast,↓Int.cast_ofNat_Int,simprocAttr]
    rw [zM8];refine qD7 464 [408,456] zXd (zLr t (aQ t p) (p,k,d) pl (by omega)) rfl (by decide) (by decide) (by simp only [push_cast,simprocAttr];try rfl) (by simp only [push_cast,simprocAttr];try rfl) ?_
    rintro _ _ ⟨rfl,rfl⟩;refine aB ?_;simp (disch:=omega) only [push_cast,↓Int.cast_ofNat_Int,simprocAttr];refine hK _ ?_;clear hK K;refine zB ?_;refine zE ?_;refine zJ (fun K hK=>?_);simp (disch:=omega) only [push_cast,↓Int.cast_ofNat_Int,simprocAttr];refine hK _ ?_;clear hK K
    refine zA ?_;refine zW ?_;simp only [yA,yM,yH,yE,aA,aC,yK,yJ,zS,zM,Nat.reduceEqDiff,reduceIte,reduceCtorEq];exact eU rfl (aP _) ⟨by rw [hE],by rw [hT]⟩
end Go.Proofs.YtbdomkfdkfdfgaaGreatDoor
end
