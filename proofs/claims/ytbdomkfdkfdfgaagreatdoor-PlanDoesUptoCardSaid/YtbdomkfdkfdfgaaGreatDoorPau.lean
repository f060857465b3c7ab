/-
  Steps that are handed in, opened; how much they hold.
-/
import Derived.Test.YtbdomkfdkfdfgaaGreatDoorSrt
import Derived.Test.YtbdomkfdkfdfgaaGreatDoorTka
import Derived.Test.YtbdomkfdkfdfgaaGreatDoorTrQ
import Derived.Test.YtbdomkfdkfdfgaaGreatDoorChn
import Derived.Test.YtbdomkfdkfdfgaaGreatDoorApd
set_option linter.unusedSimpArgs false
set_option linter.unusedVariables false
section
set_option maxRecDepth 20000
namespace Go.Tr
open Go Go.Eng
theorem zE0 {S:HS} {xs:List (List FV)} {b:Value} {Q:HV→aD→Prop} (hf:∀ x ∈ xs,∀ f ∈ x,FreshF f) (q:Q (.tup [.lst true xs,.v b]) []):qB9 S (.tup [.lst true xs,.v b]) Q :=
 ⟨[],by simp,rfl,.tup fun x hx=>by
  simp only [List.mem_cons,List.not_mem_nil,or_false] at hx
  rcases hx with rfl|rfl
  ·exact .lst (.lst hf)
  ·exact .v _,fun id h=>by simp at h,by simpa [HV.ren,jR] using q⟩
end Go.Tr
namespace Go.Proofs.YtbdomkfdkfdfgaaGreatDoor
open Go Go.Eng Go.RowKit Go.Tr
theorem qKr {t:List Ent} {p:ByteArray} {n:Int × ByteArray} (hs:∀ e ∈ t,e.1.size≤1048576) (hp:p.size≤1048576):∀ e ∈ iL t p n,e.1.size≤1048576:=fun e he=>by
 unfold iL at he;split at he
 ·unfold qL4 at he;split at he
  ·exact hs e (List.mem_of_mem_eraseIdx he)
  ·split at he
   ·rcases List.mem_or_eq_of_mem_set he with h|h
    ·exact hs e h
    ·rw [h];exact hp
   ·rcases List.mem_append.1 he with h|h
    ·exact hs e (List.mem_of_mem_take h)
    ·rcases List.mem_cons.1 h with h|h
     ·rw [h];exact hp
     ·exact hs e (List.mem_of_mem_drop h)
 ·cases he
set_option maxHeartbeats 8000000 in
theorem zTr (t:List Ent) (l:List Tr.Act) (ht:Tree t) (hs:∀ e ∈ t,e.1.size≤1048576) (hl:l.length≤1048576) (hp:∀ x ∈ l,x.2.1.size≤1048576) :
  HFun Tryz.prog 21 [.lst false (aG t),.lst false (eP l)] (fun h st=>h=.tup [.own 0,.v (.int .i64 (doG l t).2)]∧st=[(0,dT (doG l t).1)]):=by
 refine eX (N:=34) Tryz.func21 rfl Tryz.ntmps21 Tryz.results21 (by simp) ?_
 refine zE ?_;refine zJ (fun K hK=>?_);simp (disch:=omega) only [push_cast,↓Int.cast_ofNat_Int,simprocAttr];refine hK _ ?_;clear hK K
 refine zE ?_;refine zJ (fun K hK=>?_);simp (disch:=omega) only [push_cast,↓Int.cast_ofNat_Int,simprocAttr]
 refine hat 96 zNh (qGn t (by have:=ht.len;omega)) (.cons (aL (yT _)) .nil) ?_
 rintro _ _ ⟨rfl,rfl⟩;with_reducible refine aB ?_;simp (disch:=omega) only [push_cast,↓Int.cast_ofNat_Int,simprocAttr]
 refine hK _ ?_;clear hK K;refine zE ?_;refine zE ?_;refine zJ (fun K hK=>?_);simp (disch:=omega) only [push_cast,↓Int.cast_ofNat_Int,simprocAttr,cW];refine hK _ ?_;clear hK K
 refine zA ?_;refine zD ?_;refine cP (fun z:Nat × List Ent=>⟨[(6,.own 96),(13,.lst false (eP l)),(14,.v (.int .i64 l.length)),(15,.v (.int .i64 z.1))],[(96,dT z.2)]⟩) (fun z=>z.1≤l.length∧Tree z.2∧(∀ e ∈ z.2,e.1.size≤1048576)∧doG l t=doG (l.drop z.1) z.2) (fun z=>l.length - z.1) [6,13,14,15] [96] (0,t) (by simp only [zZ,zR,zP,zQ,zN,zS,zM,zX,zU,Nat.reduceEqDiff,reduceIte];rfl) ⟨Nat.zero_le _,ht,hs,rfl⟩ ?_
 rintro ⟨i,u⟩ ⟨hi,hu,hus,hq⟩;simp only at hi hu hus hq;rw [hq]
 by_cases hlt:i < l.length
 ·have hd:l.drop i=l[i] :: l.drop (i + 1):=List.drop_eq_getElem_cons hlt
  have hsz:=hp _ (List.getElem_mem hlt)
  have hg:=@xJ l i [] hlt
  rw [hd];generalize l[i]=x at *
  obtain ⟨r,p,k,d⟩:=x
  have c45:=zU9 u p (k,d) hu.ri (by have:=hu.len;omega) hsz hus
  refine zE ?_;refine zJ (fun K hK=>?_);simp (disch:=omega) only [push_cast,↓Int.cast_ofNat_Int,simprocAttr];refine hK _ ?_;clear hK K
  refine zE ?_;refine yD rfl ?_;refine zC ?_;refine zE ?_;refine zD ?_;refine zE ?_;refine zJ (fun K hK=>?_);simp (disch:=omega) only [push_cast,↓Int.cast_ofNat_Int,simprocAttr,cW,gF,hg];refine hK _ ?_;clear hK K
  refine zE ?_;refine zJ (fun K hK=>?_);simp (disch:=omega) only [push_cast,↓Int.cast_ofNat_Int,simprocAttr]
  refine hat 200 zXm c45 (.cons (gD (yT _) rfl) (.cons (.v _) (.cons (dE (n:=(k,d))) .nil))) ?_;rintro _ _ ⟨rfl,rfl⟩;with_reducible refine aB ?_;simp (disch:=omega) only [push_cast,↓Int.cast_ofNat_Int,simprocAttr]
  refine hK _ ?_;clear hK K;refine zE ?_;refine zE ?_
  by_cases he:fP u p (k,d)=0
  ·rw [he];refine zJ (fun K hK=>?_);simp (disch:=omega) only [push_cast,↓Int.cast_ofNat_Int,simprocAttr];refine hK _ ?_;clear hK K
   refine yC rfl ?_;refine zC ?_;refine zA ?_;refine zJ (fun K hK=>?_);simp (disch:=omega) only [push_cast,↓Int.cast_ofNat_Int,simprocAttr];refine hK _ ?_;clear hK K
   refine zB ?_;refine zA ?_;refine yB [6,13,14,15] [200] (by simp only [zZ,zR,zP,zQ,zN,zS,zM,zX,zU,Nat.reduceEqDiff,reduceIte];exact rfl) ?_
   refine qAc 200 96 (by decide) rfl rfl (by simp only [xV,qMp,sX,oG,rC,nW,vB,lJ,lG,nJ,mB,lK,lF,kG,oL,oN,oM,Nat.reduceMul,Nat.reduceAdd,Nat.reduceEqDiff,reduceIte,List.map_cons,List.map_nil];exact rfl) ?_
   refine zJ (fun K hK=>?_);simp (disch:=omega) only [push_cast,↓Int.cast_ofNat_Int,simprocAttr];refine hK _ ?_;clear hK K
   refine zA ?_;exact ⟨(i + 1,iL u p (k,d)),by simp only [zZ,zR,zP,zQ,zN,zS,zM,zX,zU,Nat.reduceEqDiff,reduceIte];rfl,⟨hlt,hu.put he,qKr hus hsz,xE (x:=(r,p,k,d)) he⟩,by dsimp only;omega⟩
  ·have hz:decide (fP u p (k,d)=0)=false:=decide_eq_false he
   rw [qGj (x:=(r,p,k,d)) he];generalize fP u p (k,d)=er at *
   refine zJ (fun K hK=>?_);simp (disch:=omega) only [push_cast,↓Int.cast_ofNat_Int,simprocAttr,hz];refine hK _ ?_;clear hK K
   refine yD rfl ?_;refine zE ?_;refine zJ (fun K hK=>?_);simp (disch:=omega) only [push_cast,↓Int.cast_ofNat_Int,simprocAttr];refine hK _ ?_;clear hK K
   refine eW 4 9000 67 3 rfl (by simp only [dX,fM,fN,bQ,aY,aZ,aT,cY,bD,cE,bC,bB,cM,bP,bN,aX,bV,bW,cJ,cX,dC,cD,Nat.reduceBEq,Nat.reduceEqDiff,reduceIte,cond_true,cond_false,List.map_cons,List.map_nil];exact rfl) ?_
   refine zW ?_;refine zK ?_;refine zL ?_;refine zK ?_;refine zK ?_;refine zL ?_;refine zK ?_;simp only [yA,yM,yH,yE,aA,aC,yK,yJ,zS,zM,Nat.reduceEqDiff,reduceIte,reduceCtorEq];exact eU rfl (aP []) ⟨rfl,rfl⟩
 ·have hne:i=l.length:=by omega
  subst hne;rw [List.drop_length];refine zE ?_;refine zJ (fun K hK=>?_);simp (disch:=omega) only [push_cast,↓Int.cast_ofNat_Int,simprocAttr];refine hK _ ?_;clear hK K
  refine zE ?_;refine yC rfl ?_;refine zT ?_;refine zG ?_;refine zG ?_;refine zH ?_;refine zE ?_;refine zJ (fun K hK=>?_);simp (disch:=omega) only [push_cast,↓Int.cast_ofNat_Int,simprocAttr];refine hK _ ?_;clear hK K
  refine zA ?_;refine zW ?_;simp only [yA,yM,yH,yE,aA,aC,yK,yJ,zS,zM,Nat.reduceEqDiff,reduceIte,reduceCtorEq];exact eU rfl (aP _) ⟨rfl,rfl⟩
set_option maxHeartbeats 8000000 in
theorem zU7 (t:List Ent) (l:List Tr.Act) (ht:Tree t) (hs:∀ e ∈ t,e.1.size≤1048576) (hl:l.length≤1048576) (hp:∀ x ∈ l,x.2.1.size≤1048576) (hne0:l≠[]) :
  HFun Tryz.prog 22 [.lst false (aG t),.lst false (eP l)] (fun h st=>h=.tup [.lst true (aG (doG l t).1),.v (.int .i64 (doG l t).2)]∧st=[]):=by
 refine eX (N:=35) Tryz.func22 rfl Tryz.ntmps22 Tryz.results22 (by simp) ?_
 refine zE ?_;refine zJ (fun K hK=>?_);simp (disch:=omega) only [push_cast,↓Int.cast_ofNat_Int,simprocAttr];refine hK _ ?_;clear hK K
 refine zE ?_;refine zE ?_;refine zJ (fun K hK=>?_);simp (disch:=omega) only [push_cast,↓Int.cast_ofNat_Int,simprocAttr];refine hK _ ?_;clear hK K
 refine zA ?_;refine zD ?_;refine cP (fun z:Nat × Bool × List Ent=>⟨[(0,.lst z.2.1 (aG z.2.2)),(1,.lst false (eP l)),(6,.v (.int .i64 z.1))],[]⟩) (fun z=>z.1≤l.length∧(z.1≠0→z.2.1=true)∧Tree z.2.2∧(∀ e ∈ z.2.2,e.1.size≤1048576)∧doG l t=doG (l.drop z.1) z.2.2) (fun z=>l.length - z.1) [0,1,6] [] (0,false,t) (by simp only [zZ,zR,zP,zQ,zN,zS,zM,zX,zU,Nat.reduceEqDiff,reduceIte];rfl) ⟨Nat.zero_le _,fun h=>absurd rfl h,ht,hs,rfl⟩ ?_
 rintro ⟨i,fr,u⟩ ⟨hi,hfr,hu,hus,hq⟩;simp only at hi hfr hu hus hq;rw [hq]
 by_cases hlt:i < l.length
 ·have hd:l.drop i=l[i] :: l.drop (i + 1):=List.drop_eq_getElem_cons hlt
  have hsz:=hp _ (List.getElem_mem hlt)
  have hg:=@xJ l i [] hlt
  rw [hd];generalize l[i]=x at *
  obtain ⟨r,p,k,d⟩:=x
  have c46:=zJ8 u p (k,d) (qDs hu.okT p) (by have:=hu.len;omega) hsz hus
  rw [zDi hu.ri] at c46;refine zE ?_;refine zE ?_;refine zJ (fun K hK=>?_);simp (disch:=omega) only [push_cast,↓Int.cast_ofNat_Int,simprocAttr,cW];refine hK _ ?_;clear hK K
  refine zA ?_;refine yD rfl ?_;refine zC ?_;refine zE ?_
  by_cases he:fP u p (k,d)=0
  ·rw [xE (x:=(r,p,k,d)) he]
   have hput:=hu.put he
   have hps:=qKr (n:=(k,d)) hus hsz
   rw [he] at c46;dsimp only;generalize iL u p (k,d)=u2 at *
   refine zD ?_;refine zE ?_;refine qAd 16 [(11,some 216)] [[],[(216,dT u2)]] [(12,1,1),(13,1,1),(14,1,1),(15,1,1)] mixed (by kernel_rfl) (by kernel_rfl) rfl (fun K hK K1 hK1=>?_);simp (disch:=omega) only [push_cast,↓Int.cast_ofNat_Int,simprocAttr,eD,dN,fE,eC,gT,pE,eB,dL,bR,cG,cU,bS,bT,gU,eE,eM,fJ,fH,dQ,cH,cV,gX,gW,gV,eF,eG,eK,eJ,gY,dU,eH,fG,List.tail_cons,List.take_nil,List.drop_nil,cW,gF,hg]
   refine zTh 216 zTx c46 (.cons (aL (yT _)) (.cons (.v _) (.cons (dE (n:=(k,d))) .nil))) (by simp only [aZ,aT,bV,bW,cY,bD,bC,bB,cX,List.map_cons,List.map_nil,Nat.reduceBEq,Nat.reduceEqDiff,reduceIte,cond_false,cond_true];try rfl) ?_
   simp (disch:=omega) only [push_cast,↓Int.cast_ofNat_Int,simprocAttr,eD,dN,fE,eC,gT,pE,eB,dL,bR,cG,cU,bS,bT,gU,eE,eM,fJ,fH,dQ,cH,cV,gX,gW,gV,eF,eG,eK,eJ,gY,dU,eH,fG,List.tail_cons,List.take_nil,List.drop_nil];refine hK1 _ ?_;(try clear hK1 K1);with_reducible refine aB ?_;simp (disch:=omega) only [push_cast,↓Int.cast_ofNat_Int,simprocAttr]
   refine hK _ ?_;clear hK K;refine zE ?_;refine zE ?_;refine zJ (fun K hK=>?_);simp (disch:=omega) only [push_cast,↓Int.cast_ofNat_Int,simprocAttr];refine hK _ ?_;clear hK K
   refine zA ?_;refine yC rfl ?_;refine zC ?_;refine zA ?_;refine zJ (fun K hK=>?_);simp (disch:=omega) only [push_cast,↓Int.cast_ofNat_Int,simprocAttr];refine hK _ ?_;clear hK K
   refine zB ?_;refine zA ?_;refine yB [0,1,6] [216] (by simp only [zZ,zR,zP,zQ,zN,zS,zM,zX,zU,Nat.reduceEqDiff,reduceIte];exact rfl) ?_
   refine lR 216 rfl (by simp only [lZ,jG,gM,iV,gJ,pN,jD,jE,gL,jC,jB,mA,jF,jA,lV,lW,lX,Nat.reduceEqDiff,reduceIte,List.map_cons,List.map_nil,List.map_append];exact rfl) ?_
   refine zJ (fun K hK=>?_);simp (disch:=omega) only [push_cast,↓Int.cast_ofNat_Int,simprocAttr];refine hK _ ?_;clear hK K
   refine zA ?_;exact ⟨(i + 1,true,u2),by simp only [zZ,zR,zP,zQ,zN,zS,zM,zX,zU,Nat.reduceEqDiff,reduceIte];try rfl,⟨hlt,fun _=>rfl,hput,hps,rfl⟩,by dsimp only;omega⟩
  ·have hz:decide (fP u p (k,d)=0)=false:=decide_eq_false he
   rw [qGj (x:=(r,p,k,d)) he];dsimp only;generalize fP u p (k,d)=er at *
   generalize iL u p (k,d)=u2 at c46;refine zD ?_;refine zE ?_;refine qAd 16 [(11,some 216)] [[],[(216,dT u2)]] [(12,1,1),(13,1,1),(14,1,1),(15,1,1)] mixed (by kernel_rfl) (by kernel_rfl) rfl (fun K hK K1 hK1=>?_);simp (disch:=omega) only [push_cast,↓Int.cast_ofNat_Int,simprocAttr,eD,dN,fE,eC,gT,pE,eB,dL,bR,cG,cU,bS,bT,gU,eE,eM,fJ,fH,dQ,cH,cV,gX,gW,gV,eF,eG,eK,eJ,gY,dU,eH,fG,List.tail_cons,List.take_nil,List.drop_nil,cW,gF,hg]
   refine zTh 216 zTx c46 (.cons (aL (yT _)) (.cons (.v _) (.cons (dE (n:=(k,d))) .nil))) (by simp only [aZ,aT,bV,bW,cY,bD,bC,bB,cX,List.map_cons,List.map_nil,Nat.reduceBEq,Nat.reduceEqDiff,reduceIte,cond_false,cond_true];try rfl) ?_
   simp (disch:=omega) only [push_cast,↓Int.cast_ofNat_Int,simprocAttr,eD,dN,fE,eC,gT,pE,eB,dL,bR,cG,cU,bS,bT,gU,eE,eM,fJ,fH,dQ,cH,cV,gX,gW,gV,eF,eG,eK,eJ,gY,dU,eH,fG,List.tail_cons,List.take_nil,List.drop_nil];refine hK1 _ ?_;(try clear hK1 K1);with_reducible refine aB ?_;simp (disch:=omega) only [push_cast,↓Int.cast_ofNat_Int,simprocAttr]
   refine hK _ ?_;clear hK K;refine zE ?_;refine zE ?_;refine zJ (fun K hK=>?_);simp (disch:=omega) only [push_cast,↓Int.cast_ofNat_Int,simprocAttr,hz];refine hK _ ?_;clear hK K
   refine zA ?_;refine yD rfl ?_;refine zE ?_;refine zJ (fun K hK=>?_);simp (disch:=omega) only [push_cast,↓Int.cast_ofNat_Int,simprocAttr];refine hK _ ?_;clear hK K
   refine eW 4 9000 67 3 rfl (by simp only [dX,fM,fN,bQ,aY,aZ,aT,cY,bD,cE,bC,bB,cM,bP,bN,aX,bV,bW,cJ,cX,dC,cD,Nat.reduceBEq,Nat.reduceEqDiff,reduceIte,cond_true,cond_false,List.map_cons,List.map_nil];exact rfl) ?_
   refine lR 9000 rfl (by simp only [lZ,jG,gM,iV,gJ,pN,jD,jE,gL,jC,jB,mA,jF,jA,lV,lW,lX,Nat.reduceEqDiff,reduceIte,List.map_cons,List.map_nil,List.map_append];exact rfl) ?_
   refine zW ?_;refine zK ?_;refine zL ?_;refine zK ?_;refine zK ?_;refine zL ?_;refine zK ?_;simp only [yA,yM,yH,yE,aA,aC,yK,yJ,zS,zM,Nat.reduceEqDiff,reduceIte,reduceCtorEq];exact zE0 (aP []) ⟨rfl,rfl⟩
 ·have hne:i=l.length:=by omega
  subst hne
  have hfr1:=hfr (fun h=>hne0 (List.eq_nil_of_length_eq_zero h))
  subst hfr1;rw [List.drop_length];refine zE ?_;refine zE ?_;refine zJ (fun K hK=>?_);simp (disch:=omega) only [push_cast,↓Int.cast_ofNat_Int,simprocAttr,cW];refine hK _ ?_;clear hK K
  refine zA ?_;refine yC rfl ?_;refine zT ?_;refine zG ?_;refine zG ?_;refine zH ?_;refine zE ?_;refine zJ (fun K hK=>?_);simp (disch:=omega) only [push_cast,↓Int.cast_ofNat_Int,simprocAttr];refine hK _ ?_;clear hK K
  refine zA ?_;refine zW ?_;simp only [yA,yM,yH,yE,aA,aC,yK,yJ,zS,zM,Nat.reduceEqDiff,reduceIte,reduceCtorEq];exact zE0 (aP _) ⟨rfl,rfl⟩
set_option maxHeartbeats 8000000 in
theorem zTa (v:Value):HFun Tryz.prog 22 [.v v,.lst false (eP [])] (fun h st=>h=.tup [.v v,.v (.int .i64 0)]∧st=[]):=by
 refine eX (N:=35) Tryz.func22 rfl Tryz.ntmps22 Tryz.results22 (by simp) ?_
 have h0:(eP []).length=0:=rfl
 refine zE ?_;refine zJ (fun K hK=>?_);simp (disch:=omega) only [push_cast,↓Int.cast_ofNat_Int,simprocAttr];refine hK _ ?_;clear hK K
 refine zE ?_;refine zE ?_;refine zJ (fun K hK=>?_);simp (disch:=omega) only [push_cast,↓Int.cast_ofNat_Int,simprocAttr];refine hK _ ?_;clear hK K
 refine zA ?_;refine zD ?_;refine cP (fun z:Nat=>⟨[(0,.v v),(1,.lst false (eP [])),(6,.v (.int .i64 0))],[]⟩) (fun z=>True) (fun z=>z) [0,1,6] [] 0 (by simp only [zZ,zR,zP,zQ,zN,zS,zM,zX,zU,Nat.reduceEqDiff,reduceIte];try rfl) trivial ?_
 intro z _;refine zE ?_;refine zE ?_;refine zJ (fun K hK=>?_);simp (disch:=omega) only [push_cast,↓Int.cast_ofNat_Int,simprocAttr,h0];refine hK _ ?_;clear hK K
 refine zA ?_;refine yC rfl ?_;refine zT ?_;refine zG ?_;refine zG ?_;refine zH ?_;refine zE ?_;refine zJ (fun K hK=>?_);simp (disch:=omega) only [push_cast,↓Int.cast_ofNat_Int,simprocAttr];refine hK _ ?_;clear hK K
 refine zA ?_;refine zW ?_;simp only [yA,yM,yH,yE,aA,aC,yK,yJ,zS,zM,Nat.reduceEqDiff,reduceIte,reduceCtorEq];exact qFt ⟨rfl,rfl⟩
end Go.Proofs.YtbdomkfdkfdfgaaGreatDoor
end
section
namespace Go.Proofs.YtbdomkfdkfdfgaaGreatDoor
open Go Go.Eng Go.RowKit Go.ChangeShapes Go.WideShapes Go.ChangeAt Go.Tr
theorem zM2 {b:Nat} {f:FV} (h:Fit (.sl b [.int .i64,.str,.int .i64,.str]) f):∃ t:List Tr.Act,f=.lst false (eP t)∧True:=by
 cases h with
|sl hb hl h =>
  rename_i xs
  have:∀ x ∈ xs,∃ e:Tr.Act,x=qWl e:=fun x hx=>by
   have h1:=hl x hx
   match x,h1 with
  |[f0,f1,f2,f3],_ =>
   have a:=h _ hx 0 (by simp) (by simp)
   have b:=h _ hx 1 (by simp) (by simp)
   have c:=h _ hx 2 (by simp) (by simp)
   have d:=h _ hx 3 (by simp) (by simp)
   simp only [List.getElem_cons_zero,List.getElem_cons_succ] at a b c d
   cases a;cases b;cases c;cases d
   exact ⟨(_,_,_,_),rfl⟩
  clear hb hl h
  induction xs with
 |nil=>exact ⟨[],rfl,trivial⟩
 |cons x r ih =>
   obtain ⟨e,rfl⟩:=this x (by simp)
   obtain ⟨t,ht,-⟩:=ih (fun y hy=>this y (by simp [hy]))
   simp only [FV.lst.injEq,true_and] at ht;exact ⟨e :: t,by rw [ht];rfl,trivial⟩
theorem zP9 (l:List Tr.Act):l.length≤fw (.lst false (eP l))∧∀ x ∈ l,x.2.1.size≤fw (.lst false (eP l)):=by
 rw [zCj]
 have:∀ l:List Tr.Act,l.length≤((eP l).map fws).sum∧∀ x ∈ l,x.2.1.size≤((eP l).map fws).sum:=by
  intro l
  induction l with
 |nil=>exact ⟨Nat.le_refl _,by simp⟩
 |cons x r ih =>
   have e1:((eP (x :: r)).map fws).sum=fws (qWl x) + ((eP r).map fws).sum:=by simp [eP]
   have e2:x.2.1.size + 1≤fws (qWl x):=by simp [fws,qWl,zMc];omega
   rw [e1];refine ⟨by simp only [List.length_cons];omega,fun e he=>?_⟩
   rcases List.mem_cons.1 he with rfl|he
   ·omega
   ·have:=ih.2 e he;omega
 obtain ⟨h1,h2⟩:=this l;exact ⟨by omega,fun e he=>by have:=h2 e he;omega⟩
end Go.Proofs.YtbdomkfdkfdfgaaGreatDoor
end
