/-
  Whether a root can take steps: plan.Fits, the document's Fits.
-/
import Derived.Test.YtbdomkfdkfdfgaaGreatDoorPau
import Derived.Test.YtbdomkfdkfdfgaaGreatDoorTsC
import Derived.Test.YtbdomkfdkfdfgaaGreatDoorPaE
import Derived.Test.YtbdomkfdkfdfgaaGreatDoorChn
set_option linter.unusedSimpArgs false
set_option linter.unusedVariables false
set_option maxRecDepth 20000
namespace Go.Tr
open Go Go.Eng Go.RowKit Go.Dk
def qZf (M:MTab) (t:List Ent):Prop:=∀ q:ByteArray,qS6 (M q.data.toList) (.int .i64 0) false=.v (.int .i64 (((aN t q).2.size:Nat):Int))
theorem zFd {M:MTab} {t u:List Ent} {p:ByteArray} {s:Nat} (h:qZf M t) (hg:∀ q,((aN u q).2.size)=if q=p then s else (aN t q).2.size):qZf (M.put p.data.toList (.int .i64 (s:Int))) u:=fun q=>by
 rw [hg q]
 by_cases e:q=p
 ·subst e;rw [if_pos rfl];simp [MTab.put,qS6];rfl
 ·rw [if_neg e,← h q]
  have:q.data.toList≠p.data.toList:=fun z=>e (tFt z)
  simp [MTab.put,this]
theorem zP6:qZf (fun _=>none) []:=fun q=>rfl
theorem zH8 {a:List Ent} {e:Ent} (h:aU a e.1=false) (q:ByteArray):aN (a ++ [e]) q=if q=e.1 then e.2 else aN a q:=by
 rw [qF6]
 by_cases e1:q=e.1
 ·subst e1;rw [h,if_neg (by decide),if_pos rfl]
  simp [aN]
 ·rw [if_neg e1]
  cases ht:aU a q with
 |true=>rw [if_pos rfl]
 |false =>
   rw [if_neg (by decide)]
   have h1:aN a q=mF:=Decidable.byContradiction fun z=>by rw [vM z] at ht;cases ht
   rw [h1];simp [aN,Ne.symm e1]
theorem zA6 {t:List Ent} (h:rise t) {i:Nat} (hi:i < t.length):aU (t.take i) t[i].1=false:=by
 cases hc:aU (t.take i) t[i].1 with
|false=>rfl
|true =>
  obtain ⟨e,he,hee⟩:=kE.1 hc
  have hr:rise (t.take (i + 1)):=List.Pairwise.sublist (List.take_sublist _ _) h
  rw [List.take_succ_eq_append_getElem hi] at hr
  have:=(List.pairwise_append.1 hr).2.2 e he t[i] (by simp)
  rw [hee,fD] at this
  cases this
theorem AllG.drop {R:List Ent→Prop} {N:List Ent} {x:Act} {r:List Act} {t:List Ent} (h:AllG R N (x :: r) t):fP t x.2.1 x.2.2=0∧AllG R N r (iL t x.2.1 x.2.2):=h.2
theorem mH {n:Int × ByteArray} (h:fY n=true):n.2.size≤4096:=by
 unfold fY at h;split at h
 ·exact of_decide_eq_true h
 ·simp only [Bool.and_eq_true,decide_eq_true_eq] at h;omega
theorem vL {t:List Ent} (h:Tree t):cZ t≤819200:=by
 have:∀ l:List Ent,(∀ e ∈ l,e ∈ t)→cZ l≤l.length * 4096:=by
  intro l
  induction l with
 |nil=>intro _;simp [cZ]
 |cons x r ih =>
   intro hl
   have h1:=ih fun e he=>hl e (by simp [he])
   have h2:=mH (h.each x (hl x (by simp))).2.1
   have h3:cZ (x :: r)=x.2.2.size + cZ r:=by simp [cZ]
   rw [h3,List.length_cons];omega
 have h1:=this t fun e he=>he
 have h2:=h.len
 omega
end Go.Tr
namespace Go.Proofs.YtbdomkfdkfdfgaaGreatDoor
open Go Go.Eng Go.RowKit Go.Tr Go.Dk Go.Rc
set_option maxHeartbeats 8000000 in
theorem zTm (t:List Ent) (l:List Tr.Act) (fA:Int) {R:List Ent→Prop} {N:List Ent} (hT:Tree t) (hall:AllG R N l t) (hs:∀ e ∈ t,e.1.size≤1048576) (hl:l.length≤1048576) (hp:∀ x ∈ l,x.2.1.size≤1048576) :
  HFun Tryz.prog 27 [.lst false (aG t),.lst false (eP l),.v (.int .i64 fA)] (fun h st=>h=.v (.bool (pV fA l t))):=by
 refine eX (N:=68) Tryz.func27 rfl Tryz.ntmps27 Tryz.results27 (by simp) ?_
 have cs:=zS6 t (by have:=hT.len;omega) (fun e he=>Nat.le_trans (mH (hT.each e he).2.1) (by decide))
 have hts:=vL hT
 have htl:=hT.len
 refine zE ?_;refine zJ (fun K hK=>?_);simp (disch:=omega) only [push_cast,↓Int.cast_ofNat_Int,simprocAttr];refine hK _ ?_;clear hK K
 refine zE ?_;refine zJ (fun K hK=>?_);simp (disch:=omega) only [push_cast,↓Int.cast_ofNat_Int,simprocAttr]
 refine bE zXk cs (.cons (aL (yT _)) .nil) ?_;with_reducible refine aB ?_;simp (disch:=omega) only [push_cast,↓Int.cast_ofNat_Int,simprocAttr]
 refine hK _ ?_;clear hK K;refine zNz ?_;refine aR ?_;refine qAe ?_;refine zAy (cp:=none) rfl rfl rfl kS fun r=>?_
 refine kQ 1 (fun K1 hK1=>?_);simp (disch:=omega) only [push_cast,↓Int.cast_ofNat_Int,simprocAttr,jZ,iP];refine hK1 _ ?_;(try clear hK1 K1)
 refine uV ?_;refine aR ?_;refine aR ?_;refine aS (fun K hK=>?_);simp (disch:=omega) only [push_cast,↓Int.cast_ofNat_Int,simprocAttr,yV];refine hK _ ?_;clear hK K
 refine nR [1,2,7,8,17,18,19] [] (by simp only [zZ,zR,zP,zQ,zN,zS,zM,zX,zU,Nat.reduceEqDiff,reduceIte];exact rfl) ?_
 refine jQ ?_;refine qB6 (ι:=Nat × Nat × MTab) (fun q=>⟨[(1,.lst false (eP l)),(2,.v (.int .i64 fA)),(7,.v (.int .i64 (cZ t:Nat))),(8,.v (.map (some r))),(17,.lst false (aG t)),(18,.v (.int .i64 t.length)),(19,.v (.int .i64 (q.1:Int)))],[]⟩)
  (fun q=>[.map r kS q.2.1 q.2.2]) (fun q=>q.1≤t.length∧q.2.1≤q.1∧qZf q.2.2 (t.take q.1)) (fun q=>t.length - q.1) [1,2,7,8,17,18,19] [] (0,0,fun _=>none) (by simp only [zZ,zR,zP,zQ,zN,zS,zM,zX,zU,Nat.reduceEqDiff,reduceIte];rfl) rfl
  ⟨Nat.zero_le _,Nat.le_refl _,zP6⟩ ?_
 rintro ⟨i,n,M⟩ ⟨hi,hn,hM⟩;dsimp only at hi hn hM ⊢
 by_cases hlt:i < t.length
 ·have hg:=yW hlt (d:=[])
  have hth:=zA6 hT.ri hlt
  have htk:t.take (i + 1)=t.take i ++ [t[i]]:=List.take_succ_eq_append_getElem hlt
  have hes:=hs _ (List.getElem_mem hlt)
  have hgs:∀ q,(aN (t.take (i + 1)) q).2.size=if q=t[i].1 then t[i].2.2.size else (aN (t.take i) q).2.size:=fun q=>by
   rw [htk,zH8 hth];split <;> rfl
  have hds:=mH (hT.each _ (List.getElem_mem hlt)).2.1
  generalize t[i]=e at *
  obtain ⟨p,k,d⟩:=e;dsimp only at hgs hes hds
  have hM2:=zFd hM hgs
  refine aR ?_;refine aS (fun K hK=>?_);simp (disch:=omega) only [push_cast,↓Int.cast_ofNat_Int,simprocAttr];refine hK _ ?_;clear hK K
  refine aR ?_;refine pH rfl ?_;refine kC ?_;refine aR ?_;refine jQ ?_;refine aR ?_;refine aS (fun K hK=>?_);simp (disch:=omega) only [push_cast,↓Int.cast_ofNat_Int,simprocAttr,yV,yU,hg];refine hK _ ?_;clear hK K
  refine aV ?_;refine qAe ?_;refine kQ 7 (fun K1 hK1=>?_);simp (disch:=omega) only [push_cast,↓Int.cast_ofNat_Int,simprocAttr];refine hK1 _ ?_;(try clear hK1 K1)
  have hmx:n < maxLen:=by simp only [maxLen];omega
  refine qWn (i:=0) mtL rfl rfl rfl rfl (hmx) rfl rfl (mx hes) rfl rfl ?_;refine kQ 0 (fun K1 hK1=>?_);simp (disch:=omega) only [push_cast,↓Int.cast_ofNat_Int,simprocAttr,jZ,iP];refine hK1 _ ?_;(try clear hK1 K1)
  refine uV ?_;refine iC ?_;refine aV ?_;refine aS (fun K hK=>?_);simp (disch:=omega) only [push_cast,↓Int.cast_ofNat_Int,simprocAttr];refine hK _ ?_;clear hK K
  refine aV ?_;exact ⟨(i + 1,n + 1,M.put p.data.toList (.int .i64 (d.size:Nat))),by simp only [zZ,zR,zP,zQ,zN,zS,zM,zX,zU,Nat.reduceEqDiff,reduceIte];rfl,rfl,⟨hlt,by dsimp only;omega,hM2⟩,by dsimp only;omega⟩
 ·have hne:i=t.length:=by omega
  subst hne;rw [List.take_length] at hM;refine aR ?_;refine aS (fun K hK=>?_);simp (disch:=omega) only [push_cast,↓Int.cast_ofNat_Int,simprocAttr];refine hK _ ?_;clear hK K
  refine aR ?_;refine iM rfl ?_;refine qB7 ?_;refine lC ?_;refine lC ?_;refine qBh ?_;refine aR ?_;refine aR ?_;refine aS (fun K hK=>?_);simp (disch:=omega) only [push_cast,↓Int.cast_ofNat_Int,simprocAttr,cW];refine hK _ ?_;clear hK K
  refine nR [2,7,8,31,32,33] [] (by simp only [zZ,zR,zP,zQ,zN,zS,zM,zX,zU,Nat.reduceEqDiff,reduceIte];exact rfl) ?_
  refine jQ ?_;refine qB6 (ι:=Nat × Nat × MTab × List Ent) (fun q=>⟨[(2,.v (.int .i64 fA)),(7,.v (.int .i64 (cZ q.2.2.2:Nat))),(8,.v (.map (some r))),(31,.lst false (eP l)),(32,.v (.int .i64 l.length)),(33,.v (.int .i64 (q.1:Int)))],[]⟩)
   (fun q=>[.map r kS q.2.1 q.2.2.1]) (fun q=>q.1≤l.length∧q.2.1≤t.length + q.1∧Tree q.2.2.2∧AllG R N (l.drop q.1) q.2.2.2∧qZf q.2.2.1 q.2.2.2∧pV fA l t=pV fA (l.drop q.1) q.2.2.2) (fun q=>l.length - q.1) [2,7,8,31,32,33] [] (0,n,M,t) (by simp only [zZ,zR,zP,zQ,zN,zS,zM,zX,zU,Nat.reduceEqDiff,reduceIte];rfl) rfl
   ⟨Nat.zero_le _,hn,hT,hall,hM,rfl⟩ ?_
  rintro ⟨i,n,M,u⟩ ⟨hi,hn,hU,hA,hM,hq⟩;dsimp only at hi hn hU hA hM hq ⊢;rw [hq]
  by_cases hlt2:i < l.length
  ·have hd:l.drop i=l[i] :: l.drop (i + 1):=List.drop_eq_getElem_cons hlt2
   have hsz:=hp _ (List.getElem_mem hlt2)
   have hg:=@xJ l i [] hlt2
   rw [hd] at hA ⊢;generalize l[i]=x at *
   obtain ⟨ro,p,k,d⟩:=x;obtain ⟨hE,hA2⟩:=hA.drop;dsimp only at hE hA2 hsz
   have hds:=mH ((hU.putI p (k,d)).1 hE).2.1
   have hps:=hU.put_size hE
   have hU2:=hU.put hE
   have hus:=vL hU
   have hus2:=vL hU2
   have hM2:=zFd (p:=p) (s:=d.size) (u:=iL u p (k,d)) hM fun q=>by rw [hU.put_get hE];split <;> rfl
   have hlk:=hM p
   dsimp only at hds hps;obtain ⟨u2,hu2⟩:∃ u2,iL u p (k,d)=u2:=⟨_,rfl⟩;obtain ⟨s0,hs0⟩:∃ s0,(aN u p).2.size=s0:=⟨_,rfl⟩
   have hF:pV fA ((ro,p,k,d) :: l.drop (i + 1)) u=if 0 < fA∧cZ u < cZ u2∧fA < (cZ u2:Int) then false else pV fA (l.drop (i + 1)) u2:=by rw [pV,← hu2]
   rw [hu2] at hA2 hps hU2 hus2 hM2;rw [hs0] at hlk hps
   have w1:IntKind.i64.wrap ((d.size:Int) - (s0:Int))=(d.size:Int) - (s0:Int):=by rw [IntKind.wrap_i64];omega
   have w2:IntKind.i64.wrap ((cZ u:Int) + ((d.size:Int) - (s0:Int)))=(cZ u2:Int):=by rw [IntKind.wrap_i64];omega
   rw [hF];refine aR ?_;refine aS (fun K hK=>?_);simp (disch:=omega) only [push_cast,↓Int.cast_ofNat_Int,simprocAttr];refine hK _ ?_;clear hK K
   refine aR ?_;refine pH rfl ?_;refine kC ?_;refine aR ?_;refine jQ ?_;refine aR ?_;refine aS (fun K hK=>?_);simp (disch:=omega) only [push_cast,↓Int.cast_ofNat_Int,simprocAttr,cW,gF,hg];refine hK _ ?_;clear hK K
   refine aR ?_;refine qAe ?_;refine kQ 7 (fun K1 hK1=>?_);simp (disch:=omega) only [push_cast,↓Int.cast_ofNat_Int,simprocAttr];refine hK1 _ ?_;(try clear hK1 K1)
   refine zAz (i:=0) mtL rfl rfl rfl rfl rfl rfl (mx hsz) ?_;rw [hlk];refine kQ 2 (fun K1 hK1=>?_);simp (disch:=omega) only [push_cast,↓Int.cast_ofNat_Int,simprocAttr,jZ,iP,w1];refine hK1 _ ?_;(try clear hK1 K1)
   refine uV ?_;refine aR ?_;refine aS (fun K hK=>?_);simp (disch:=omega) only [push_cast,↓Int.cast_ofNat_Int,simprocAttr,w2];refine hK _ ?_;clear hK K
   refine aR ?_;refine qAe ?_;refine kQ 7 (fun K1 hK1=>?_);simp (disch:=omega) only [push_cast,↓Int.cast_ofNat_Int,simprocAttr];refine hK1 _ ?_;(try clear hK1 K1)
   have hmx:n < maxLen:=by simp only [maxLen];omega
   refine qWn (i:=0) mtL rfl rfl rfl rfl (hmx) rfl rfl (mx hsz) rfl rfl ?_;refine kQ 0 (fun K1 hK1=>?_);simp (disch:=omega) only [push_cast,↓Int.cast_ofNat_Int,simprocAttr,jZ,iP];refine hK1 _ ?_;(try clear hK1 K1)
   refine uV ?_;refine aR ?_
   by_cases hc:0 < fA∧cZ u < cZ u2∧fA < (cZ u2:Int)
   ·rw [if_pos hc];obtain ⟨k1,k2,k3⟩:=hc
    have q1:decide ((0:Int) < fA)=true:=decide_eq_true k1
    have q2:decide ((0:Int) < (d.size:Int) - (s0:Int))=true:=decide_eq_true (by omega)
    have q3:decide (fA < (cZ u2:Int))=true:=decide_eq_true k3
    refine aS (fun K hK=>?_);simp (disch:=omega) only [push_cast,↓Int.cast_ofNat_Int,simprocAttr,q1,q2,q3];refine hK _ ?_;clear hK K
    refine pH rfl ?_;refine aR ?_;refine aS (fun K hK=>?_);simp (disch:=omega) only [push_cast,↓Int.cast_ofNat_Int,simprocAttr];refine hK _ ?_;clear hK K
    refine aV ?_;refine zGr ?_;refine zEj ?_;refine qV1 ?_;refine qV1 ?_;refine zEj ?_;refine qV1 ?_;simp only [yA,yM,yH,yE,aA,aC,yK,yJ,zS,zM,Nat.reduceEqDiff,reduceIte,reduceCtorEq];exact aJ rfl
   ·rw [if_neg hc]
    by_cases k1:0 < fA
    ·have q1:decide ((0:Int) < fA)=true:=decide_eq_true k1
     by_cases k2:(0:Int) < (d.size:Int) - (s0:Int)
     ·have q2:decide ((0:Int) < (d.size:Int) - (s0:Int))=true:=decide_eq_true k2
      have q3:decide (fA < (cZ u2:Int))=false:=decide_eq_false fun z=>hc ⟨k1,by omega,z⟩
      refine aS (fun K hK=>?_);simp (disch:=omega) only [push_cast,↓Int.cast_ofNat_Int,simprocAttr,q1,q2,q3];refine hK _ ?_;clear hK K
      refine iM rfl ?_;refine kC ?_;refine iC ?_;refine aV ?_;refine aS (fun K hK=>?_);simp (disch:=omega) only [push_cast,↓Int.cast_ofNat_Int,simprocAttr];refine hK _ ?_;clear hK K
      refine aV ?_;exact ⟨(i + 1,n + 1,M.put p.data.toList (.int .i64 (d.size:Nat)),u2),by simp only [zZ,zR,zP,zQ,zN,zS,zM,zX,zU,Nat.reduceEqDiff,reduceIte];rfl,rfl,⟨hlt2,by dsimp only;omega,hU2,hA2,hM2,rfl⟩,by dsimp only;omega⟩
     ·have q2:decide ((0:Int) < (d.size:Int) - (s0:Int))=false:=decide_eq_false k2
      refine aS (fun K hK=>?_);simp (disch:=omega) only [push_cast,↓Int.cast_ofNat_Int,simprocAttr,q1,q2];refine hK _ ?_;clear hK K
      refine iM rfl ?_;refine kC ?_;refine iC ?_;refine aV ?_;refine aS (fun K hK=>?_);simp (disch:=omega) only [push_cast,↓Int.cast_ofNat_Int,simprocAttr];refine hK _ ?_;clear hK K
      refine aV ?_;exact ⟨(i + 1,n + 1,M.put p.data.toList (.int .i64 (d.size:Nat)),u2),by simp only [zZ,zR,zP,zQ,zN,zS,zM,zX,zU,Nat.reduceEqDiff,reduceIte];rfl,rfl,⟨hlt2,by dsimp only;omega,hU2,hA2,hM2,rfl⟩,by dsimp only;omega⟩
    ·have q1:decide ((0:Int) < fA)=false:=decide_eq_false k1
     refine aS (fun K hK=>?_);simp (disch:=omega) only [push_cast,↓Int.cast_ofNat_Int,simprocAttr,q1];refine hK _ ?_;clear hK K
     refine iM rfl ?_;refine kC ?_;refine iC ?_;refine aV ?_;refine aS (fun K hK=>?_);simp (disch:=omega) only [push_cast,↓Int.cast_ofNat_Int,simprocAttr];refine hK _ ?_;clear hK K
     refine aV ?_;exact ⟨(i + 1,n + 1,M.put p.data.toList (.int .i64 (d.size:Nat)),u2),by simp only [zZ,zR,zP,zQ,zN,zS,zM,zX,zU,Nat.reduceEqDiff,reduceIte];rfl,rfl,⟨hlt2,by dsimp only;omega,hU2,hA2,hM2,rfl⟩,by dsimp only;omega⟩
  ·have hne:i=l.length:=by omega
   subst hne;rw [List.drop_length];refine aR ?_;refine aS (fun K hK=>?_);simp (disch:=omega) only [push_cast,↓Int.cast_ofNat_Int,simprocAttr];refine hK _ ?_;clear hK K
   refine aR ?_;refine iM rfl ?_;refine qB7 ?_;refine lC ?_;refine lC ?_;refine qBh ?_;refine aR ?_;refine aS (fun K hK=>?_);simp (disch:=omega) only [push_cast,↓Int.cast_ofNat_Int,simprocAttr];refine hK _ ?_;clear hK K
   refine aV ?_;refine zGr ?_;simp only [yA,yM,yH,yE,aA,aC,yK,yJ,zS,zM,Nat.reduceEqDiff,reduceIte,reduceCtorEq];exact aJ rfl
theorem qQd {fA:Int} (h:¬ 0 < fA):∀ (l:List Tr.Act) (t:List Ent),pV fA l t=true
|[],_=>rfl
|x :: r,t=>by rw [pV,if_neg (fun z=>h z.1)];exact qQd h r _
set_option maxHeartbeats 8000000 in
theorem zPo (t:List Ent) (l:List Tr.Act) (fA:Int) {R:List Ent→Prop} {N:List Ent} (hT:Tree t) (hall:AllG R N l t) (hs:∀ e ∈ t,e.1.size≤1048576) (hl:l.length≤1048576) (hp:∀ x ∈ l,x.2.1.size≤1048576) :
  HFun Tryz.prog 28 [.lst false (aG t),.lst false (eP l),.v (.int .i64 fA)] (fun h st=>h=.v (.bool (pV fA l t))):=by
 refine eX (N:=45) Tryz.func28 rfl Tryz.ntmps28 Tryz.results28 (by simp) ?_
 refine zE ?_;refine zJ (fun K hK=>?_);simp (disch:=omega) only [push_cast,↓Int.cast_ofNat_Int,simprocAttr];refine hK _ ?_;clear hK K
 by_cases hz:0 < fA
 ·have q0:decide (fA≤0)=false:=decide_eq_false (by omega)
  refine zE ?_;refine zE ?_;refine zJ (fun K hK=>?_);simp (disch:=omega) only [push_cast,↓Int.cast_ofNat_Int,simprocAttr,q0];refine hK _ ?_;clear hK K
  refine yC rfl ?_;refine zC ?_;refine zE ?_;refine zE ?_;refine zJ (fun K hK=>?_);simp (disch:=omega) only [push_cast,↓Int.cast_ofNat_Int,simprocAttr];refine hK _ ?_;clear hK K
  refine zA ?_;refine zD ?_;refine cP (fun z:Nat × Bool × List Ent=>⟨[(0,.lst z.2.1 (aG z.2.2)),(1,.lst false (eP l)),(2,.v (.int .i64 fA)),(7,.v (.int .i64 z.1))],[]⟩) (fun z=>z.1≤l.length∧Tree z.2.2∧AllG R N (l.drop z.1) z.2.2∧(∀ e ∈ z.2.2,e.1.size≤1048576)∧pV fA l t=pV fA (l.drop z.1) z.2.2) (fun z=>l.length - z.1) [0,1,2,7] [] (0,false,t) (by simp only [zZ,zR,zP,zQ,zN,zS,zM,zX,zU,Nat.reduceEqDiff,reduceIte];rfl) ⟨Nat.zero_le _,hT,hall,hs,rfl⟩ ?_
  rintro ⟨i,fr,u⟩ ⟨hi,hU,hA,hus,hq⟩;simp only at hi hU hA hus hq;rw [hq]
  by_cases hlt:i < l.length
  ·have hd:l.drop i=l[i] :: l.drop (i + 1):=List.drop_eq_getElem_cons hlt
   have hsz:=hp _ (List.getElem_mem hlt)
   have hg:=@xJ l i [] hlt
   rw [hd] at hA ⊢;generalize l[i]=x at *
   obtain ⟨ro,p,k,d⟩:=x;obtain ⟨hE,hA2⟩:=hA.drop;dsimp only at hE hA2 hsz
   have hU2:=hU.put hE
   have hus2:=qKr (n:=(k,d)) hus hsz
   have c46:=zJ8 u p (k,d) (qDs hU.okT p) (by have:=hU.len;omega) hsz hus
   rw [zDi hU.ri,hE] at c46;obtain ⟨u2,hu2⟩:∃ u2,iL u p (k,d)=u2:=⟨_,rfl⟩
   have hF:pV fA ((ro,p,k,d) :: l.drop (i + 1)) u=if 0 < fA∧cZ u < cZ u2∧fA < (cZ u2:Int) then false else pV fA (l.drop (i + 1)) u2:=by rw [pV,← hu2]
   rw [hu2] at hA2 hU2 hus2 c46
   have s1:=zDe u (by have:=hU.len;omega) (fun e he=>Nat.le_trans (mH (hU.each e he).2.1) (by decide))
   have s2:=zDe u2 (by have:=hU2.len;omega) (fun e he=>Nat.le_trans (mH (hU2.each e he).2.1) (by decide))
   have b1:=vL hU
   have b2:=vL hU2
   rw [hF];generalize cZ u=a1 at *
   generalize cZ u2=a2 at *
   refine zE ?_;refine zE ?_;refine zJ (fun K hK=>?_);simp (disch:=omega) only [push_cast,↓Int.cast_ofNat_Int,simprocAttr,cW];refine hK _ ?_;clear hK K
   refine zA ?_;refine yD rfl ?_;refine zC ?_;refine zE ?_;refine zD ?_;refine zE ?_;refine qAd 16 [(11,some 240)] [[],[(240,dT u2)]] [(12,1,1),(13,1,1),(14,1,1),(15,1,1)] mixed (by kernel_rfl) (by kernel_rfl) rfl (fun K hK K1 hK1=>?_);simp (disch:=omega) only [push_cast,↓Int.cast_ofNat_Int,simprocAttr,eD,dN,fE,eC,gT,pE,eB,dL,bR,cG,cU,bS,bT,gU,eE,eM,fJ,fH,dQ,cH,cV,gX,gW,gV,eF,eG,eK,eJ,gY,dU,eH,fG,List.tail_cons,List.take_nil,List.drop_nil,cW,gF,hg]
   refine zTh 240 zTx c46 (.cons (aL (yT _)) (.cons (.v _) (.cons (dE (n:=(k,d))) .nil))) (by simp only [aZ,aT,bV,bW,cY,bD,bC,bB,cX,List.map_cons,List.map_nil,Nat.reduceBEq,Nat.reduceEqDiff,reduceIte,cond_false,cond_true];try rfl) ?_
   simp (disch:=omega) only [push_cast,↓Int.cast_ofNat_Int,simprocAttr,eD,dN,fE,eC,gT,pE,eB,dL,bR,cG,cU,bS,bT,gU,eE,eM,fJ,fH,dQ,cH,cV,gX,gW,gV,eF,eG,eK,eJ,gY,dU,eH,fG,List.tail_cons,List.take_nil,List.drop_nil];refine hK1 _ ?_;(try clear hK1 K1);with_reducible refine aB ?_;simp (disch:=omega) only [push_cast,↓Int.cast_ofNat_Int,simprocAttr]
   refine hK _ ?_;clear hK K;refine zE ?_;refine zE ?_;refine yB [0,1,2,7,8] [240] (by simp only [zZ,zR,zP,zQ,zN,zS,zM,zX,zU,Nat.reduceEqDiff,reduceIte];exact rfl) ?_
   by_cases hc:a1 < a2
   ·have q1:decide ((a1:Int) < (a2:Int))=true:=decide_eq_true (by omega)
    by_cases hr:fA < (a2:Int)
    ·have q2:decide (fA < (a2:Int))=true:=decide_eq_true hr
     rw [if_pos ⟨hz,hc,hr⟩];refine zJ (fun K hK=>?_);simp (disch:=omega) only [push_cast,↓Int.cast_ofNat_Int,simprocAttr,q1,q2]
     refine bE zAj s2 (.cons (gD (yT _) rfl) .nil) ?_;with_reducible refine aB ?_;simp (disch:=omega) only [push_cast,↓Int.cast_ofNat_Int,simprocAttr,q1,q2]
     refine bE zAj s1 (.cons (aL (yT _)) .nil) ?_;with_reducible refine aB ?_;simp (disch:=omega) only [push_cast,↓Int.cast_ofNat_Int,simprocAttr,q1,q2]
     refine bE zAj s2 (.cons (gD (yT _) rfl) .nil) ?_;with_reducible refine aB ?_;simp (disch:=omega) only [push_cast,↓Int.cast_ofNat_Int,simprocAttr,q1,q2]
     refine hK _ ?_;clear hK K;refine yD rfl ?_;refine zE ?_;refine zJ (fun K hK=>?_);simp (disch:=omega) only [push_cast,↓Int.cast_ofNat_Int,simprocAttr];refine hK _ ?_;clear hK K
     refine zA ?_;refine zW ?_;refine zK ?_;refine zL ?_;refine zK ?_;refine zK ?_;refine zL ?_;refine zK ?_;simp only [yA,yM,yH,yE,aA,aC,yK,yJ,zS,zM,Nat.reduceEqDiff,reduceIte,reduceCtorEq];exact aJ rfl
    ·have q2:decide (fA < (a2:Int))=false:=decide_eq_false hr
     rw [if_neg (fun z=>hr z.2.2)]
     refine zJ (fun K hK=>?_);simp (disch:=omega) only [push_cast,↓Int.cast_ofNat_Int,simprocAttr,q1,q2]
     refine bE zAj s2 (.cons (gD (yT _) rfl) .nil) ?_;with_reducible refine aB ?_;simp (disch:=omega) only [push_cast,↓Int.cast_ofNat_Int,simprocAttr,q1,q2]
     refine bE zAj s1 (.cons (aL (yT _)) .nil) ?_;with_reducible refine aB ?_;simp (disch:=omega) only [push_cast,↓Int.cast_ofNat_Int,simprocAttr,q1,q2]
     refine bE zAj s2 (.cons (gD (yT _) rfl) .nil) ?_;with_reducible refine aB ?_;simp (disch:=omega) only [push_cast,↓Int.cast_ofNat_Int,simprocAttr,q1,q2]
     refine hK _ ?_;clear hK K;refine yC rfl ?_;refine zC ?_;refine zA ?_;refine yB [1,2,7,8] [240] (by simp only [zZ,zR,zP,zQ,zN,zS,zM,zX,zU,Nat.reduceEqDiff,reduceIte];exact rfl) ?_
     refine lR 240 rfl (by simp only [lZ,jG,gM,iV,gJ,pN,jD,jE,gL,jC,jB,mA,jF,jA,lV,lW,lX,Nat.reduceEqDiff,reduceIte,List.map_cons,List.map_nil,List.map_append];exact rfl) ?_
     refine zJ (fun K hK=>?_);simp (disch:=omega) only [push_cast,↓Int.cast_ofNat_Int,simprocAttr];refine hK _ ?_;clear hK K
     refine zB ?_;refine zA ?_;refine zJ (fun K hK=>?_);simp (disch:=omega) only [push_cast,↓Int.cast_ofNat_Int,simprocAttr];refine hK _ ?_;clear hK K
     refine zA ?_;exact ⟨(i + 1,true,u2),by simp only [zZ,zR,zP,zQ,zN,zS,zM,zX,zU,Nat.reduceEqDiff,reduceIte];rfl,⟨hlt,hU2,hA2,hus2,rfl⟩,by dsimp only;omega⟩
   ·have q1:decide ((a1:Int) < (a2:Int))=false:=decide_eq_false (by omega)
    rw [if_neg (fun z=>hc z.2.1)]
    refine zJ (fun K hK=>?_);simp (disch:=omega) only [push_cast,↓Int.cast_ofNat_Int,simprocAttr,q1]
    refine bE zAj s2 (.cons (gD (yT _) rfl) .nil) ?_;with_reducible refine aB ?_;simp (disch:=omega) only [push_cast,↓Int.cast_ofNat_Int,simprocAttr,q1]
    refine bE zAj s1 (.cons (aL (yT _)) .nil) ?_;with_reducible refine aB ?_;simp (disch:=omega) only [push_cast,↓Int.cast_ofNat_Int,simprocAttr,q1]
    refine hK _ ?_;clear hK K;refine yC rfl ?_;refine zC ?_;refine zA ?_;refine yB [1,2,7,8] [240] (by simp only [zZ,zR,zP,zQ,zN,zS,zM,zX,zU,Nat.reduceEqDiff,reduceIte];exact rfl) ?_
    refine lR 240 rfl (by simp only [lZ,jG,gM,iV,gJ,pN,jD,jE,gL,jC,jB,mA,jF,jA,lV,lW,lX,Nat.reduceEqDiff,reduceIte,List.map_cons,List.map_nil,List.map_append];exact rfl) ?_
    refine zJ (fun K hK=>?_);simp (disch:=omega) only [push_cast,↓Int.cast_ofNat_Int,simprocAttr];refine hK _ ?_;clear hK K
    refine zB ?_;refine zA ?_;refine zJ (fun K hK=>?_);simp (disch:=omega) only [push_cast,↓Int.cast_ofNat_Int,simprocAttr];refine hK _ ?_;clear hK K
    refine zA ?_;exact ⟨(i + 1,true,u2),by simp only [zZ,zR,zP,zQ,zN,zS,zM,zX,zU,Nat.reduceEqDiff,reduceIte];rfl,⟨hlt,hU2,hA2,hus2,rfl⟩,by dsimp only;omega⟩
  ·have hne:i=l.length:=by omega
   subst hne;rw [List.drop_length];refine zE ?_;refine zE ?_;refine zJ (fun K hK=>?_);simp (disch:=omega) only [push_cast,↓Int.cast_ofNat_Int,simprocAttr,cW];refine hK _ ?_;clear hK K
   refine zA ?_;refine yC rfl ?_;refine zT ?_;refine zG ?_;refine zG ?_;refine zH ?_;refine zE ?_;refine zJ (fun K hK=>?_);simp (disch:=omega) only [push_cast,↓Int.cast_ofNat_Int,simprocAttr];refine hK _ ?_;clear hK K
   refine zA ?_;refine zW ?_;simp only [yA,yM,yH,yE,aA,aC,yK,yJ,zS,zM,Nat.reduceEqDiff,reduceIte,reduceCtorEq];exact aJ rfl
 ·rw [qQd hz]
  have q0:decide (fA≤0)=true:=decide_eq_true (by omega)
  refine zE ?_;refine zE ?_;refine zJ (fun K hK=>?_);simp (disch:=omega) only [push_cast,↓Int.cast_ofNat_Int,simprocAttr,q0];refine hK _ ?_;clear hK K
  refine yD rfl ?_;refine zE ?_;refine zJ (fun K hK=>?_);simp (disch:=omega) only [push_cast,↓Int.cast_ofNat_Int,simprocAttr];refine hK _ ?_;clear hK K
  refine zA ?_;refine zW ?_;refine zK ?_;simp only [yA,yM,yH,yE,aA,aC,yK,yJ,zS,zM,Nat.reduceEqDiff,reduceIte,reduceCtorEq];exact aJ rfl
end Go.Proofs.YtbdomkfdkfdfgaaGreatDoor
