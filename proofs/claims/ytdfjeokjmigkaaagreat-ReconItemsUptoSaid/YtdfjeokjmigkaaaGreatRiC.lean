/-
  ReconItems: what is said of every three trees; what is handed in rJ; new memory: the law walked.
-/
import Derived.Test.YtdfjeokjmigkaaaGreatTrU
import Derived.Test.YtdfjeokjmigkaaaGreatRiB
import Derived.Test.YtdfjeokjmigkaaaGreatRcS
set_option linter.unusedSimpArgs false
set_option linter.unusedVariables false
section
set_option maxRecDepth 20000
namespace Go.Proofs.YtdfjeokjmigkaaaGreat
open Go Go.Eng Go.RowKit Go.Tr
attribute [local push_cast] qRu qJ4 qMl qCz qAq qGp qGo qCy qB6 qB7 qC5 qAw qA0 vF uN tZ uF uD uC uM qAc tY mF uL uE uG uH uJ uK uB uA tE tD sV sW sX sY sZ qR qL qT qS qQ qP qN qM qU qAu qAt tN tP tL oH oG oF jP jQ qJ xY xX mB oE xM tQ xN xL xK xP tR qFr xS qFq qLj qTy qFt qCg tT qCh qCf qCe qCc qLh tU qFu qFs qCb qCj qLi qCi xR qCd qGs qC1 qC3 qAr qC2 qMo qGt qMn qGq qC0 qGr qMm xU tV xW xV vA uZ qLo qFx qCk qFy qCq qAh qAg qGa qAd qAf qCr qGb uQ qAi qCs uP qAe qKl qFj qKj qFh qB3
attribute [local push_cast] List.take_succ_cons List.take_zero List.drop_succ_cons List.drop_zero true_and and_true Option.isSome_some List.getElem?_cons_zero List.getElem?_cons_succ List.length_cons List.length_nil cond_true cond_false Int.toNat_natCast Nat.mul_one Nat.add_zero Nat.zero_add Addr.add_lit bne_self_eq_false beq_self_eq_true Bool.not_true Bool.not_false List.size_toArray Array.getD_eq_getD_getElem? List.getElem?_toArray Option.getD_some decide_true decide_false eq_self Bool.true_beq Bool.false_beq
set_option maxHeartbeats 2000000 in
theorem qY6 (w:World) (g c:Nat) (t:List Ent) (ad:Option Addr) (cd:Nat) (hl:t.length≤1048576) (h1:RepH w (fun _=>False) w.heap.size (fun _=>undef) (.slice (some ⟨g,0,none⟩) t.length c) (.lst false (aQ t)))
  (h2:RepH w (fun _=>False) w.heap.size (fun _=>undef) (.slice ad t.length cd) (.lst false (aQ t))) (hc:t.length + 1≤c) (hcell:w.cell? ⟨g,t.length * 3,none⟩=some (.string spare.1)) :
  Calls Tryz.prog 15 #[.slice (some ⟨g,0,none⟩) t.length c,.slice ad t.length cd] w (Ret fun r w'=>r=.bool true∧Below w.heap.size w w'):=by
 refine qD9 (args:=[_,_]) Tryz.func15 rfl Tryz.ntmps15 Tryz.results15 (by simp) ?_
 have c22:=qFm t t (by omega)
 rw [decide_eq_true rfl] at c22;refine dY ?_;refine fP (fun K hK=>?_);simp only [push_cast,Nat.reduceBEq,Nat.reduceAdd,Nat.reduceLT,Nat.reduceEqDiff,reduceIte,reduceCtorEq,Nat.reduceLeDiff,Nat.reduceSub];refine hK _ _ ?_
 refine dY ?_;refine fP (fun K hK=>?_);simp only [push_cast,Nat.reduceBEq,Nat.reduceAdd,Nat.reduceLT,Nat.reduceEqDiff,reduceIte,reduceCtorEq,Nat.reduceLeDiff,Nat.reduceSub]
 refine ⟨qNz,Ret.mono (c22 w [_,_] ⟨rfl,fun i h1' h2'=>?_⟩) ?_⟩
 ·match i,h1' with
 |0,_=>exact h1
 |1,_=>exact h2
 rintro u w1 ⟨B,h,st,h8,rfl,ρ',xs',G',hr⟩
 have hu:=bK hr
 subst hu
 have hcell1:=eX B hcell
 have hw:IntKind.i64.wrap ((t.length:Int) + 1)=(t.length:Int) + 1:=zRi (by omega) (by omega)
 have hx:((t.length:Int) + 1).toNat=t.length + 1:=by omega
 have hsub:jL (some ⟨g,0,none⟩) c (Int.toNat 0) 3=some ⟨g,0,none⟩:=by
  rw [jL,if_neg (show ¬ c=Int.toNat 0 by show ¬ c=0;omega)]
  rfl
 have e1:t.length + 1 - Int.toNat 0=t.length + 1:=rfl
 have e2:c - Int.toNat 0=c:=rfl
 have e3:decide (spare.1=({ data:=#[115,112,97,114,101] }:ByteArray))=true:=by decide +kernel
 refine v2s ?_;try simp only [push_cast,Nat.reduceBEq,Nat.reduceAdd,Nat.reduceLT,Nat.reduceEqDiff,reduceIte,reduceCtorEq,Nat.reduceLeDiff,Nat.reduceSub,zUo,hw,hx,hc,kt9,zLt,hsub,e1,e2,hcell1,e3];refine ⟨by omega,by omega,?_⟩
 refine hK _ _ ?_;refine zV ?_;refine qNa ?_;simp only [zAq,rF,tup,lk,Nat.reduceEqDiff,reduceIte,reduceCtorEq];exact ⟨by trivial,B⟩
theorem zG2 {w:World} {A:Nat→Prop} {n0:Nat} {ρ:Nat→Value} {v:Value} {id g n cap m sz:Nat} (h:RepH w A n0 ρ v (.vw id sz 0 m)) (hg:ρ id=.slice (some ⟨g,0,none⟩) n cap) (hm:m + 1≤cap):∃ c1,v=.slice (some ⟨g,0,none⟩) m c1∧m + 1≤c1:=by
 cases h with
|vw _ _ _ hρ h1 hc hn hx ha =>
  rw [hg] at hρ;simp only [Value.slice.injEq] at hρ;obtain ⟨rfl,rfl,rfl⟩:=hρ;obtain ⟨g',eg,rfl⟩:=ha (by omega)
  simp only [Option.some.injEq,Addr.mk.injEq] at eg;obtain ⟨rfl,-,-⟩:=eg;exact ⟨cap,by rw [Nat.zero_mul,hc,Nat.sub_zero],hm⟩
theorem zEg {w:World} {A:Nat→Prop} {n0:Nat} {ρ:Nat→Value} {v:Value} {fr:Bool} {t:List Ent} (h:RepH w A n0 ρ v (.lst fr (aQ t))):∃ ad cd,v=.slice ad t.length cd:=by
 generalize hx:aQ t=xs at h
 cases h with
|lst hF =>
  cases hF with
 |lst sz vals hn =>
   subst hx;rw [yV] at hn;subst hn;exact ⟨_,_,rfl⟩
section
variable {S:HS} {id:Nat} {t:List Ent} {h2:HV}
theorem zKx (hl:t.length≤1048576) (hr:rlk S.st id=some (rowE (t ++ [spare]))) (L2:Lend S.st h2 (.lst false (aQ t)))
  {c:Ctx} {look:Nat→Option Value} {w:World} {ρ:Nat→Value} {xs:Nat→List Value} {vs:List Value} (G:Eng.Good c S look w ρ xs) (R:qA3 w (c.A ρ S.st) c.n0 ρ vs [.vw id 3 0 t.length,h2]) :
  Calls Tryz.prog 15 vs.toArray w (Ret fun v w'=>v=.bool true∧Below w.heap.size w w'):=by
 obtain ⟨R1,R2⟩:=R
 match vs,R1 with
|[v0,v1],_ =>
 have r0:=R2 0 (by simp) (by simp)
 have r1:=R2 1 (by simp) (by simp)
 simp only [List.getElem_cons_zero,List.getElem_cons_succ] at r0 r1
 have l0:=qLz G r0 (qL1 (ys:=aQ t) (by rw [List.drop_zero,qHx,List.take_left' rfl,yT]) hr)
 have l1:=qLz G r1 L2
 obtain ⟨o1,o2,o3⟩:=fC G hr;rw [yV,List.length_append] at o1;obtain ⟨g,cap,hg,hcap,-,hcell⟩:=kL o1 (by simp)
 have hsp:w.cell? ⟨g,t.length * 3,none⟩=some (.string spare.1):=by
  obtain ⟨u,u1,-,u3⟩:=o3 t.length 0 (by rw [yV];simp) (by rw [o2 _ (List.getElem_mem _)];omega)
  have e:(aQ (t ++ [spare]))[t.length]'(by rw [yV];simp)=qNx spare:=by simp [aQ]
  have e2:((aQ (t ++ [spare]))[t.length]'(by rw [yV];simp))[0]'(by rw [e];simp [qNx])=.v (.string spare.1):=by simp only [e];rfl
  rw [e2] at u3
  cases u3
  exact hcell _ _ u1
 have hcap':t.length + 1≤cap:=by simpa using hcap
 obtain ⟨c1,rfl,hc1⟩:∃ c1,v0=.slice (some ⟨g,0,none⟩) t.length c1∧t.length + 1≤c1:=zG2 r0 hg hcap';obtain ⟨ad,cd,rfl⟩:∃ ad cd,v1=.slice ad t.length cd:=zEg l1;exact qY6 w g c1 t ad cd hl l0 l1 hc1 hsp
theorem qR5 (hl:t.length≤1048576) {K:HV→HS→Prop} (hr:rlk S.st id=some (rowE (t ++ [spare]))) (L2:Lend S.st h2 (.lst false (aQ t))) (hK:K (.v (.bool true)) S):HAt Tryz.prog 15 [.vw id 3 0 t.length,h2] S K :=
 ⟨zYn,fun c look w ρ xs vs G R=>Ret.mono (zKx hl hr L2 G R) fun v w' ⟨e,B⟩=>⟨_,_,hK,ρ,xs,G.below B,by subst e;exact .v _⟩⟩
end
end Go.Proofs.YtdfjeokjmigkaaaGreat
end
section
set_option maxRecDepth 20000
namespace Go.Rc
open Go Go.Eng Go.RowKit Go.Tr Go.Dk
theorem zN3 (L:LN) (i:Nat) (p:ByteArray) (n:Int):(itl L).set i [FV.v (.string p),.v (.int .i64 n)]=itl (L.set i (p,n)):=by simp [itl,List.map_set]
theorem qEz (t:List Ent) (x:Ent):(aQ (t ++ [x])).take t.length=aQ t:=by
 unfold aQ;rw [List.map_append,List.take_left' (by simp)]
end Go.Rc
namespace Go.Proofs.YtdfjeokjmigkaaaGreat
open Go Go.Eng Go.RowKit Go.Tr Go.Dk Go.Rc
set_option maxHeartbeats 8000000 in
theorem qRj (a b c:List Ent) (ha:a.length≤1048576) (hb:b.length≤1048576) (hc:c.length≤1048576) (sa:∀ e ∈ a,e.1.size≤1048576) (sb:∀ e ∈ b,e.1.size≤1048576) (sc:∀ e ∈ c,e.1.size≤1048576) :
  HFun Tryz.prog 3 [.lst false (aQ a),.lst false (aQ b),.lst false (aQ c)] (fun h st=>h=.v (.bool true)):=by
 refine eF (N:=83) Tryz.func3 rfl Tryz.ntmps3 Tryz.results3 (by simp) ?_
 have ct:=zMv a b c ha hb hc sa sb sc
 refine zE ?_;refine zJ (fun K hK=>?_);simp (disch:=omega) only [push_cast,↓Int.cast_ofNat_Int,simprocAttr];refine hK _ ?_
 cases d:(decide (pW a=0) && (decide (pW b=0) && decide (pW c=0))) with
|false =>
  rw [d] at ct;refine zE ?_;refine zE ?_;refine zJ (fun K hK=>?_);simp (disch:=omega) only [push_cast,↓Int.cast_ofNat_Int,simprocAttr]
  refine aW cl9 mA .nil ?_;with_reducible refine aB ?_;simp (disch:=omega) only [push_cast,↓Int.cast_ofNat_Int,simprocAttr]
  refine aW zWe ct (.cons (aH (yT _)) (.cons (aH (yT _)) (.cons (aH (yT _)) .nil))) ?_;with_reducible refine aB ?_;simp (disch:=omega) only [push_cast,↓Int.cast_ofNat_Int,simprocAttr]
  refine hK _ ?_;refine zA ?_;refine yD rfl ?_;refine zE ?_;refine zJ (fun K hK=>?_);simp (disch:=omega) only [push_cast,↓Int.cast_ofNat_Int,simprocAttr]
  refine aW cl9 mA .nil ?_;with_reducible refine aB ?_;simp (disch:=omega) only [push_cast,↓Int.cast_ofNat_Int,simprocAttr]
  refine hK _ ?_;refine zA ?_;refine zW ?_;refine zK ?_;simp only [yA,yM,yH,yE,aA,aC,yK,yJ,zS,zM,Nat.reduceEqDiff,reduceIte,reduceCtorEq];exact aL rfl
|true =>
 rw [d] at ct;simp only [Bool.and_eq_true,decide_eq_true_eq] at d
 have tA:=qKq d.1 sa
 have tB:=qKq d.2.1 sb
 have tC:=qKq d.2.2 sc
 obtain ⟨E,hE⟩:∃ E,a ++ b ++ c=E:=⟨_,rfl⟩
 have hall:∀ {P:Ent→Prop},(∀ e ∈ a,P e)→(∀ e ∈ b,P e)→(∀ e ∈ c,P e)→∀ e ∈ E,P e:=fun h1 h2 h3 e he=>by
  rw [← hE] at he
  rcases List.mem_append.1 he with he|he
  ·rcases List.mem_append.1 he with he|he
   ·exact h1 e he
   ·exact h2 e he
  ·exact h3 e he
 have hk:=hall (P:=fun e=>pOk e.1 5=true) (qLp (lL d.1).2) (qLp (lL d.2.1).2) (qLp (lL d.2.2).2)
 have up1:∀ e ∈ a,par e.1={ data:=#[] }∨∃ x ∈ E,x.1=par e.1:=fun e he=>(qKm (lL d.1).2 e he).imp id fun ⟨x,hx,h⟩=>⟨x,by rw [← hE];simp [hx],h⟩
 have up2:∀ e ∈ b,par e.1={ data:=#[] }∨∃ x ∈ E,x.1=par e.1:=fun e he=>(qKm (lL d.2.1).2 e he).imp id fun ⟨x,hx,h⟩=>⟨x,by rw [← hE];simp [hx],h⟩
 have up3:∀ e ∈ c,par e.1={ data:=#[] }∨∃ x ∈ E,x.1=par e.1:=fun e he=>(qKm (lL d.2.2).2 e he).imp id fun ⟨x,hx,h⟩=>⟨x,by rw [← hE];simp [hx],h⟩
 have hT:Tri3 a b c E:=⟨hE,hk,hall up1 up2 up3⟩
 have hI:wU mgR a b c=zHv mgR a b c:=zEn hT (hall sa sb sc)
 have i1:=zB3 tA tB tC (.inr zVc)
 have i2:=qXj tA tB tC
 rw [← hI] at i2
 have lB:(wU mgR a b c).length≤3000:=by
  have h1:=qJw (mg:=mgR) a b c 1048577 { data:=#[] }
  have:=tA.len
  have:=tB.len
  have:=tC.len
  rw [wU];omega
 clear hI;generalize wU mgR a b c=L at *
 have cs:=zHn L (by omega)
 have oa:oJ (((aQ (a ++ [spare])).drop 0).take a.length)=aQ a:=by rw [List.drop_zero,qEz,yT]
 have ob:oJ (((aQ (b ++ [spare])).drop 0).take b.length)=aQ b:=by rw [List.drop_zero,qEz,yT]
 have oc:oJ (((aQ (c ++ [spare])).drop 0).take c.length)=aQ c:=by rw [List.drop_zero,qEz,yT]
 refine zE ?_;refine zE ?_;refine zJ (fun K hK=>?_);simp (disch:=omega) only [push_cast,↓Int.cast_ofNat_Int,simprocAttr]
 refine aW cl9 mA .nil ?_;with_reducible refine aB ?_;simp (disch:=omega) only [push_cast,↓Int.cast_ofNat_Int,simprocAttr]
 refine aW zWe ct (.cons (aH (yT _)) (.cons (aH (yT _)) (.cons (aH (yT _)) .nil))) ?_;with_reducible refine aB ?_;simp (disch:=omega) only [push_cast,↓Int.cast_ofNat_Int,simprocAttr]
 refine hK _ ?_;refine zA ?_;refine yC rfl ?_;refine zC ?_;refine zE ?_;refine zJ (fun K hK=>?_);simp (disch:=omega) only [push_cast,↓Int.cast_ofNat_Int,simprocAttr]
 refine hat 200 zUc (qRg a ha) (.cons (aH (yT _)) .nil) ?_;rintro _ _ ⟨rfl,rfl⟩;with_reducible refine aB ?_;simp (disch:=omega) only [push_cast,↓Int.cast_ofNat_Int,simprocAttr]
 refine hat 216 zUc (qRg b hb) (.cons (aH (yT _)) .nil) ?_;rintro _ _ ⟨rfl,rfl⟩;with_reducible refine aB ?_;simp (disch:=omega) only [push_cast,↓Int.cast_ofNat_Int,simprocAttr]
 refine hat 232 zUc (qRg c hc) (.cons (aH (yT _)) .nil) ?_;rintro _ _ ⟨rfl,rfl⟩;with_reducible refine aB ?_;simp (disch:=omega) only [push_cast,↓Int.cast_ofNat_Int,simprocAttr]
 refine hK _ ?_;refine zE ?_;refine zJ (fun K hK=>?_);simp (disch:=omega) only [push_cast,↓Int.cast_ofNat_Int,simprocAttr]
 refine hat 264 zUb i1 (.cons (qL1 oa rfl) (.cons (qL1 ob rfl) (.cons (qL1 oc rfl) .nil))) ?_;rintro _ _ ⟨rfl,rfl⟩;with_reducible refine aB ?_;simp (disch:=omega) only [push_cast,↓Int.cast_ofNat_Int,simprocAttr]
 refine hK _ ?_;refine zE ?_;refine zJ (fun K hK=>?_);simp (disch:=omega) only [push_cast,↓Int.cast_ofNat_Int,simprocAttr]
 refine hat 296 zUb i1 (.cons (qL1 oa rfl) (.cons (qL1 ob rfl) (.cons (qL1 oc rfl) .nil))) ?_;rintro _ _ ⟨rfl,rfl⟩;with_reducible refine aB ?_;simp (disch:=omega) only [push_cast,↓Int.cast_ofNat_Int,simprocAttr]
 refine hK _ ?_;refine zE ?_;refine zJ (fun K hK=>?_);simp (disch:=omega) only [push_cast,↓Int.cast_ofNat_Int,simprocAttr]
 refine hat 328 zYo i2 (.cons (aH (yT _)) (.cons (aH (yT _)) (.cons (aH (yT _)) .nil))) ?_;rintro _ _ ⟨rfl,rfl⟩;with_reducible refine aB ?_;simp (disch:=omega) only [push_cast,↓Int.cast_ofNat_Int,simprocAttr]
 refine hK _ ?_;refine yB [0,1,2,6,7,8,9,10,11,12] [200,216,232,264,296,328] (by simp only [zZ,zR,zP,zQ,zN,zS,zM,zX,zU,Nat.reduceEqDiff,reduceIte];exact rfl) ?_
 refine zE ?_;refine zE ?_;refine zJ (fun K hK=>?_);simp (disch:=omega) only [push_cast,↓Int.cast_ofNat_Int,simprocAttr]
 refine aW zUa cs (.cons (jK (qDu _) rfl) (.cons (jK (qDu _) rfl) .nil)) ?_;with_reducible refine aB ?_;simp (disch:=omega) only [push_cast,↓Int.cast_ofNat_Int,simprocAttr]
 refine aW zUa cs (.cons (jK (qDu _) rfl) (.cons (jK (qDu _) rfl) .nil)) ?_;with_reducible refine aB ?_;simp (disch:=omega) only [push_cast,↓Int.cast_ofNat_Int,simprocAttr]
 refine qR5 ha rfl (aH (yT _)) ?_;with_reducible refine aB ?_;simp (disch:=omega) only [push_cast,↓Int.cast_ofNat_Int,simprocAttr]
 refine qR5 hb rfl (aH (yT _)) ?_;with_reducible refine aB ?_;simp (disch:=omega) only [push_cast,↓Int.cast_ofNat_Int,simprocAttr]
 refine qR5 hc rfl (aH (yT _)) ?_;with_reducible refine aB ?_;simp (disch:=omega) only [push_cast,↓Int.cast_ofNat_Int,simprocAttr]
 refine hK _ ?_;refine zA ?_;refine yC rfl ?_;refine zC ?_;refine zE ?_;refine zE ?_;refine yB [6,10,11,12] [264,296,328] (by simp only [zZ,zR,zP,zQ,zN,zS,zM,zX,zU,Nat.reduceEqDiff,reduceIte];exact rfl) ?_
 refine zJ (fun K hK=>?_);simp (disch:=omega) only [push_cast,↓Int.cast_ofNat_Int,simprocAttr];refine hK _ ?_
 refine zA ?_;refine zD ?_;refine bR (fun x:Nat × LN=>⟨[(6,.v (.bool false)),(10,.own 264),(11,.own 296),(12,.own 328),(13,.v (.int .i64 (x.1:Int)))],[(264,.sl true 31 2 (itl x.2)),(296,.sl true 31 2 (itl L)),(328,.sl true 31 2 (itl L))]⟩) (fun x=>x.1≤L.length∧x.2.length=L.length) (fun x=>L.length - x.1) [6,10,11,12,13] [264,296,328] (0,L) (by simp only [zZ,zR,zP,zQ,zN,zS,zM,zX,zU,Nat.reduceEqDiff,reduceIte];try rfl) ⟨Nat.zero_le _,rfl⟩ ?_
 rintro ⟨i,M⟩ ⟨hi,hM⟩;dsimp only at hi hM ⊢
 by_cases h1:i < L.length
 ·have hgM:(itl M).getD i []=[FV.v (.string (M[i]'(by omega)).1),.v (.int .i64 (M[i]'(by omega)).2)]:=zB2 (by omega)
  have e2:=zN3 M i { data:=#[] } 9
  have e3:(itl M).set i [FV.v (.string ByteArray.empty),.v (.int .i64 9)]=itl (M.set i ({ data:=#[] },9)):=e2
  refine zE ?_;refine zE ?_;refine zJ (fun K hK=>?_);simp (disch:=omega) only [push_cast,↓Int.cast_ofNat_Int,simprocAttr,qC,hM];refine hK _ ?_
  refine zA ?_;refine yD rfl ?_;refine zC ?_;refine zE ?_;refine zD ?_;refine zJ (fun K hK=>?_);simp (disch:=omega) only [push_cast,↓Int.cast_ofNat_Int,simprocAttr,qC,qDt,hM,hgM,e2,e3];(repeat refine ⟨by first|omega|decide|((repeat' apply And.intro) <;> first|omega|decide),?_⟩);refine hK _ ?_
  refine zB ?_;refine zA ?_;refine zJ (fun K hK=>?_);simp (disch:=omega) only [push_cast,↓Int.cast_ofNat_Int,simprocAttr];refine hK _ ?_
  refine zA ?_;exact ⟨(i + 1,M.set i ({ data:=#[] },9)),by simp only [zZ,zR,zP,zQ,zN,zS,zM,zX,zU,Nat.reduceEqDiff,reduceIte];try rfl,⟨h1,by dsimp only;rw [List.length_set];exact hM⟩,by dsimp only;omega⟩
 ·have hi2:i=L.length:=by omega
  subst hi2;refine zE ?_;refine zE ?_;refine zJ (fun K hK=>?_);simp (disch:=omega) only [push_cast,↓Int.cast_ofNat_Int,simprocAttr,qC,hM];refine hK _ ?_
  refine zA ?_;refine yC rfl ?_;refine zT ?_;refine zG ?_;refine zG ?_;refine zH ?_;refine zE ?_;refine zJ (fun K hK=>?_);simp (disch:=omega) only [push_cast,↓Int.cast_ofNat_Int,simprocAttr]
  refine aW zUa cs (.cons (jK (qDu _) rfl) (.cons (jK (qDu _) rfl) .nil)) ?_;with_reducible refine aB ?_;simp (disch:=omega) only [push_cast,↓Int.cast_ofNat_Int,simprocAttr]
  refine hK _ ?_;refine zA ?_;refine zW ?_;simp only [yA,yM,yH,yE,aA,aC,yK,yJ,zS,zM,Nat.reduceEqDiff,reduceIte,reduceCtorEq];exact aL rfl
theorem qRi (a b c:List Ent) (hu:fw (.lst false (aQ a)) + (fw (.lst false (aQ b)) + (fw (.lst false (aQ c)) + 0))≤1048576):HFun Tryz.prog 3 [.lst false (aQ a),.lst false (aQ b),.lst false (aQ c)] (fun h st=>h=.v (.bool true)):=by
 obtain ⟨h1,h2⟩:=qR9 a;obtain ⟨h3,h4⟩:=qR9 b;obtain ⟨h5,h6⟩:=qR9 c;exact qRj a b c (by omega) (by omega) (by omega) (fun e he=>by have:=(h2 e he).1;omega) (fun e he=>by have:=(h4 e he).1;omega) (fun e he=>by have:=(h6 e he).1;omega)
end Go.Proofs.YtdfjeokjmigkaaaGreat
end
