/-
  The reference's disk: what only reads it, further (qJi, Used, fits, List, Read, Stamp): walked.
-/
import Derived.Test.YtlihpgmgiehjkaaGreatDoorSrp
import Derived.Test.YtlihpgmgiehjkaaGreatDoorDlC
set_option linter.unusedSimpArgs false
set_option linter.unusedVariables false
set_option maxRecDepth 20000
namespace Go.Dk
open Go Go.Eng Go.Tr
theorem kR (d:Dk) (p:ByteArray):(has d p=false∧fD d p=0)∨(has d p=true∧(aP d p).dir=true∧fD d p=1)∨(has d p=true∧(aP d p).dir=false∧fD d p=2):=by
 unfold fD
 cases has d p <;> cases (aP d p).dir <;> simp
theorem qY4 (v:ByteArray) {L:LI} {i:Nat} (h:i < L.length):qK v (L.take (i + 1))=qK v (L.take i) + (if vol L[i].1=v then (L[i].2.data.size:Int) else 0):=by
 induction L generalizing i with
|nil=>simp at h
|cons e r ih =>
  cases i with
 |zero=>simp [qK]
 |succ i =>
   have:=ih (i:=i) (by simpa using h)
   simp only [List.take_succ_cons,qK,this,List.getElem_cons_succ];omega
theorem qCb (v:ByteArray):∀ (L:LI),0≤qK v L∧qK v L≤tot L
|[]=>⟨Int.le_refl _,Int.le_refl _⟩
|(p,x) :: r=>by
  have:=qCb v r
  rw [qK,tot];split <;> omega
theorem qJg:∀ (L:LI) (i:Nat),tot (L.take i)≤tot L
|[],i=>by simp
|(p,x) :: r,0=>by have:=qBp r;simp only [List.take_zero,tot];omega
|(p,x) :: r,i + 1=>by have:=qJg r i;simp only [List.take_succ_cons,tot];omega
theorem zE6 (p:ByteArray) {L:LI} {i:Nat} (h:i < L.length):(((L.take (i + 1)).filter fun e=>decide (par e.1=p)).map fun e=>e.1)=(((L.take i).filter fun e=>decide (par e.1=p)).map fun e=>e.1) ++ if par L[i].1=p then [L[i].1] else []:=by
 rw [List.take_succ_eq_append_getElem h,List.filter_append,List.map_append]
 by_cases e:par L[i].1=p
 ·simp [e]
 ·simp [e]
end Go.Dk
namespace Go.Proofs.YtlihpgmgiehjkaaGreatDoor
open Go Go.Eng Go.RowKit Go.Tr Go.Dk
set_option maxHeartbeats 1000000 in
theorem qVl (d:Dk) (R:LN) (p:ByteArray) (hs:p.size≤1048576) (hl:d.L.length≤4194304):HFun Tryz.prog 76 [dE d R,.v (.string p)] (fun h st=>h=.v (.int .i64 (gH d p))):=by
 refine iD (N:=20) Tryz.func76 rfl Tryz.ntmps76 Tryz.results76 (by simp) ?_
 have hc:=sL d R p 1 hs
 have hk:=oJ d R p hl
 have hE:=qDm (st:=[]) d R
 refine zE ?_;refine zJ (fun K hK=>?_);simp (disch:=omega) only [push_cast,↓iC9,simprocAttr];refine hK _ ?_;clear hK K
 refine zE ?_;refine zJ (fun K hK=>?_);simp (disch:=omega) only [push_cast,↓iC9,simprocAttr]
 refine cK zFs hc (.cons hE (.cons (.v _) (.cons (.v _) .nil))) ?_;with_reducible refine aM ?_;simp (disch:=omega) only [push_cast,↓iC9,simprocAttr]
 refine hK _ ?_;clear hK K
 rcases (Decidable.em (may d p 1=0)).symm with h0|h0
 ·have hr:gH d p=may d p 1:=by simp [gH,h0]
  rw [hr];refine zE ?_;refine zE ?_;refine zJ (fun K hK=>?_);simp (disch:=omega) only [push_cast,↓iC9,simprocAttr];refine hK _ ?_;clear hK K
  refine zA ?_;refine bE rfl (fun _=>?_) (fun h=>by simp [h0] at h)
  refine zE ?_;refine zJ (fun K hK=>?_);simp (disch:=omega) only [push_cast,↓iC9,simprocAttr];refine hK _ ?_;clear hK K
  refine zA ?_;refine zW ?_;refine zK ?_;simp only [yA,yM,yH,yE,aL,aU,yK,yJ,zS,zM,Nat.reduceEqDiff,reduceIte,reduceCtorEq];exact bK rfl
 rw [h0];refine zE ?_;refine zE ?_;refine zJ (fun K hK=>?_);simp (disch:=omega) only [push_cast,↓iC9,simprocAttr];refine hK _ ?_;clear hK K
 refine zA ?_;refine yC rfl ?_
 rcases kR d p with ⟨a,b⟩|⟨a,a2,b⟩|⟨a,a2,b⟩
 ·rw [b] at hk
  have hr:gH d p=11:=by simp [gH,h0,a]
  rw [hr];refine zC ?_;refine zE ?_;refine zE ?_;refine zJ (fun K hK=>?_);simp (disch:=omega) only [push_cast,↓iC9,simprocAttr]
  refine cK vM hk (.cons hE (.cons (.v _) .nil)) ?_;with_reducible refine aM ?_;simp (disch:=omega) only [push_cast,↓iC9,simprocAttr]
  refine hK _ ?_;clear hK K;refine zA ?_;refine yD rfl ?_;refine zE ?_;refine zJ (fun K hK=>?_);simp (disch:=omega) only [push_cast,↓iC9,simprocAttr];refine hK _ ?_;clear hK K
  refine zA ?_;refine zW ?_;refine zK ?_;simp only [yA,yM,yH,yE,aL,aU,yK,yJ,zS,zM,Nat.reduceEqDiff,reduceIte,reduceCtorEq];exact bK rfl
 ·rw [b] at hk
  have hr:gH d p=12:=by simp [gH,h0,a,a2]
  rw [hr];refine zC ?_;refine zE ?_;refine zE ?_;refine zJ (fun K hK=>?_);simp (disch:=omega) only [push_cast,↓iC9,simprocAttr]
  refine cK vM hk (.cons hE (.cons (.v _) .nil)) ?_;with_reducible refine aM ?_;simp (disch:=omega) only [push_cast,↓iC9,simprocAttr]
  refine hK _ ?_;clear hK K;refine zA ?_;refine yC rfl ?_;refine zC ?_;refine zE ?_;refine zE ?_;refine zJ (fun K hK=>?_);simp (disch:=omega) only [push_cast,↓iC9,simprocAttr]
  refine cK vM hk (.cons hE (.cons (.v _) .nil)) ?_;with_reducible refine aM ?_;simp (disch:=omega) only [push_cast,↓iC9,simprocAttr]
  refine hK _ ?_;clear hK K;refine zA ?_;refine yD rfl ?_;refine zE ?_;refine zJ (fun K hK=>?_);simp (disch:=omega) only [push_cast,↓iC9,simprocAttr];refine hK _ ?_;clear hK K
  refine zA ?_;refine zW ?_;refine zK ?_;simp only [yA,yM,yH,yE,aL,aU,yK,yJ,zS,zM,Nat.reduceEqDiff,reduceIte,reduceCtorEq];exact bK rfl
 ·rw [b] at hk
  have hr:gH d p=0:=by simp [gH,h0,a,a2]
  rw [hr];refine zC ?_;refine zE ?_;refine zE ?_;refine zJ (fun K hK=>?_);simp (disch:=omega) only [push_cast,↓iC9,simprocAttr]
  refine cK vM hk (.cons hE (.cons (.v _) .nil)) ?_;with_reducible refine aM ?_;simp (disch:=omega) only [push_cast,↓iC9,simprocAttr]
  refine hK _ ?_;clear hK K;refine zA ?_;refine yC rfl ?_;refine zC ?_;refine zE ?_;refine zE ?_;refine zJ (fun K hK=>?_);simp (disch:=omega) only [push_cast,↓iC9,simprocAttr]
  refine cK vM hk (.cons hE (.cons (.v _) .nil)) ?_;with_reducible refine aM ?_;simp (disch:=omega) only [push_cast,↓iC9,simprocAttr]
  refine hK _ ?_;clear hK K;refine zA ?_;refine yC rfl ?_;refine zC ?_;refine zE ?_;refine zJ (fun K hK=>?_);simp (disch:=omega) only [push_cast,↓iC9,simprocAttr];refine hK _ ?_;clear hK K
  refine zA ?_;refine zW ?_;simp only [yA,yM,yH,yE,aL,aU,yK,yJ,zS,zM,Nat.reduceEqDiff,reduceIte,reduceCtorEq];exact bK rfl
set_option maxHeartbeats 2000000 in
theorem zMy (d:Dk) (R:LN) (v:ByteArray) (hl:d.L.length≤4194304) (hke:∀ e ∈ d.L,e.1.size≤1048576) (hto:tot d.L≤1099511627776):HFun Tryz.prog 97 [dE d R,.v (.string v)] (fun h st=>h=.v (.int .i64 (used d v))):=by
 refine iD (N:=39) Tryz.func97 rfl Tryz.ntmps97 Tryz.results97 (by simp) ?_
 have hw:=qR d R
 have hg:=qS d R
 unfold used;obtain ⟨L,Rq,steps,stamps,armed,down,n,m⟩:=d;simp only [dE,sA] at hl hke hto hw hg ⊢;refine zE ?_;refine zJ (fun K hK=>?_);simp (disch:=omega) only [push_cast,↓iC9,simprocAttr];refine hK _ ?_;clear hK K
 refine zE ?_;refine zJ (fun K hK=>?_);simp (disch:=omega) only [push_cast,↓iC9,simprocAttr];refine hK _ ?_;clear hK K
 refine zE ?_;refine zE ?_;refine zJ (fun K hK=>?_);simp (disch:=omega) only [push_cast,↓iC9,simprocAttr];refine hK _ ?_;clear hK K
 refine zA ?_;refine zD ?_;refine dW (fun i:Nat=>⟨[(0,.elt false [[.lst false (fT L),.lst false (rms R),.v (.int .i64 steps),.v (.int .i64 stamps),.v (.int .i64 armed),.v (.bool down)]] 6 0 0),(1,.v (.string v)),(5,.v (.int .i64 (qK v (L.take i)))),(6,.v (.int .i64 i))],[]⟩) (fun i=>i≤L.length) (fun i=>L.length - i) [0,1,5,6] [] 0 rfl (Nat.zero_le _) ?_
 rintro i hi
 by_cases hlt:i < L.length
 ·have h1:=qY4 v hlt
  have h2:=qCb v (L.take i)
  have h3:=qJg L i
  have h4:=hke _ (List.getElem_mem hlt)
  have h5:=qCb v (L.take (i + 1))
  have h6:=qJg L (i + 1)
  refine zE ?_;refine zE ?_;refine zJ (fun K hK=>?_);simp (disch:=omega) only [push_cast,↓iC9,simprocAttr,bG,hw,hg];refine hK _ ?_;clear hK K
  refine zA ?_;refine yD rfl ?_;refine zC ?_;refine zE ?_;refine zD ?_;refine zE ?_;refine zJ (fun K hK=>?_);simp (disch:=omega) only [push_cast,↓iC9,simprocAttr,bG,bU,bY hlt,hw,hg]
  refine cK zFq (qTo _ h4) (.cons (.v _) .nil) ?_;with_reducible refine aM ?_;simp (disch:=omega) only [push_cast,↓iC9,simprocAttr]
  refine hK _ ?_;clear hK K
  by_cases hv:vol L[i].1=v
  ·rw [if_pos hv] at h1;refine bE rfl (fun _=>?_) (fun hf=>by simp [hv] at hf)
   generalize qK v (L.take i)=a at *
   refine zJ (fun K hK=>?_);simp (disch:=omega) only [push_cast,↓iC9,simprocAttr,bG,bU,bY hlt,hw,hg];refine hK _ ?_;clear hK K
   refine zB ?_;refine zA ?_;refine zJ (fun K hK=>?_);simp (disch:=omega) only [push_cast,↓iC9,simprocAttr];refine hK _ ?_;clear hK K
   refine zA ?_;exact ⟨i + 1,by simp only [zZ,zR,zP,zQ,zN,zS,zM,zX,zU,Nat.reduceEqDiff,reduceIte];rw [h1];rfl,hlt,by omega⟩
  ·rw [if_neg hv] at h1;refine bE rfl (fun ht=>by simp [hv] at ht) (fun _=>?_)
   refine zC ?_;refine zB ?_;refine zA ?_;refine zJ (fun K hK=>?_);simp (disch:=omega) only [push_cast,↓iC9,simprocAttr];refine hK _ ?_;clear hK K
   refine zA ?_;exact ⟨i + 1,by simp only [zZ,zR,zP,zQ,zN,zS,zM,zX,zU,Nat.reduceEqDiff,reduceIte];rw [h1,Int.add_zero];rfl,hlt,by omega⟩
 ·have hne:i=L.length:=by omega
  subst hne;rw [List.take_length];refine zE ?_;refine zE ?_;refine zJ (fun K hK=>?_);simp (disch:=omega) only [push_cast,↓iC9,simprocAttr,bG,hw,hg];refine hK _ ?_;clear hK K
  refine zA ?_;refine yC rfl ?_;refine zT ?_;refine zG ?_;refine zG ?_;refine zH ?_;refine zE ?_;refine zJ (fun K hK=>?_);simp (disch:=omega) only [push_cast,↓iC9,simprocAttr];refine hK _ ?_;clear hK K
  refine zA ?_;refine zW ?_;simp only [yA,yM,yH,yE,aL,aU,yK,yJ,zS,zM,Nat.reduceEqDiff,reduceIte,reduceCtorEq];exact bK rfl
set_option maxHeartbeats 2000000 in
theorem zM2 (d:Dk) (R:LN) (p:ByteArray) (hl:d.L.length≤4194304) (hke:∀ e ∈ d.L,e.1.size≤1048576):HFun Tryz.prog 72 [dE d R,.v (.string p)] (fun h st=>h=.own 0∧st=[(0,.sl true 9 1 (dP (gR d p)))]):=by
 refine iD (N:=39) Tryz.func72 rfl Tryz.ntmps72 Tryz.results72 (by simp) ?_
 have hw:=qR d R
 have hg:=qS d R
 unfold gR;obtain ⟨L,Rq,steps,stamps,armed,down,n,m⟩:=d;simp only [dE,sA] at hl hke hw hg ⊢;refine zE ?_;refine zJ (fun K hK=>?_);simp (disch:=omega) only [push_cast,↓iC9,simprocAttr];refine hK _ ?_;clear hK K
 refine zE ?_;refine zJ (fun K hK=>?_);simp (disch:=omega) only [push_cast,↓iC9,simprocAttr];refine hK _ ?_;clear hK K
 refine zE ?_;refine zE ?_;refine zJ (fun K hK=>?_);simp (disch:=omega) only [push_cast,↓iC9,simprocAttr];refine hK _ ?_;clear hK K
 refine zA ?_;refine zD ?_;refine qA3 5 9000 9 1 rfl (by simp only [lK,pH,pK,fC,dV,eV,dS,iS,eZ,fA,eY,eX,gC,fB,eW,dU,fW,fY,fX,iR,jB,gU,Nat.reduceBEq,Nat.reduceEqDiff,reduceIte,cond_true,cond_false,List.map_cons,List.map_nil];exact rfl) ?_
 refine dW (fun i:Nat=>⟨[(0,.elt false [[.lst false (fT L),.lst false (rms R),.v (.int .i64 steps),.v (.int .i64 stamps),.v (.int .i64 armed),.v (.bool down)]] 6 0 0),(1,.v (.string p)),(5,.own 9000),(6,.v (.int .i64 i))],[(9000,.sl true 9 1 (dP (((L.take i).filter fun e=>decide (par e.1=p)).map fun e=>e.1)))]⟩) (fun i=>i≤L.length) (fun i=>L.length - i) [0,1,5,6] [9000] 0 (by simp only [zZ,zR,zP,zQ,zN,zS,zM,zX,zU,Nat.reduceEqDiff,reduceIte];rfl) (Nat.zero_le _) ?_
 rintro i hi
 by_cases hlt:i < L.length
 ·have h1:=zE6 p hlt
  have h4:=hke _ (List.getElem_mem hlt)
  have h5:(((L.take i).filter fun e=>decide (par e.1=p)).map fun e=>e.1).length≤i:=by
   rw [List.length_map];exact Nat.le_trans (List.length_filter_le _ _) (by rw [List.length_take];omega)
  refine zE ?_;refine zE ?_;refine zJ (fun K hK=>?_);simp (disch:=omega) only [push_cast,↓iC9,simprocAttr,bG,hw,hg];refine hK _ ?_;clear hK K
  refine zA ?_;refine yD rfl ?_;refine zC ?_;refine zE ?_;refine zD ?_;refine zE ?_;refine zJ (fun K hK=>?_);simp (disch:=omega) only [push_cast,↓iC9,simprocAttr,bG,bU,bY hlt,hw,hg]
  refine cK zNx (qP2 _ h4) (.cons (.v _) .nil) ?_;with_reducible refine aM ?_;simp (disch:=omega) only [push_cast,↓iC9,simprocAttr]
  refine hK _ ?_;clear hK K
  by_cases hv:par L[i].1=p
  ·rw [if_pos hv] at h1;refine bE rfl (fun _=>?_) (fun hf=>by simp [hv] at hf)
   generalize (((L.take i).filter fun e=>decide (par e.1=p)).map fun e=>e.1)=a at *
   refine zJ (fun K hK=>?_);simp (disch:=omega) only [push_cast,↓iC9,simprocAttr,cT,bG,bU,bY hlt,hw,hg]
   (repeat refine ⟨by first|omega|decide|((repeat' apply And.intro) <;> first|omega|decide),?_⟩)
   refine hK _ ?_;clear hK K;refine zB ?_;refine zA ?_;refine zJ (fun K hK=>?_);simp (disch:=omega) only [push_cast,↓iC9,simprocAttr];refine hK _ ?_;clear hK K
   refine zA ?_;exact ⟨i + 1,by simp only [zZ,zR,zP,zQ,zN,zS,zM,zX,zU,Nat.reduceEqDiff,reduceIte];rw [h1,← qEz];rfl,hlt,by omega⟩
  ·rw [if_neg hv,List.append_nil] at h1;refine bE rfl (fun ht=>by simp [hv] at ht) (fun _=>?_)
   refine zC ?_;refine zB ?_;refine zA ?_;refine zJ (fun K hK=>?_);simp (disch:=omega) only [push_cast,↓iC9,simprocAttr];refine hK _ ?_;clear hK K
   refine zA ?_;exact ⟨i + 1,by simp only [zZ,zR,zP,zQ,zN,zS,zM,zX,zU,Nat.reduceEqDiff,reduceIte];rw [h1];rfl,hlt,by omega⟩
 ·have hne:i=L.length:=by omega
  subst hne;rw [List.take_length];refine zE ?_;refine zE ?_;refine zJ (fun K hK=>?_);simp (disch:=omega) only [push_cast,↓iC9,simprocAttr,bG,hw,hg];refine hK _ ?_;clear hK K
  refine zA ?_;refine yC rfl ?_;refine zT ?_;refine zG ?_;refine zG ?_;refine zH ?_;refine zE ?_;refine zJ (fun K hK=>?_);simp (disch:=omega) only [push_cast,↓iC9,simprocAttr];refine hK _ ?_;clear hK K
  refine zA ?_;refine zW ?_;simp only [yA,yM,yH,yE,aL,aU,yK,yJ,zS,zM,Nat.reduceEqDiff,reduceIte,reduceCtorEq];exact qZ8 rfl (tE _) ⟨rfl,rfl⟩
set_option maxHeartbeats 1000000 in
theorem zG0 (d:Dk) (R:LN) (p:ByteArray) (hl:d.L.length≤4194304):HFun Tryz.prog 49 [dE d R,.v (.string p)] (fun h st=>h=.v (.int .i64 (cH d p))):=by
 refine iD (N:=19) Tryz.func49 rfl Tryz.ntmps49 Tryz.results49 (by simp) ?_
 have hk:=oJ d R p hl
 have hpl:=pG d R p hl
 have hw:=qR d R
 have hg:=qS d R
 have hE:=qDm (st:=[]) d R
 simp only [dE,sA] at hk hpl hw hg hE ⊢;unfold cH
 cases hp:plc p d.L with
|none =>
  rw [qDn hp] at hk
  have e0:aP d p=itm0:=by rw [aP,(wL hp).1];rfl
  rw [e0];refine zE ?_;refine zJ (fun K hK=>?_);simp (disch:=omega) only [push_cast,↓iC9,simprocAttr];refine hK _ ?_;clear hK K
  refine zE ?_;refine zE ?_;refine zJ (fun K hK=>?_);simp (disch:=omega) only [push_cast,↓iC9,simprocAttr]
  refine cK vM hk (.cons hE (.cons (.v _) .nil)) ?_;with_reducible refine aM ?_;simp (disch:=omega) only [push_cast,↓iC9,simprocAttr]
  refine hK _ ?_;clear hK K;refine zA ?_;refine yD rfl ?_;refine zE ?_;refine zJ (fun K hK=>?_);simp (disch:=omega) only [push_cast,↓iC9,simprocAttr];refine hK _ ?_;clear hK K
  refine zA ?_;refine zW ?_;refine zK ?_;simp only [yA,yM,yH,yE,aL,aU,yK,yJ,zS,zM,Nat.reduceEqDiff,reduceIte,reduceCtorEq];exact bK rfl
|some i =>
  obtain ⟨hi,-,e3,-,ek⟩:=uJ hp;rw [lB hp] at hpl
  have hk0:fD d p≠0:=by rw [ek];split <;> decide
  have hdk:decide (fD d p=0)=false:=decide_eq_false hk0
  rw [e3];refine zE ?_;refine zJ (fun K hK=>?_);simp (disch:=omega) only [push_cast,↓iC9,simprocAttr];refine hK _ ?_;clear hK K
  refine zE ?_;refine zE ?_;refine zJ (fun K hK=>?_);simp (disch:=omega) only [push_cast,↓iC9,simprocAttr]
  refine cK vM hk (.cons hE (.cons (.v _) .nil)) ?_;with_reducible refine aM ?_;simp (disch:=omega) only [push_cast,↓iC9,simprocAttr]
  refine hK _ ?_;clear hK K;refine zA ?_;refine yC rfl ?_;refine zC ?_;refine zE ?_;refine kL 10 mixed (by kernel_rfl) (fun K hK=>?_);simp (disch:=omega) only [push_cast,↓iC9,simprocAttr,bG,bU,bY hi,hw,hg]
  refine lS qYo hpl (.cons hE (.cons (.v _) .nil)) ?_;with_reducible refine aM ?_;simp (disch:=omega) only [push_cast,↓iC9,simprocAttr,bG,bU,bY hi,hw,hg]
  with_reducible refine aM ?_;simp (disch:=omega) only [push_cast,↓iC9,simprocAttr]
  refine hK _ ?_;clear hK K;refine zA ?_;refine zW ?_;simp only [yA,yM,yH,yE,aL,aU,yK,yJ,zS,zM,Nat.reduceEqDiff,reduceIte,reduceCtorEq];exact bK rfl
end Go.Proofs.YtlihpgmgiehjkaaGreatDoor
