/-
  The reference's disk: would a volume's bytes fit; a step; a stamp; an aP put, dropped: walked.
-/
import Derived.Test.YtlihpgmgiehjkaaGreatDoorRkC
set_option linter.unusedSimpArgs false
set_option linter.unusedVariables false
set_option maxRecDepth 20000
namespace Go.Dk
open Go Go.Eng Go.Tr
theorem qLf {α:Type} {v:ByteArray} {x:α}:∀ {R:List (ByteArray × α)},(R.map fun e=>e.1).Nodup→(v,x) ∈ R→aS R v=some x
|[],_,h=>by simp at h
|(t,y) :: r,hn,h=>by
  simp only [List.map_cons,List.nodup_cons] at hn;simp only [aS]
  rcases List.mem_cons.1 h with h|h
  ·cases h;rw [if_pos rfl]
  ·rw [if_neg (fun e=>by subst e;exact hn.1 (List.mem_map.2 ⟨_,h,rfl⟩))]
   exact qLf hn.2 h
theorem zG3 {d:Dk} {R:LN} (hR:∀ v,aS R v=aS d.R v) (hnd:(R.map fun e=>e.1).Nodup) {p:ByteArray} {more:Int} {i:Nat} (h:i < R.length) (e:R[i].1=vol p) (h1:R[i].2 < used d (vol p) + more) (h2:¬ more≤0):jY d p more=false:=by
 have:=qLf (v:=vol p) (x:=R[i].2) hnd (by rw [← e];exact List.getElem_mem h)
 rw [jY,← hR,this];simp [h2];omega
theorem zEn {d:Dk} {R:LN} (hR:∀ v,aS R v=aS d.R v) {p:ByteArray} {more:Int} (h:∀ k (hk:k < R.length),¬ (R[k].1=vol p∧R[k].2 < used d (vol p) + more)):jY d p more=true:=by
 rw [jY,← hR]
 cases hl:aS R (vol p) with
|none=>rfl
|some n =>
  obtain ⟨k,hk,e⟩:=List.getElem_of_mem (cP hl)
  have:=h k hk
  rw [e] at this;simp at this;simp;omega
theorem zM0 {d:Dk} {p:ByteArray} {more:Int} (h:more≤0):jY d p more=true:=by
 rw [jY]
 cases aS d.R (vol p) with
|none=>rfl
|some n=>simp [h]
def rc (d:Dk) (fr:Bool):List HV:=[.lst fr (fT d.L),.own 1,.v (.int .i64 d.steps),.v (.int .i64 d.stamps),.v (.int .i64 d.armed),.v (.bool d.down)]
theorem iX (d:Dk) (fr:Bool):rc d fr=[.lst fr (fT d.L),.own 1,.v (.int .i64 d.steps),.v (.int .i64 d.stamps),.v (.int .i64 d.armed),.v (.bool d.down)]:=(fun h=>h) rfl
abbrev rst (d:Dk) (R:LN) (fr nw:Bool):aJ:=[(0,.bx false 68 (rc d fr)),(1,.sl nw 126 2 (rms R))]
end Go.Dk
namespace Go.Proofs.YtlihpgmgiehjkaaGreatDoor
open Go Go.Eng Go.RowKit Go.Tr Go.Dk
set_option maxHeartbeats 2000000 in
theorem qTs (d:Dk) (R:LN) (p:ByteArray) (more:Int) (hs:p.size≤1048576) (hl:d.L.length≤4194304) (hke:∀ e ∈ d.L,e.1.size≤1048576) (hto:tot d.L≤1099511627776) (hR:∀ v,aS R v=aS d.R v) (hnd:(R.map fun e=>e.1).Nodup) (hrl:R.length≤4194304) (hm:more≤1099511627776) :
  HFun Tryz.prog 70 [dE d R,.v (.string p),.v (.int .i64 more)] (fun h st=>h=.v (.bool (jY d p more))):=by
 refine iD (N:=47) Tryz.func70 rfl Tryz.ntmps70 Tryz.results70 (by simp) ?_
 by_cases h0:more≤0
 ·rw [zM0 h0];refine zE ?_;refine zJ (fun K hK=>?_);simp (disch:=omega) only [push_cast,↓iC9,simprocAttr];refine hK _ ?_;clear hK K
  refine zE ?_;refine zE ?_;refine zJ (fun K hK=>?_);simp (disch:=omega) only [push_cast,↓iC9,simprocAttr];refine hK _ ?_;clear hK K
  refine zA ?_;refine bE rfl (fun _=>?_) (fun hf=>by simp [h0] at hf)
  refine zE ?_;refine zJ (fun K hK=>?_);simp (disch:=omega) only [push_cast,↓iC9,simprocAttr];refine hK _ ?_;clear hK K
  refine zA ?_;refine zW ?_;refine zK ?_;simp only [yA,yM,yH,yE,aL,aU,yK,yJ,zS,zM,Nat.reduceEqDiff,reduceIte,reduceCtorEq];exact bK rfl
 have hw:=qR d R
 have hg:=qS d R
 have hE:=qDm (st:=[]) d R
 have cv:=qTo p hs
 have vs:(vol p).size≤1048576:=Nat.le_trans (qUx p) hs
 have cu:=zMy d R (vol p) hl hke hto
 have ub:=qCb (vol p) d.L
 simp only [dE,sA] at hw hg hE cu ⊢;refine zE ?_;refine zJ (fun K hK=>?_);simp (disch:=omega) only [push_cast,↓iC9,simprocAttr];refine hK _ ?_;clear hK K
 refine zE ?_;refine zE ?_;refine zJ (fun K hK=>?_);simp (disch:=omega) only [push_cast,↓iC9,simprocAttr];refine hK _ ?_;clear hK K
 refine zA ?_;refine bE rfl (fun ht=>by simp [h0] at ht) (fun _=>?_)
 refine zC ?_;refine zE ?_;refine zE ?_;refine zJ (fun K hK=>?_);simp (disch:=omega) only [push_cast,↓iC9,simprocAttr];refine hK _ ?_;clear hK K
 refine zA ?_;refine zD ?_;refine dW (fun i:Nat=>⟨[(0,.elt false [[.lst false (fT d.L),.lst false (rms R),.v (.int .i64 d.steps),.v (.int .i64 d.stamps),.v (.int .i64 d.armed),.v (.bool d.down)]] 6 0 0),(1,.v (.string p)),(2,.v (.int .i64 more)),(7,.v (.int .i64 i))],[]⟩) (fun i=>i≤R.length∧∀ k (hk:k < R.length),k < i→¬ (R[k].1=vol p∧R[k].2 < used d (vol p) + more)) (fun i=>R.length - i) [0,1,2,7] [] 0 rfl ⟨Nat.zero_le _,fun k _ h=>absurd h (Nat.not_lt_zero _)⟩ ?_
 rintro i ⟨hi,hn⟩
 by_cases hlt:i < R.length
 ·refine zE ?_;refine zE ?_;refine zJ (fun K hK=>?_);simp (disch:=omega) only [push_cast,↓iC9,simprocAttr,qQ,hw,hg];refine hK _ ?_;clear hK K
  refine zA ?_;refine yD rfl ?_;refine zC ?_;refine zE ?_
  have hu:used d (vol p)=qK (vol p) d.L:=rfl
  generalize hub:used d (vol p)=u at *
  by_cases hv:R[i].1=vol p
  ·have hd:decide (R[i].1=vol p)=true:=decide_eq_true hv
   refine zD ?_;refine zE ?_;refine kL 28 mixed (by kernel_rfl) (fun K hK=>?_);simp (disch:=omega) only [push_cast,↓iC9,simprocAttr,qQ,xS,xT hlt,hw,hg,hd]
   refine lS zFq cv (.cons (.v _) .nil) ?_;with_reducible refine aM ?_;simp (disch:=omega) only [push_cast,↓iC9,simprocAttr,qQ,xS,xT hlt,hw,hg,hd]
   refine lS zFq cv (.cons (.v _) .nil) ?_;with_reducible refine aM ?_;simp (disch:=omega) only [push_cast,↓iC9,simprocAttr,qQ,xS,xT hlt,hw,hg,hd]
   refine lS zT6 cu (.cons hE (.cons (.v _) .nil)) ?_;with_reducible refine aM ?_;simp (disch:=omega) only [push_cast,↓iC9,simprocAttr,qQ,xS,xT hlt,hw,hg,hd]
   with_reducible refine aM ?_;simp (disch:=omega) only [push_cast,↓iC9,simprocAttr]
   refine hK _ ?_;clear hK K;refine zA ?_
   by_cases hgt:R[i].2 < u + more
   ·refine bE rfl (fun _=>?_) (fun hf=>by simp [hgt] at hf)
    rw [zG3 hR hnd hlt hv (by rw [hub];exact hgt) h0]
    refine zE ?_;refine zJ (fun K hK=>?_);simp (disch:=omega) only [push_cast,↓iC9,simprocAttr];refine hK _ ?_;clear hK K
    refine zA ?_;refine zW ?_;refine zL ?_;refine zK ?_;refine zK ?_;refine zL ?_;refine zK ?_;simp only [yA,yM,yH,yE,aL,aU,yK,yJ,zS,zM,Nat.reduceEqDiff,reduceIte,reduceCtorEq];exact bK rfl
   ·refine bE rfl (fun ht=>by simp [hgt] at ht) (fun _=>?_)
    refine zC ?_;refine zB ?_;refine zA ?_;refine zJ (fun K hK=>?_);simp (disch:=omega) only [push_cast,↓iC9,simprocAttr];refine hK _ ?_;clear hK K
    refine zA ?_;refine ⟨i + 1,rfl,⟨hlt,fun k hk hk2=>?_⟩,by omega⟩
    by_cases e:k=i
    ·subst e;exact fun h=>hgt h.2
    ·exact hn k hk (by omega)
  ·have hd:decide (R[i].1=vol p)=false:=decide_eq_false hv
   refine zD ?_;refine zE ?_;refine kL 28 mixed (by kernel_rfl) (fun K hK=>?_);simp (disch:=omega) only [push_cast,↓iC9,simprocAttr,qQ,xS,xT hlt,hw,hg,hd]
   refine lS zFq cv (.cons (.v _) .nil) ?_;with_reducible refine aM ?_;simp (disch:=omega) only [push_cast,↓iC9,simprocAttr,qQ,xS,xT hlt,hw,hg,hd]
   with_reducible refine aM ?_;simp (disch:=omega) only [push_cast,↓iC9,simprocAttr]
   refine hK _ ?_;clear hK K;refine zA ?_;refine yC rfl ?_;refine zC ?_;refine zB ?_;refine zA ?_;refine zJ (fun K hK=>?_);simp (disch:=omega) only [push_cast,↓iC9,simprocAttr];refine hK _ ?_;clear hK K
   refine zA ?_;refine ⟨i + 1,rfl,⟨hlt,fun k hk hk2=>?_⟩,by omega⟩
   by_cases e:k=i
   ·subst e;exact fun h=>hv h.1
   ·exact hn k hk (by omega)
 ·have hrg:jY d p more=true:=zEn hR fun k hk=>hn k hk (by omega)
  rw [hrg];refine zE ?_;refine zE ?_;refine zJ (fun K hK=>?_);simp (disch:=omega) only [push_cast,↓iC9,simprocAttr,qQ,hw,hg];refine hK _ ?_;clear hK K
  refine zA ?_;refine yC rfl ?_;refine zT ?_;refine zG ?_;refine zG ?_;refine zH ?_;refine zE ?_;refine zJ (fun K hK=>?_);simp (disch:=omega) only [push_cast,↓iC9,simprocAttr];refine hK _ ?_;clear hK K
  refine zA ?_;refine zW ?_;simp only [yA,yM,yH,yE,aL,aU,yK,yJ,zS,zM,Nat.reduceEqDiff,reduceIte,reduceCtorEq];exact bK rfl
set_option maxHeartbeats 1000000 in
theorem qC2 (d:Dk) (R:LN) (fr nw:Bool) (ha:-1≤d.armed∧d.armed≤9223372036854775807) (hs:0≤d.steps∧d.steps≤1099511627776):HFunS Tryz.prog 67 [.ptr 0 6 0 0] (rst d R fr nw) (fun h st=>h=.v (.int .i64 (aW d).1)∧st=rst (aW d).2 R fr nw):=by
 refine pS (N:=33) Tryz.func67 rfl Tryz.ntmps67 Tryz.results67 (by simp) ?_
 obtain ⟨L,Rq,steps,stamps,armed,down,n,m⟩:=d;simp only [rst,iX] at ha hs ⊢;unfold aW
 by_cases h0:armed=0
 ·subst h0;refine zE ?_;refine zJ (fun K hK=>?_);simp (disch:=omega) only [push_cast,↓iC9,simprocAttr];refine hK _ ?_;clear hK K
  refine zE ?_;refine zE ?_;refine zJ (fun K hK=>?_);simp (disch:=omega) only [push_cast,↓iC9,simprocAttr];refine hK _ ?_;clear hK K
  refine zA ?_;refine yD rfl ?_;refine zE ?_;refine zJ (fun K hK=>?_);simp (disch:=omega) only [push_cast,↓iC9,simprocAttr];refine hK _ ?_;clear hK K
  refine zE ?_;refine zJ (fun K hK=>?_);simp (disch:=omega) only [push_cast,↓iC9,simprocAttr];refine hK _ ?_;clear hK K
  refine zE ?_;refine zJ (fun K hK=>?_);simp (disch:=omega) only [push_cast,↓iC9,simprocAttr];refine hK _ ?_;clear hK K
  refine zA ?_;refine zW ?_;refine zK ?_;simp only [aR,aZ,yH,yE,yK,yJ,aH,zS,zM,Nat.reduceEqDiff,reduceIte,reduceCtorEq];refine cZ [0,1] (by decide) (by decide) (by simp only [push_cast,simprocAttr]) (by simp only [push_cast,simprocAttr]) (by simp only [push_cast,simprocAttr];rfl) (by simp only [push_cast,simprocAttr];rfl) ?_
  exact ⟨rfl,rfl⟩
 ·simp only [if_neg h0];refine zE ?_;refine zJ (fun K hK=>?_);simp (disch:=omega) only [push_cast,↓iC9,simprocAttr];refine hK _ ?_;clear hK K
  refine zE ?_;refine zE ?_;refine zJ (fun K hK=>?_);simp (disch:=omega) only [push_cast,↓iC9,simprocAttr];refine hK _ ?_;clear hK K
  refine zA ?_;refine yC rfl ?_;refine zC ?_;refine zE ?_;refine zE ?_;refine zJ (fun K hK=>?_);simp (disch:=omega) only [push_cast,↓iC9,simprocAttr];refine hK _ ?_;clear hK K
  refine zA ?_
  by_cases h1:0 < armed
  ·simp only [if_pos h1];refine bE rfl (fun _=>?_) (fun hf=>by simp at hf;omega)
   refine zJ (fun K hK=>?_);simp (disch:=omega) only [push_cast,↓iC9,simprocAttr];refine hK _ ?_;clear hK K
   refine zE ?_;refine zJ (fun K hK=>?_);simp (disch:=omega) only [push_cast,↓iC9,simprocAttr];refine hK _ ?_;clear hK K
   refine zE ?_;refine zJ (fun K hK=>?_);simp (disch:=omega) only [push_cast,↓iC9,simprocAttr];refine hK _ ?_;clear hK K
   refine zA ?_;refine zW ?_;simp only [aR,aZ,yH,yE,yK,yJ,aH,zS,zM,Nat.reduceEqDiff,reduceIte,reduceCtorEq];refine cZ [0,1] (by decide) (by decide) (by simp only [push_cast,simprocAttr]) (by simp only [push_cast,simprocAttr]) (by simp only [push_cast,simprocAttr];rfl) (by simp only [push_cast,simprocAttr];rfl) ?_
   exact ⟨rfl,rfl⟩
  ·simp only [if_neg h1];refine bE rfl (fun hf=>by simp at hf;omega) (fun _=>?_)
   refine zC ?_;refine zE ?_;refine zJ (fun K hK=>?_);simp (disch:=omega) only [push_cast,↓iC9,simprocAttr];refine hK _ ?_;clear hK K
   refine zE ?_;refine zJ (fun K hK=>?_);simp (disch:=omega) only [push_cast,↓iC9,simprocAttr];refine hK _ ?_;clear hK K
   refine zA ?_;refine zW ?_;simp only [aR,aZ,yH,yE,yK,yJ,aH,zS,zM,Nat.reduceEqDiff,reduceIte,reduceCtorEq];refine cZ [0,1] (by decide) (by decide) (by simp only [push_cast,simprocAttr]) (by simp only [push_cast,simprocAttr]) (by simp only [push_cast,simprocAttr];rfl) (by simp only [push_cast,simprocAttr];rfl) ?_
   exact ⟨rfl,rfl⟩
set_option maxHeartbeats 1000000 in
theorem pF (d:Dk) (R:LN) (fr nw:Bool) (p:ByteArray) (x:Itm) (hs:0≤d.stamps∧d.stamps≤1099511627776):HFunS Tryz.prog 71 [.ptr 0 6 0 0,zQj p x] (rst d R fr nw) (fun h st=>h=zQj p { x with stamp:=d.stamps + 1 }∧st=rst { d with stamps:=d.stamps + 1 } R fr nw):=by
 refine pS (N:=18) Tryz.func71 rfl Tryz.ntmps71 Tryz.results71 (by simp) ?_
 obtain ⟨L,Rq,steps,stamps,armed,down,n,m⟩:=d;obtain ⟨a,b,c,e,f,g⟩:=x;simp only [rst,iX] at hs ⊢;refine zE ?_;refine zJ (fun K hK=>?_);simp (disch:=omega) only [push_cast,↓iC9,simprocAttr];refine hK _ ?_;clear hK K
 refine zE ?_;refine zJ (fun K hK=>?_);simp (disch:=omega) only [push_cast,↓iC9,simprocAttr];refine hK _ ?_;clear hK K
 refine zE ?_;refine zJ (fun K hK=>?_);simp (disch:=omega) only [push_cast,↓iC9,simprocAttr];refine hK _ ?_;clear hK K
 refine zE ?_;refine zJ (fun K hK=>?_);simp (disch:=omega) only [push_cast,↓iC9,simprocAttr];refine hK _ ?_;clear hK K
 refine zA ?_;refine zW ?_;simp (disch:=omega) only [aR,aZ,yH,yE,aL,aU,yK,yJ,aH,push_cast,↓iC9,Nat.reduceBEq,Nat.reduceAdd,Nat.reduceLT,Nat.reduceEqDiff,reduceIte,reduceCtorEq,Nat.reduceLeDiff,Nat.reduceSub,List.reduceReplicate,Nat.reduceMul,Int.reduceToNat,Int.toNat_natCast,Nat.reducePow,reduceIte];refine cZ [0,1] (by decide) (by decide) (by simp only [push_cast,simprocAttr]) (by simp only [push_cast,simprocAttr]) (by simp only [push_cast,simprocAttr];rfl) (by simp only [push_cast,simprocAttr];rfl) ?_
 exact ⟨rfl,rfl⟩
set_option maxHeartbeats 2000000 in
theorem zA9 (d:Dk) (R:LN) (fr nw:Bool) (p:ByteArray) (hl:d.L.length≤4194304):HFunS Tryz.prog 73 [.ptr 0 6 0 0,.v (.string p)] (rst d R fr nw) (fun h st=>h=.tup []∧st=rst { d with L:=del p d.L } R true nw):=by
 refine pS (N:=39) Tryz.func73 rfl Tryz.ntmps73 Tryz.results73 (by simp) ?_
 obtain ⟨L,Rq,steps,stamps,armed,down,n,m⟩:=d;simp only [rst,iX] at hl ⊢;refine zE ?_;refine zJ (fun K hK=>?_);simp (disch:=omega) only [push_cast,↓iC9,simprocAttr];refine hK _ ?_;clear hK K
 refine zE ?_;refine zE ?_;refine zJ (fun K hK=>?_);simp (disch:=omega) only [push_cast,↓iC9,simprocAttr];refine hK _ ?_;clear hK K
 refine zA ?_;refine zD ?_;refine qA3 4 9000 76 7 rfl (by simp only [lK,pH,pK,fC,dV,eV,dS,iS,eZ,fA,eY,eX,gC,fB,eW,dU,fW,fY,fX,iR,jB,gU,Nat.reduceBEq,Nat.reduceEqDiff,reduceIte,cond_true,cond_false,List.map_cons,List.map_nil];exact rfl) ?_
 refine dW (fun i:Nat=>⟨[(0,.ptr 0 6 0 0),(1,.v (.string p)),(4,.own 9000),(5,.v (.int .i64 i))],[(9000,.sl true 76 7 (fT (del p (L.take i)))),(0,.bx false 68 [.lst fr (fT L),.own 1,.v (.int .i64 steps),.v (.int .i64 stamps),.v (.int .i64 armed),.v (.bool down)]),(1,.sl nw 126 2 (rms R))]⟩) (fun i=>i≤L.length) (fun i=>L.length - i) [0,1,4,5] [9000,0,1] 0 (by simp only [zZ,zR,zP,zQ,zN,zS,zM,zX,zU,Nat.reduceEqDiff,reduceIte];rfl) (Nat.zero_le _) ?_
 rintro i hi
 by_cases hlt:i < L.length
 ·have h1:=zLt p hlt
  have h2:=qH5 p (L.take i)
  rw [List.length_take] at h2;refine zE ?_;refine zE ?_;refine zJ (fun K hK=>?_);simp (disch:=omega) only [push_cast,↓iC9,simprocAttr,bG];refine hK _ ?_;clear hK K
  refine zA ?_;refine yD rfl ?_;refine zC ?_;refine zE ?_
  by_cases hv:L[i].1=p
  ·have hd:decide (L[i].1=p)=true:=decide_eq_true hv
   rw [if_pos hv] at h1;refine zD ?_;refine zE ?_;refine zJ (fun K hK=>?_);simp (disch:=omega) only [push_cast,↓iC9,simprocAttr,bG,bU,bY hlt,hd];refine hK _ ?_;clear hK K
   refine yC rfl ?_;refine zC ?_;refine zB ?_;refine zA ?_;refine zJ (fun K hK=>?_);simp (disch:=omega) only [push_cast,↓iC9,simprocAttr];refine hK _ ?_;clear hK K
   refine zA ?_;exact ⟨i + 1,by simp only [zZ,zR,zP,zQ,zN,zS,zM,zX,zU,Nat.reduceEqDiff,reduceIte];rw [h1];rfl,hlt,by omega⟩
  ·have hd:decide (L[i].1=p)=false:=decide_eq_false hv
   rw [if_neg hv] at h1;generalize del p (L.take i)=a at *
   refine zD ?_;refine zE ?_;refine zJ (fun K hK=>?_);simp (disch:=omega) only [push_cast,↓iC9,simprocAttr,bG,bU,bY hlt,hd];refine hK _ ?_;clear hK K
   refine yD rfl ?_;refine zJ (fun K hK=>?_);simp (disch:=omega) only [push_cast,↓iC9,simprocAttr,bG,bU,bY hlt]
   (repeat refine ⟨by first|omega|decide|((repeat' apply And.intro) <;> first|omega|decide),?_⟩)
   refine hK _ ?_;clear hK K;refine zB ?_;refine zA ?_;refine zJ (fun K hK=>?_);simp (disch:=omega) only [push_cast,↓iC9,simprocAttr];refine hK _ ?_;clear hK K
   refine zA ?_;exact ⟨i + 1,by simp only [zZ,zR,zP,zQ,zN,zS,zM,zX,zU,Nat.reduceEqDiff,reduceIte];rw [h1,← uL];rfl,hlt,by omega⟩
 ·have hne:i=L.length:=by omega
  subst hne;rw [List.take_length];refine zE ?_;refine zE ?_;refine zJ (fun K hK=>?_);simp (disch:=omega) only [push_cast,↓iC9,simprocAttr,bG];refine hK _ ?_;clear hK K
  refine zA ?_;refine yC rfl ?_;refine zT ?_;refine zG ?_;refine zG ?_;refine zH ?_;refine zA ?_;refine xH 9000 rfl (by simp only [oK,lX,jQ,lJ,jH,vF,lP,lQ,jN,lN,lM,oQ,lR,lL,oF,oG,oH,Nat.reduceEqDiff,reduceIte,List.map_cons,List.map_nil,List.map_append];exact rfl) ?_
  refine zJ (fun K hK=>?_);simp (disch:=omega) only [push_cast,↓iC9,simprocAttr];refine hK _ ?_;clear hK K
  skip
  simp only [aR,aZ,yH,yE,yK,yJ,aH,zS,zM,Nat.reduceEqDiff,reduceIte,reduceCtorEq];refine cZ [0,1] (by decide) (by decide) (by simp only [push_cast,simprocAttr]) (by simp only [push_cast,simprocAttr]) (by simp only [push_cast,simprocAttr];rfl) (by simp only [push_cast,simprocAttr];rfl) ?_
  exact ⟨rfl,rfl⟩
end Go.Proofs.YtlihpgmgiehjkaaGreatDoor
