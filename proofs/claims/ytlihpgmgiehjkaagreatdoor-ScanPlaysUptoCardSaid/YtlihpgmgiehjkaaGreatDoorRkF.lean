/-
  The reference's disk: Mkdir, Write, walked.
-/
import Derived.Test.YtlihpgmgiehjkaaGreatDoorDkC
import Derived.Test.YtlihpgmgiehjkaaGreatDoorDkD
set_option linter.unusedSimpArgs false
set_option linter.unusedVariables false
set_option maxRecDepth 20000
namespace Go.Dk
open Go Go.Eng Go.Tr
structure ROk (d:Dk) (R:LN):Prop where
 rise:eU d.L
 len:d.L.length≤4194303
 keys:∀ e ∈ d.L,e.1.size≤1048576
 tot:tot d.L≤1073741824
 steps:0≤d.steps∧d.steps≤1099511627776
 stamps:0≤d.stamps∧d.stamps≤1099511627776
 armed:-1≤d.armed∧d.armed≤9223372036854775807
 look:∀ v,aS R v=aS d.R v
 nod:(R.map fun e=>e.1).Nodup
 rl:R.length≤4194303
theorem fG {st:aJ} {d:Dk} {R:LN} {id j:Nat} {fr nw nw2:Bool} (h:rlk st id=some (.bx nw 68 [.lst fr (fT d.L),.own j,.v (.int .i64 d.steps),.v (.int .i64 d.stamps),.v (.int .i64 d.armed),.v (.bool d.down)])) (h2:rlk st j=some (.sl nw2 126 2 (rms R))):Lend st (.ptr id 6 0 0) (dE d R):=by
 refine .box h rfl rfl fun k h3 h4=>?_
 match k,h3 with
|0,_=>exact zPm (qWm _)
|1,_=>exact qLi (zA6 _) h2
|2,_=>exact .v _
|3,_=>exact .v _
|4,_=>exact .v _
|5,_=>exact .v _
theorem zLw {p:ByteArray} (h:pOk p 6=true):decide (qFo p=1)=decide (par p={ data:=#[] }):=by
 rw [decide_eq_decide,qNy h,qE8]
 have hx:par p={ data:=#[] }↔qA6 p=0:=by
  have hl:=zBm (nZ h)
  constructor
  ·intro e
   have:=congrArg ByteArray.size e
   rw [par,ByteArray.size_extract] at this
   have h0:({ data:=#[] }:ByteArray).size=0:=rfl
   omega
  ·intro e;rw [par,e];exact ByteArray.size_eq_zero_iff.1 (by rw [ByteArray.size_extract];omega)
 rw [hx]
 have cnt:∀ (l:List UInt8),(l.count 47=0↔eB l=none):=by
  intro l
  induction l with
 |nil=>simp [eB]
 |cons c r ih =>
   rw [eB]
   by_cases e:c=47
   ·subst e;rw [List.count_cons_self]
    cases eB r <;> simp
   ·rw [List.count_cons_of_ne e,ih]
    cases eB r <;> simp [e]
 have first:∀ (l:List UInt8),eB l=some 0→∃ r,l=47 :: r:=by
  intro l hl
  cases l with
 |nil=>simp [eB] at hl
 |cons c r =>
   rw [eB] at hl
   cases hr:eB r with
  |some i=>rw [hr] at hl;simp at hl
  |none =>
    rw [hr] at hl
    by_cases e:c=47
    ·exact ⟨r,by rw [e]⟩
    ·simp [e] at hl
 constructor
 ·intro e
  have:p.data.toList.count 47=0:=by omega
  unfold qA6;rw [(cnt _).1 this];rfl
 ·intro e;unfold qA6 at e
  cases hl:eB p.data.toList with
 |none=>rw [(cnt _).2 hl];rfl
 |some i =>
   rw [hl] at e
   have e:i=0:=e
   subst e;obtain ⟨r,hr⟩:=first _ hl
   exfalso
   have hp:parts p=mkB [] :: (kW r).map mkB:=by rw [parts,hr,jF];rfl
   simp only [pOk,hp,Bool.and_eq_true,List.all_cons] at h
   have:=h.2.1
   simp [fJ,mkB,ByteArray.size] at this
theorem qBw {d:Dk} {p:ByteArray} {k:Int} (h:may d p k=0):pOk p 6=true:=by
 unfold may at h
 cases hp:pOk p 6 with
|true=>rfl
|false =>
  rw [hp] at h
  cases hd:d.down <;> simp [hd] at h
theorem qDo (d:Dk) (q:ByteArray):decide (fD d q=1)=(aP d q).dir:=by
 rcases kR d q with ⟨a,b⟩|⟨a,a2,b⟩|⟨a,a2,b⟩
 ·have:aP d q=itm0:=by
   unfold has at a;unfold aP
   cases h:aS d.L q with
  |none=>rfl
  |some x=>rw [h] at a;cases a
  rw [b,this];rfl
 ·rw [b,a2];rfl
 ·rw [b,a2];rfl
theorem vG {d:Dk} {p:ByteArray} {k:Int} (h:may d p k=0):qW6 d p=fF d p:=by
 rw [qW6,fF,zLw (qBw h),qDo]
theorem qQ5 {d:Dk} {p:ByteArray} (h:plc p d.L=none):aP d p=itm0:=by rw [aP,(wL h).1];rfl
theorem ROk.l4 {d:Dk} {R:LN} (h:ROk d R):d.L.length≤4194304:=by have:=h.len;omega
theorem ROk.t2 {d:Dk} {R:LN} (h:ROk d R):Dk.tot d.L≤1099511627776:=by have:=h.tot;omega
end Go.Dk
namespace Go.Proofs.YtlihpgmgiehjkaaGreatDoor
open Go Go.Eng Go.RowKit Go.Tr Go.Dk
set_option maxHeartbeats 2000000 in
theorem zG4 (d:Dk) (R:LN) (fr nw:Bool) (ok:ROk d R) (p:ByteArray) (hs:p.size≤1048576):HFunS Tryz.prog 29 [.ptr 0 6 0 0,.v (.string p)] (rst d R fr nw) (fun h st=>h=.v (.int .i64 (eG d p).1)∧∃ fr',st=rst (eG d p).2 R fr' nw):=by
 refine pS (N:=29) Tryz.func29 rfl Tryz.ntmps29 Tryz.results29 (by simp) ?_
 have c1:=sL d R p 0 hs
 have c2:=qTr d R p hs ok.l4
 have c3:=oJ d R p ok.l4
 have c4:=qC2 d R fr nw ok.armed ok.steps
 have c5:=qE2 (aW d).2 R fr nw p qFi (by rw [(dL d).1];exact ok.rise) (by rw [(dL d).1];exact ok.l4)
 simp only [rst,iX] at c4 c5 ⊢;refine zE ?_;refine zJ (fun K hK=>?_);simp (disch:=omega) only [push_cast,↓iC9,simprocAttr];refine hK _ ?_;clear hK K
 refine zE ?_;refine zJ (fun K hK=>?_);simp (disch:=omega) only [push_cast,↓iC9,simprocAttr]
 refine cK zFs c1 (.cons (fG rfl rfl) (.cons (.v _) (.cons (.v _) .nil))) ?_;with_reducible refine aM ?_;simp (disch:=omega) only [push_cast,↓iC9,simprocAttr]
 refine hK _ ?_;clear hK K;refine zE ?_;refine zE ?_;refine zJ (fun K hK=>?_);simp (disch:=omega) only [push_cast,↓iC9,simprocAttr];refine hK _ ?_;clear hK K
 refine zA ?_
 rcases (Decidable.em (may d p 0=0)).symm with h0|h0
 ·have hr:eG d p=(may d p 0,d):=by simp [eG,h0]
  rw [hr];refine bE rfl (fun _=>?_) (fun h=>by simp [h0] at h)
  refine zE ?_;refine zJ (fun K hK=>?_);simp (disch:=omega) only [push_cast,↓iC9,simprocAttr];refine hK _ ?_;clear hK K
  refine zA ?_;refine zW ?_;refine zK ?_;simp only [aR,aZ,yH,yE,yK,yJ,aH,zS,zM,Nat.reduceEqDiff,reduceIte,reduceCtorEq];refine cZ [0,1] (by decide) (by decide) (by simp only [push_cast,simprocAttr]) (by simp only [push_cast,simprocAttr]) (by simp only [push_cast,simprocAttr];rfl) (by simp only [push_cast,simprocAttr];rfl) ?_
  exact ⟨rfl,fr,rfl⟩
 refine bE rfl (fun h=>by simp [h0] at h) (fun _=>?_)
 rw [vG h0] at c2;refine zC ?_;refine zE ?_;refine zE ?_;refine zJ (fun K hK=>?_);simp (disch:=omega) only [push_cast,↓iC9,simprocAttr]
 refine cK zQz c2 (.cons (fG rfl rfl) (.cons (.v _) .nil)) ?_;with_reducible refine aM ?_;simp (disch:=omega) only [push_cast,↓iC9,simprocAttr]
 refine hK _ ?_;clear hK K;refine zA ?_
 rcases (Decidable.em (fF d p=true)).symm with h1|h1
 ·have hr:eG d p=(11,d):=by simp [eG,h0,h1]
  rw [hr];refine bE rfl (fun _=>?_) (fun h=>by simp [h1] at h)
  refine zE ?_;refine zJ (fun K hK=>?_);simp (disch:=omega) only [push_cast,↓iC9,simprocAttr];refine hK _ ?_;clear hK K
  refine zA ?_;refine zW ?_;refine zK ?_;simp only [aR,aZ,yH,yE,yK,yJ,aH,zS,zM,Nat.reduceEqDiff,reduceIte,reduceCtorEq];refine cZ [0,1] (by decide) (by decide) (by simp only [push_cast,simprocAttr]) (by simp only [push_cast,simprocAttr]) (by simp only [push_cast,simprocAttr];rfl) (by simp only [push_cast,simprocAttr];rfl) ?_
  exact ⟨rfl,fr,rfl⟩
 refine bE rfl (fun h=>by simp [h1] at h) (fun _=>?_)
 refine zC ?_;refine zE ?_;refine zE ?_;refine zJ (fun K hK=>?_);simp (disch:=omega) only [push_cast,↓iC9,simprocAttr]
 refine cK vM c3 (.cons (fG rfl rfl) (.cons (.v _) .nil)) ?_;with_reducible refine aM ?_;simp (disch:=omega) only [push_cast,↓iC9,simprocAttr]
 refine hK _ ?_;clear hK K;refine zA ?_
 by_cases h2:fD d p=2
 ·have hr:eG d p=(12,d):=by
   rcases kR d p with ⟨a,b⟩|⟨a,a2,b⟩|⟨a,a2,b⟩
   ·omega
   ·omega
   ·simp [eG,h0,h1,a,a2]
  rw [hr];refine bE rfl (fun _=>?_) (fun h=>by simp [h2] at h)
  refine zE ?_;refine zJ (fun K hK=>?_);simp (disch:=omega) only [push_cast,↓iC9,simprocAttr];refine hK _ ?_;clear hK K
  refine zA ?_;refine zW ?_;refine zK ?_;simp only [aR,aZ,yH,yE,yK,yJ,aH,zS,zM,Nat.reduceEqDiff,reduceIte,reduceCtorEq];refine cZ [0,1] (by decide) (by decide) (by simp only [push_cast,simprocAttr]) (by simp only [push_cast,simprocAttr]) (by simp only [push_cast,simprocAttr];rfl) (by simp only [push_cast,simprocAttr];rfl) ?_
  exact ⟨rfl,fr,rfl⟩
 refine bE rfl (fun h=>by simp [h2] at h) (fun _=>?_)
 have h3:¬ (has d p=true∧(aP d p).dir=false):=by
  rcases kR d p with ⟨a,b⟩|⟨a,a2,b⟩|⟨a,a2,b⟩
  ·simp [a]
  ·simp [a2]
  ·omega
 refine yB [0,1] [0,1] (by simp only [zZ,zR,zP,zQ,zN,zS,zM,zX,zU,Nat.reduceEqDiff,reduceIte];exact rfl) ?_
 refine zC ?_;refine zE ?_;refine zJ (fun K hK=>?_);simp (disch:=omega) only [push_cast,↓iC9,simprocAttr]
 refine gW 168 [0,1] zLz (c4) rfl (by decide) (by decide) (by simp only [push_cast,simprocAttr];try rfl) (by simp only [push_cast,simprocAttr];try rfl) ?_
 rintro _ _ ⟨rfl,rfl⟩;refine aM ?_;simp (disch:=omega) only [push_cast,↓iC9,simprocAttr];refine hK _ ?_;clear hK K;refine zE ?_;refine zE ?_;refine zJ (fun K hK=>?_);simp (disch:=omega) only [push_cast,↓iC9,simprocAttr];refine hK _ ?_;clear hK K
 refine zA ?_
 rcases (iU d).symm with ⟨h4,h5⟩|⟨h4,h5⟩
 ·have hr:eG d p=aW d:=by simp [eG,h0,h1,h3,h4]
  rw [hr,h4];refine yC rfl ?_;refine zC ?_;refine zE ?_;refine zJ (fun K hK=>?_);simp (disch:=omega) only [push_cast,↓iC9,simprocAttr];refine hK _ ?_;clear hK K
  refine zA ?_;refine zW ?_;simp only [aR,aZ,yH,yE,yK,yJ,aH,zS,zM,Nat.reduceEqDiff,reduceIte,reduceCtorEq];refine cZ [0,1] (by decide) (by decide) (by simp only [push_cast,simprocAttr]) (by simp only [push_cast,simprocAttr]) (by simp only [push_cast,simprocAttr];rfl) (by simp only [push_cast,simprocAttr];rfl) ?_
  exact ⟨rfl,fr,rfl⟩
 have hr:eG d p=(0,{ (aW d).2 with L:=put p qFi d.L,n:=d.n + 1 }):=by simp [eG,h0,h1,h3,h4]
 rw [hr,h4];refine yD rfl ?_;refine zJ (fun K hK=>?_);simp (disch:=omega) only [push_cast,↓iC9,simprocAttr]
 refine gW 216 [0,1] zFr (c5) rfl (by decide) (by decide) (by simp only [push_cast,simprocAttr];try rfl) (by simp only [push_cast,simprocAttr];try rfl) ?_
 rintro _ _ ⟨rfl,rfl⟩;refine aM ?_;simp (disch:=omega) only [push_cast,↓iC9,simprocAttr];refine hK _ ?_;clear hK K;refine zE ?_;refine zJ (fun K hK=>?_);simp (disch:=omega) only [push_cast,↓iC9,simprocAttr];refine hK _ ?_;clear hK K
 refine zA ?_;refine zW ?_;simp only [aR,aZ,yH,yE,yK,yJ,aH,zS,zM,Nat.reduceEqDiff,reduceIte,reduceCtorEq];refine cZ [0,1] (by decide) (by decide) (by simp only [push_cast,simprocAttr]) (by simp only [push_cast,simprocAttr]) (by simp only [push_cast,simprocAttr];rfl) (by simp only [push_cast,simprocAttr];rfl) ?_
 refine ⟨rfl,true,?_⟩;rw [(dL d).1]
set_option maxHeartbeats 4000000 in
theorem zGy (d:Dk) (R:LN) (fr nw:Bool) (ok:ROk d R) (p s:ByteArray) (hs:p.size≤1048576) (hz:s.size≤1048576):HFunS Tryz.prog 30 [.ptr 0 6 0 0,.v (.string p),.v (.string s)] (rst d R fr nw) (fun h st=>h=.v (.int .i64 (dR d p s).1)∧∃ fr',st=rst (dR d p s).2 R fr' nw):=by
 refine pS (N:=62) Tryz.func30 rfl Tryz.ntmps30 Tryz.results30 (by simp) ?_
 have c1:=sL d R p 1 hs
 have c2:=qTr d R p hs ok.l4
 have c3:=oJ d R p ok.l4
 have cp:=pG d R p ok.l4
 have hib:=lF d p
 have htb:=ok.tot
 have cf:=qTs d R p ((s.size:Int) - (aP d p).data.size) hs ok.l4 ok.keys ok.t2 ok.look ok.nod (by have:=ok.rl;omega) (by omega)
 have c4:=qC2 d R fr nw ok.armed ok.steps
 have c6:=pF (aW d).2 R fr nw p { aP d p with data:=s,loose:=true,anew:=true } (by rw [(dL d).2.2.2.2];exact ok.stamps)
 have c5:=qE2 { (aW d).2 with stamps:=(aW d).2.stamps + 1 } R fr nw p { aP d p with data:=s,loose:=true,anew:=true,stamp:=(aW d).2.stamps + 1 } (by show eU (aW d).2.L;rw [(dL d).1];exact ok.rise) (by show (aW d).2.L.length≤_;rw [(dL d).1];exact ok.l4)
 simp only [rst,iX] at c4 c5 c6 ⊢;refine zE ?_;refine zJ (fun K hK=>?_);simp (disch:=omega) only [push_cast,↓iC9,simprocAttr];refine hK _ ?_;clear hK K
 refine zE ?_;refine zJ (fun K hK=>?_);simp (disch:=omega) only [push_cast,↓iC9,simprocAttr]
 refine cK zFs c1 (.cons (fG rfl rfl) (.cons (.v _) (.cons (.v _) .nil))) ?_;with_reducible refine aM ?_;simp (disch:=omega) only [push_cast,↓iC9,simprocAttr]
 refine hK _ ?_;clear hK K;refine zE ?_;refine zE ?_;refine zJ (fun K hK=>?_);simp (disch:=omega) only [push_cast,↓iC9,simprocAttr];refine hK _ ?_;clear hK K
 refine zA ?_
 rcases (Decidable.em (may d p 1=0)).symm with h0|h0
 ·have hr:dR d p s=(may d p 1,d):=by simp [dR,h0]
  rw [hr];refine bE rfl (fun _=>?_) (fun h=>by simp [h0] at h)
  refine zE ?_;refine zJ (fun K hK=>?_);simp (disch:=omega) only [push_cast,↓iC9,simprocAttr];refine hK _ ?_;clear hK K
  refine zA ?_;refine zW ?_;refine zK ?_;simp only [aR,aZ,yH,yE,yK,yJ,aH,zS,zM,Nat.reduceEqDiff,reduceIte,reduceCtorEq];refine cZ [0,1] (by decide) (by decide) (by simp only [push_cast,simprocAttr]) (by simp only [push_cast,simprocAttr]) (by simp only [push_cast,simprocAttr];rfl) (by simp only [push_cast,simprocAttr];rfl) ?_
  exact ⟨rfl,fr,rfl⟩
 refine bE rfl (fun h=>by simp [h0] at h) (fun _=>?_)
 rw [vG h0] at c2;refine zC ?_;refine zE ?_;refine zE ?_;refine zJ (fun K hK=>?_);simp (disch:=omega) only [push_cast,↓iC9,simprocAttr]
 refine cK zQz c2 (.cons (fG rfl rfl) (.cons (.v _) .nil)) ?_;with_reducible refine aM ?_;simp (disch:=omega) only [push_cast,↓iC9,simprocAttr]
 refine hK _ ?_;clear hK K;refine zA ?_
 rcases (Decidable.em (fF d p=true)).symm with h1|h1
 ·have hr:dR d p s=(11,d):=by simp [dR,h0,h1]
  rw [hr];refine bE rfl (fun _=>?_) (fun h=>by simp [h1] at h)
  refine zE ?_;refine zJ (fun K hK=>?_);simp (disch:=omega) only [push_cast,↓iC9,simprocAttr];refine hK _ ?_;clear hK K
  refine zA ?_;refine zW ?_;refine zK ?_;simp only [aR,aZ,yH,yE,yK,yJ,aH,zS,zM,Nat.reduceEqDiff,reduceIte,reduceCtorEq];refine cZ [0,1] (by decide) (by decide) (by simp only [push_cast,simprocAttr]) (by simp only [push_cast,simprocAttr]) (by simp only [push_cast,simprocAttr];rfl) (by simp only [push_cast,simprocAttr];rfl) ?_
  exact ⟨rfl,fr,rfl⟩
 refine bE rfl (fun h=>by simp [h1] at h) (fun _=>?_)
 have hkd:=qDo d p
 refine zC ?_;refine zE ?_;refine zE ?_;refine zJ (fun K hK=>?_);simp (disch:=omega) only [push_cast,↓iC9,simprocAttr]
 refine cK vM c3 (.cons (fG rfl rfl) (.cons (.v _) .nil)) ?_;with_reducible refine aM ?_;simp (disch:=omega) only [push_cast,↓iC9,simprocAttr]
 refine hK _ ?_;clear hK K;refine zA ?_
 by_cases h2:(aP d p).dir=true
 ·have hr:dR d p s=(12,d):=by simp [dR,h0,h1,h2]
  have h2':fD d p=1:=of_decide_eq_true (hkd.trans h2)
  rw [hr];refine bE rfl (fun _=>?_) (fun h=>by simp [h2'] at h)
  refine zE ?_;refine zJ (fun K hK=>?_);simp (disch:=omega) only [push_cast,↓iC9,simprocAttr];refine hK _ ?_;clear hK K
  refine zA ?_;refine zW ?_;refine zK ?_;simp only [aR,aZ,yH,yE,yK,yJ,aH,zS,zM,Nat.reduceEqDiff,reduceIte,reduceCtorEq];refine cZ [0,1] (by decide) (by decide) (by simp only [push_cast,simprocAttr]) (by simp only [push_cast,simprocAttr]) (by simp only [push_cast,simprocAttr];rfl) (by simp only [push_cast,simprocAttr];rfl) ?_
  exact ⟨rfl,fr,rfl⟩
 have h2':¬ fD d p=1:=fun e=>h2 (hkd.symm.trans (decide_eq_true e))
 refine bE rfl (fun h=>by simp [h2'] at h) (fun _=>?_)
 refine yB [0,1,2] [0,1] (by simp only [zZ,zR,zP,zQ,zN,zS,zM,zX,zU,Nat.reduceEqDiff,reduceIte];exact rfl) ?_
 refine zC ?_;refine zE ?_;refine zJ (fun K hK=>?_);simp (disch:=omega) only [push_cast,↓iC9,simprocAttr];refine hK _ ?_;clear hK K
 refine yB [0,1,2,8] [0,1,64] (by simp only [zZ,zR,zP,zQ,zN,zS,zM,zX,zU,Nat.reduceEqDiff,reduceIte];exact rfl) ?_
 refine zE ?_;refine zE ?_;refine zJ (fun K hK=>?_);simp (disch:=omega) only [push_cast,↓iC9,simprocAttr]
 refine cK vM c3 (.cons (fG rfl rfl) (.cons (.v _) .nil)) ?_;with_reducible refine aM ?_;simp (disch:=omega) only [push_cast,↓iC9,simprocAttr]
 refine hK _ ?_;clear hK K;refine zA ?_;refine kK (fun _:Unit=>⟨[(0,.ptr 0 6 0 0),(1,.v (.string p)),(2,.v (.string s)),(8,.ptr 64 7 0 0)],[(0,.bx false 68 [.lst fr (fT d.L),.own 1,.v (.int .i64 d.steps),.v (.int .i64 d.stamps),.v (.int .i64 d.armed),.v (.bool d.down)]),(1,.sl nw 126 2 (rms R)),(64,.bx true 76 [.v (.string p),.v (.bool (aP d p).dir),.v (.string (aP d p).data),.v (.string (aP d p).kept),.v (.bool (aP d p).loose),.v (.bool (aP d p).anew),.v (.int .i64 (aP d p).stamp)])]⟩) (fun _=>True) [0,1,2,8] [0,1,64] ?_ ?_
 ·cases hp:plc p d.L with
 |none =>
   have hk0:¬ fD d p=2:=by rw [qDn hp];decide
   refine bE rfl (fun h=>by simp [hk0] at h) (fun _=>?_)
   rw [qQ5 hp];refine zC ?_;exact ⟨(),by simp only [zZ,zR,zP,zQ,zN,zS,zM,zX,zU,Nat.reduceEqDiff,reduceIte];try rfl,trivial⟩
 |some i =>
   obtain ⟨hi,e1,e3,e4,e5⟩:=uJ hp
   have hdf:(aP d p).dir=false:=by simpa using h2
   have hk2:fD d p=2:=by rw [e5,← e3,hdf];rfl
   refine bE rfl (fun _=>?_) (fun h=>by simp [hk2] at h)
   rw [lB hp] at cp;rw [e3];refine kL 9 mixed (by kernel_rfl) (fun K hK=>?_);simp (disch:=omega) only [push_cast,↓iC9,simprocAttr,bG,bU,bY hi]
   refine lS qYo cp (.cons (fG rfl rfl) (.cons (.v _) .nil)) ?_;with_reducible refine aM ?_;simp (disch:=omega) only [push_cast,↓iC9,simprocAttr,bG,bU,bY hi]
   with_reducible refine aM ?_;simp (disch:=omega) only [push_cast,↓iC9,simprocAttr]
   refine hK _ ?_;clear hK K
   skip
   exact ⟨(),by simp only [zZ,zR,zP,zQ,zN,zS,zM,zX,zU,Nat.reduceEqDiff,reduceIte];rw [e1],trivial⟩
 intro S' _ hE _;refine zE ?_;refine zE ?_;refine yB [0,1,2,8] [0,1,64] hE ?_;clear hE;refine zJ (fun K hK=>?_);simp (disch:=omega) only [push_cast,↓iC9,simprocAttr]
 refine cK zQy cf (.cons (fG rfl rfl) (.cons (.v _) (.cons (.v _) .nil))) ?_;with_reducible refine aM ?_;simp (disch:=omega) only [push_cast,↓iC9,simprocAttr]
 refine hK _ ?_;clear hK K;refine zA ?_
 rcases (Decidable.em (jY d p ((s.size:Int) - (aP d p).data.size)=true)).symm with h3|h3
 ·have hr:dR d p s=(13,d):=by simp [dR,h0,h1,h2,h3]
  rw [hr];refine bE rfl (fun _=>?_) (fun h=>by simp [h3] at h)
  refine zE ?_;refine zJ (fun K hK=>?_);simp (disch:=omega) only [push_cast,↓iC9,simprocAttr];refine hK _ ?_;clear hK K
  refine zA ?_;refine zW ?_;refine zK ?_;simp only [aR,aZ,yH,yE,yK,yJ,aH,zS,zM,Nat.reduceEqDiff,reduceIte,reduceCtorEq];refine cZ [0,1] (by decide) (by decide) (by simp only [push_cast,simprocAttr]) (by simp only [push_cast,simprocAttr]) (by simp only [push_cast,simprocAttr];rfl) (by simp only [push_cast,simprocAttr];rfl) ?_
  exact ⟨rfl,fr,rfl⟩
 refine bE rfl (fun h=>by simp [h3] at h) (fun _=>?_)
 refine yB [0,2,8] [0,1,64] (by simp only [zZ,zR,zP,zQ,zN,zS,zM,zX,zU,Nat.reduceEqDiff,reduceIte];exact rfl) ?_
 refine zC ?_;refine zE ?_;refine zJ (fun K hK=>?_);simp (disch:=omega) only [push_cast,↓iC9,simprocAttr]
 refine gW 392 [0,1] zLz (c4) rfl (by decide) (by decide) (by simp only [push_cast,simprocAttr];try rfl) (by simp only [push_cast,simprocAttr];try rfl) ?_
 rintro _ _ ⟨rfl,rfl⟩;refine aM ?_;simp (disch:=omega) only [push_cast,↓iC9,simprocAttr];refine hK _ ?_;clear hK K;refine zE ?_;refine zE ?_;refine zJ (fun K hK=>?_);simp (disch:=omega) only [push_cast,↓iC9,simprocAttr];refine hK _ ?_;clear hK K
 refine zA ?_
 rcases (iU d).symm with ⟨h4,h5⟩|⟨h4,h5⟩
 ·have hr:dR d p s=aW d:=by simp [dR,h0,h1,h2,h3,h4]
  rw [hr,h4];refine yC rfl ?_;refine zC ?_;refine zE ?_;refine zJ (fun K hK=>?_);simp (disch:=omega) only [push_cast,↓iC9,simprocAttr];refine hK _ ?_;clear hK K
  refine zA ?_;refine zW ?_;simp only [aR,aZ,yH,yE,yK,yJ,aH,zS,zM,Nat.reduceEqDiff,reduceIte,reduceCtorEq];refine cZ [0,1] (by decide) (by decide) (by simp only [push_cast,simprocAttr]) (by simp only [push_cast,simprocAttr]) (by simp only [push_cast,simprocAttr];rfl) (by simp only [push_cast,simprocAttr];rfl) ?_
  exact ⟨rfl,fr,rfl⟩
 have hr:dR d p s=(0,jJ (aW d).2 p { aP d p with data:=s,loose:=true,anew:=true }):=by simp [dR,h0,h1,h2,h3,h4]
 rw [hr,h4];refine yD rfl ?_;refine zE ?_;refine zJ (fun K hK=>?_);simp (disch:=omega) only [push_cast,↓iC9,simprocAttr];refine hK _ ?_;clear hK K
 refine yB [0,7,8] [0,1,64] (by simp only [zZ,zR,zP,zQ,zN,zS,zM,zX,zU,Nat.reduceEqDiff,reduceIte];exact rfl) ?_
 refine zJ (fun K hK=>?_);simp (disch:=omega) only [push_cast,↓iC9,simprocAttr]
 refine gW 472 [0,1] zLy (c6) rfl (by decide) (by decide) (by simp only [push_cast,simprocAttr];try rfl) (by simp only [push_cast,simprocAttr];try rfl) ?_
 rintro _ _ ⟨rfl,rfl⟩;refine aM ?_;simp (disch:=omega) only [push_cast,↓iC9,simprocAttr];refine gW 480 [0,1] zFr (c5) rfl (by decide) (by decide) (by simp only [push_cast,simprocAttr];try rfl) (by simp only [push_cast,simprocAttr];try rfl) ?_
 rintro _ _ ⟨rfl,rfl⟩;refine aM ?_;simp (disch:=omega) only [push_cast,↓iC9,simprocAttr];refine hK _ ?_;clear hK K;refine zE ?_;refine zJ (fun K hK=>?_);simp (disch:=omega) only [push_cast,↓iC9,simprocAttr];refine hK _ ?_;clear hK K
 refine zA ?_;refine zW ?_;simp only [aR,aZ,yH,yE,yK,yJ,aH,zS,zM,Nat.reduceEqDiff,reduceIte,reduceCtorEq];refine cZ [0,1] (by decide) (by decide) (by simp only [push_cast,simprocAttr]) (by simp only [push_cast,simprocAttr]) (by simp only [push_cast,simprocAttr];rfl) (by simp only [push_cast,simprocAttr];rfl) ?_
 exact ⟨rfl,true,rfl⟩
end Go.Proofs.YtlihpgmgiehjkaaGreatDoor
