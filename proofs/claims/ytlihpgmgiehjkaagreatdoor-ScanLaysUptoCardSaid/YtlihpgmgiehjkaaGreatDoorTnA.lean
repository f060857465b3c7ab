/-
  A bit fF: the program's and the reference's Turn.
-/
import Derived.Test.YtlihpgmgiehjkaaGreatDoorTrI
import Derived.Test.YtlihpgmgiehjkaaGreatDoorRkA
import Derived.Test.YtlihpgmgiehjkaaGreatDoorPln
import Derived.Test.YtlihpgmgiehjkaaGreatDoorDkE
import Derived.Test.YtlihpgmgiehjkaaGreatDoorUpt
import Derived.Test.YtlihpgmgiehjkaaGreatDoorTyS
import Derived.Lib.ConvBytes
import Derived.Shelf.RegionOpenPlain
set_option linter.unusedSimpArgs false
set_option linter.unusedVariables false
section
set_option maxRecDepth 20000
namespace Go.Tr
theorem qYz (p:ByteArray):∀ q ∈ parts p,q.size≤p.size:=fun q hq=>by
 obtain ⟨l,hl,rfl⟩:=List.mem_map.1 hq
 have:∀ (s:List UInt8),∀ l ∈ fB s,l.length≤s.length:=by
  intro s
  induction s with
 |nil=>intro l h;simp [fB] at h;subst h;simp
 |cons c r ih =>
   intro l h
   by_cases hc:c=47
   ·subst hc;rw [dZ] at h
    rcases List.mem_cons.1 h with rfl|h
    ·simp
    ·have:=ih l h;simp;omega
   ·cases e:fB r with
   |nil=>exact absurd e (mX r)
   |cons a t =>
     rw [fN hc e] at h
     rcases List.mem_cons.1 h with rfl|h
     ·have:=ih a (by rw [e];simp);simp;omega
     ·have:=ih l (by rw [e];simp [h]);simp;omega
 have:=this _ l hl
 rw [← Lib.size_eq] at this
 have e:(mkB l).size=l.length:=by simp [mkB,ByteArray.size]
 omega
end Go.Tr
namespace Go.Proofs.YtlihpgmgiehjkaaGreatDoor
open Go Go.Eng Go.RowKit Go.Tr
set_option maxHeartbeats 4000000 in
theorem zDu (p:ByteArray) (d:Nat) (hp:p.size≤1048576) (hd:d≤1000):HFun Tryz.prog 40 [.v (.string p),.v (.int .i64 d)] (fun h st=>h=.v (.int .i64 (okN (pOk p d)))):=by
 refine jP (N:=25) Tryz.func40 rfl Tryz.ntmps40 Tryz.results40 (by simp) ?_
 have pl:=qCq p
 have hsz:∀ q ∈ parts p,q.size≤1048576:=fun q hq=>by have:=qYz p q hq;omega
 refine zE ?_;refine zJ (fun K hK=>?_);simp (disch:=omega) only [push_cast,↓iC9,simprocAttr];refine hK _ ?_;clear hK K
 refine zE ?_;refine zJ (fun K hK=>?_);simp (disch:=omega) only [push_cast,↓iC9,simprocAttr]
 refine hat 64 zUf (zF7 p hp) (.cons (.v _) .nil) ?_;rintro _ _ ⟨rfl,rfl⟩;with_reducible refine aU ?_;simp (disch:=omega) only [push_cast,↓iC9,simprocAttr]
 refine hK _ ?_;clear hK K
 by_cases h2:d < (parts p).length
 ·have e:pOk p d=false:=by
   rw [pOk,decide_eq_false (by omega)];rfl
  rw [e];refine zE ?_;refine zE ?_;refine zJ (fun K hK=>?_);simp (disch:=omega) only [push_cast,↓iC9,simprocAttr,cX];refine hK _ ?_;clear hK K
  refine yD rfl ?_;refine zE ?_;refine zJ (fun K hK=>?_);simp (disch:=omega) only [push_cast,↓iC9,simprocAttr];refine hK _ ?_;clear hK K
  refine zA ?_;refine zW ?_;refine zK ?_;simp only [yA,yM,yH,yE,aL,aV,yK,yJ,zS,zM,Nat.reduceEqDiff,reduceIte,reduceCtorEq];exact bQ rfl
 have e:pOk p d=(parts p).all dU:=by rw [pOk,decide_eq_true (by omega),Bool.true_and]
 rw [e];generalize parts p=L at *
 refine zE ?_;refine zE ?_;refine zJ (fun K hK=>?_);simp (disch:=omega) only [push_cast,↓iC9,simprocAttr,cX];refine hK _ ?_;clear hK K
 refine yC rfl ?_;refine zC ?_;refine zE ?_;refine zE ?_;refine zJ (fun K hK=>?_);simp (disch:=omega) only [push_cast,↓iC9,simprocAttr];refine hK _ ?_;clear hK K
 refine zA ?_;refine zD ?_;refine iN (fun i:Nat=>⟨[(5,.own 64),(6,.v (.int .i64 i))],[(64,.sl true 9 1 (dG L))]⟩) (fun i=>i≤L.length∧(L.take i).all dU=true) (fun i=>L.length - i) [5,6] [64] 0 rfl ⟨Nat.zero_le _,rfl⟩ ?_
 rintro i ⟨hi,ha⟩
 by_cases hlt:i < L.length
 ·refine zE ?_;refine zE ?_;refine zJ (fun K hK=>?_);simp (disch:=omega) only [push_cast,↓iC9,simprocAttr,cX];refine hK _ ?_;clear hK K
  refine zA ?_;refine yD rfl ?_;refine zC ?_;refine zE ?_;refine zD ?_;refine zE ?_;refine zJ (fun K hK=>?_);simp (disch:=omega) only [push_cast,↓iC9,simprocAttr,cX,vE,qHr hlt]
  refine dJ zUe (zMh L[i] (hsz _ (List.getElem_mem hlt))) (.cons (.v _) .nil) ?_
  cases hn:dU L[i] with
 |false =>
   with_reducible refine aU ?_;simp (disch:=omega) only [push_cast,↓iC9,simprocAttr]
   refine hK _ ?_;clear hK K;refine yD rfl ?_;refine zE ?_;refine zJ (fun K hK=>?_);simp (disch:=omega) only [push_cast,↓iC9,simprocAttr];refine hK _ ?_;clear hK K
   refine zA ?_;refine zW ?_;refine zL ?_;refine zK ?_;refine zK ?_;refine zL ?_;refine zK ?_;simp only [yA,yM,yH,yE,aL,aV,yK,yJ,zS,zM,Nat.reduceEqDiff,reduceIte,reduceCtorEq];refine bQ ?_
   have:L.all dU=false:=by
    rw [Bool.eq_false_iff];intro h;rw [List.all_eq_true.1 h _ (List.getElem_mem hlt)] at hn;cases hn
   rw [this];rfl
 |true =>
   with_reducible refine aU ?_;simp (disch:=omega) only [push_cast,↓iC9,simprocAttr]
   refine hK _ ?_;clear hK K;refine yC rfl ?_;refine zC ?_;refine zB ?_;refine zA ?_;refine zJ (fun K hK=>?_);simp (disch:=omega) only [push_cast,↓iC9,simprocAttr];refine hK _ ?_;clear hK K
   refine zA ?_;refine ⟨i + 1,rfl,⟨hlt,?_⟩,by omega⟩
   rw [List.take_succ_eq_append_getElem hlt,List.all_append,ha,List.all_cons,hn];rfl
 ·have hne:i=L.length:=by omega
  subst hne;rw [List.take_length] at ha;rw [ha];refine zE ?_;refine zE ?_;refine zJ (fun K hK=>?_);simp (disch:=omega) only [push_cast,↓iC9,simprocAttr,cX];refine hK _ ?_;clear hK K
  refine zA ?_;refine yC rfl ?_;refine zT ?_;refine zG ?_;refine zG ?_;refine zH ?_;refine zE ?_;refine zJ (fun K hK=>?_);simp (disch:=omega) only [push_cast,↓iC9,simprocAttr];refine hK _ ?_;clear hK K
  refine zA ?_;refine zW ?_;simp only [yA,yM,yH,yE,aL,aV,yK,yJ,zS,zM,Nat.reduceEqDiff,reduceIte,reduceCtorEq];exact bQ rfl
theorem qY9 (s:List UInt8) (c:UInt8):mD (s ++ [c])=if c=47 then (s.length:Int) else mD s:=by
 rw [mD,qTh]
 by_cases h:c=47
 ·rw [if_pos h,if_pos h]
 ·rw [if_neg h,if_neg h];rfl
set_option maxHeartbeats 4000000 in
theorem zMj (s:ByteArray) (hs:s.size≤1048576):HFun Tryz.prog 88 [.v (.string s)] (fun h st=>h=.v (.int .i64 (mD s.data.toList))):=by
 refine jP (N:=17) Tryz.func88 rfl Tryz.ntmps88 Tryz.results88 (by simp) ?_
 refine zE ?_;refine zJ (fun K hK=>?_);simp (disch:=omega) only [push_cast,↓iC9,simprocAttr];refine hK _ ?_;clear hK K
 refine zE ?_;refine zJ (fun K hK=>?_);simp (disch:=omega) only [push_cast,↓iC9,simprocAttr];refine hK _ ?_;clear hK K
 refine zE ?_;refine zE ?_;refine zJ (fun K hK=>?_);simp (disch:=omega) only [push_cast,↓iC9,simprocAttr];refine hK _ ?_;clear hK K
 refine zA ?_;refine zD ?_;refine iN (fun i:Nat=>⟨[(0,.v (.string s)),(3,.v (.int .i64 (mD (s.data.toList.take i)))),(4,.v (.int .i64 i))],[]⟩) (fun i=>i≤s.size) (fun i=>s.size - i) [0,3,4] [] 0 rfl (Nat.zero_le _) ?_
 rintro i hi
 by_cases hlt:i < s.size
 ·have hll:i < s.data.toList.length:=by rw [← Lib.size_eq];exact hlt
  have h47:=zQ9 s i hlt
  have hstep:mD (s.data.toList.take (i + 1))=if s.data.toList[i]=47 then (i:Int) else mD (s.data.toList.take i):=by
   rw [List.take_succ_eq_append_getElem hll,qY9,List.length_take,Nat.min_eq_left (by omega)]
  rw [List.getElem?_eq_getElem hll] at h47;refine zE ?_;refine zE ?_;refine zJ (fun K hK=>?_);simp (disch:=omega) only [push_cast,↓iC9,simprocAttr];refine hK _ ?_;clear hK K
  refine zA ?_;refine yD rfl ?_;refine zC ?_;refine zE ?_
  by_cases hc:s.data.toList[i]=47
  ·have hz:some s.data.toList[i]=some (47:UInt8):=by rw [hc]
   rw [decide_eq_true hz] at h47;rw [if_pos hc] at hstep;refine zD ?_;refine zE ?_;refine zJ (fun K hK=>?_);simp (disch:=omega) only [push_cast,↓iC9,simprocAttr,h47];(repeat refine ⟨by first|omega|decide|((repeat' apply And.intro) <;> first|omega|decide),?_⟩);refine hK _ ?_;clear hK K
   refine zA ?_;refine yD rfl ?_;refine zJ (fun K hK=>?_);simp (disch:=omega) only [push_cast,↓iC9,simprocAttr];refine hK _ ?_;clear hK K
   refine zB ?_;refine zA ?_;refine zJ (fun K hK=>?_);simp (disch:=omega) only [push_cast,↓iC9,simprocAttr];refine hK _ ?_;clear hK K
   refine zA ?_;exact ⟨i + 1,by simp only [zZ,zR,zP,zQ,zN,zS,zM,zX,zU,Nat.reduceEqDiff,reduceIte];rw [hstep];rfl,hlt,by omega⟩
  ·have hz:¬ some s.data.toList[i]=some (47:UInt8):=fun e=>hc (Option.some.inj e)
   rw [decide_eq_false hz] at h47;rw [if_neg hc] at hstep;refine zD ?_;refine zE ?_;refine zJ (fun K hK=>?_);simp (disch:=omega) only [push_cast,↓iC9,simprocAttr,h47];(repeat refine ⟨by first|omega|decide|((repeat' apply And.intro) <;> first|omega|decide),?_⟩);refine hK _ ?_;clear hK K
   refine zA ?_;refine yC rfl ?_;refine zC ?_;refine zB ?_;refine zA ?_;refine zJ (fun K hK=>?_);simp (disch:=omega) only [push_cast,↓iC9,simprocAttr];refine hK _ ?_;clear hK K
   refine zA ?_;exact ⟨i + 1,by simp only [zZ,zR,zP,zQ,zN,zS,zM,zX,zU,Nat.reduceEqDiff,reduceIte];rw [hstep];rfl,hlt,by omega⟩
 ·have hne:i=s.size:=by omega
  subst hne;rw [show s.data.toList.take s.size=s.data.toList by rw [Lib.size_eq,List.take_length]]
  refine zE ?_;refine zE ?_;refine zJ (fun K hK=>?_);simp (disch:=omega) only [push_cast,↓iC9,simprocAttr];refine hK _ ?_;clear hK K
  refine zA ?_;refine yC rfl ?_;refine zT ?_;refine zG ?_;refine zG ?_;refine zH ?_;refine zE ?_;refine zJ (fun K hK=>?_);simp (disch:=omega) only [push_cast,↓iC9,simprocAttr];refine hK _ ?_;clear hK K
  refine zA ?_;refine zW ?_;simp only [yA,yM,yH,yE,aL,aV,yK,yJ,zS,zM,Nat.reduceEqDiff,reduceIte,reduceCtorEq];exact bQ rfl
set_option maxHeartbeats 2000000 in
theorem zDv (s:ByteArray) (hs:s.size≤1048576):HFun Tryz.prog 51 [.v (.string s)] (fun h st=>h=.v (.string (par s))):=by
 refine jP (N:=10) Tryz.func51 rfl Tryz.ntmps51 Tryz.results51 (by simp) ?_
 have c:=zMj s hs
 refine zE ?_;refine zJ (fun K hK=>?_);simp (disch:=omega) only [push_cast,↓iC9,simprocAttr];refine hK _ ?_;clear hK K
 unfold mD at c;unfold par pY
 cases e:cU s.data.toList with
|none =>
  rw [e] at c;refine zE ?_;refine zE ?_;refine zJ (fun K hK=>?_);simp (disch:=omega) only [push_cast,↓iC9,simprocAttr]
  refine dJ zQ1 c (.cons (.v _) .nil) ?_;with_reducible refine aU ?_;simp (disch:=omega) only [push_cast,↓iC9,simprocAttr]
  refine hK _ ?_;clear hK K;refine yD rfl ?_;refine zE ?_;refine zJ (fun K hK=>?_);simp (disch:=omega) only [push_cast,↓iC9,simprocAttr];refine hK _ ?_;clear hK K
  refine zA ?_;refine zW ?_;refine zK ?_;simp only [yA,yM,yH,yE,aL,aV,yK,yJ,zS,zM,Nat.reduceEqDiff,reduceIte,reduceCtorEq];refine bQ ?_
  have:s.extract 0 0={ data:=#[] }:=by apply ByteArray.ext;simp
  rw [Option.getD_none,this]
|some i =>
  rw [e] at c
  have hi:=(oE e).1
  rw [← Lib.size_eq] at hi;refine zE ?_;refine zE ?_;refine zJ (fun K hK=>?_);simp (disch:=omega) only [push_cast,↓iC9,simprocAttr]
  refine dJ zQ1 c (.cons (.v _) .nil) ?_;with_reducible refine aU ?_;simp (disch:=omega) only [push_cast,↓iC9,simprocAttr]
  refine hK _ ?_;clear hK K;refine yC rfl ?_;refine zC ?_;refine zE ?_;refine zJ (fun K hK=>?_);simp (disch:=omega) only [push_cast,↓iC9,simprocAttr]
  refine dJ zQ1 c (.cons (.v _) .nil) ?_;with_reducible refine aU ?_;simp (disch:=omega) only [push_cast,↓iC9,simprocAttr]
  refine ⟨by first|omega|decide|((repeat' apply And.intro) <;> first|omega|decide),?_⟩
  refine hK _ ?_;clear hK K;refine zA ?_;refine zW ?_;simp only [yA,yM,yH,yE,aL,aV,yK,yJ,zS,zM,Nat.reduceEqDiff,reduceIte,reduceCtorEq];exact bQ rfl
end Go.Proofs.YtlihpgmgiehjkaaGreatDoor
end
section
set_option maxRecDepth 20000
namespace Go.Dk
open Go Go.Eng Go.Tr
def zH6 (d:Dk) (p:ByteArray):Bool:=decide (par p={ data:=#[] }) || decide (iF d (par p)=1)
end Go.Dk
namespace Go.Proofs.YtlihpgmgiehjkaaGreatDoor
open Go Go.Eng Go.RowKit Go.Tr Go.Dk
end Go.Proofs.YtlihpgmgiehjkaaGreatDoor
end
section
set_option maxRecDepth 20000
namespace Go.Dk
open Go Go.Eng Go.Tr
theorem qZa (d:Dk) (p:ByteArray):(has d p=false∧iF d p=0)∨(has d p=true∧(aT d p).dir=true∧iF d p=1)∨(has d p=true∧(aT d p).dir=false∧iF d p=2):=by
 unfold iF
 cases has d p <;> cases (aT d p).dir <;> simp
end Go.Dk
namespace Go.Proofs.YtlihpgmgiehjkaaGreatDoor
open Go Go.Eng Go.RowKit Go.Tr Go.Dk
end Go.Proofs.YtlihpgmgiehjkaaGreatDoor
end
section
set_option maxRecDepth 20000
namespace Go.Dk
open Go Go.Eng Go.Tr
end Go.Dk
namespace Go.Proofs.YtlihpgmgiehjkaaGreatDoor
open Go Go.Eng Go.RowKit Go.Tr Go.Dk
end Go.Proofs.YtlihpgmgiehjkaaGreatDoor
end
section
set_option maxRecDepth 20000
namespace Go.Dk
open Go Go.Eng Go.Tr
end Go.Dk
namespace Go.Proofs.YtlihpgmgiehjkaaGreatDoor
open Go Go.Eng Go.RowKit Go.Tr Go.Dk
end Go.Proofs.YtlihpgmgiehjkaaGreatDoor
end
section
set_option maxRecDepth 20000
namespace Go.Dk
open Go Go.Eng Go.Tr
structure ROk (d:Dk) (R:LN):Prop where
 rise:dW d.L
 len:d.L.length≤4194303
 keys:∀ e ∈ d.L,e.1.size≤1048576
 tot:tot d.L≤1073741824
 steps:0≤d.steps∧d.steps≤1099511627776
 stamps:0≤d.stamps∧d.stamps≤1099511627776
 armed:-1≤d.armed∧d.armed≤9223372036854775807
 look:∀ v,aH R v=aH d.R v
 nod:(R.map fun e=>e.1).Nodup
 rl:R.length≤4194303
theorem qXr {p:ByteArray} (h:pOk p 6=true):decide (qDx p=1)=decide (par p={ data:=#[] }):=by
 rw [decide_eq_decide,qBi h,qEm]
 have hx:par p={ data:=#[] }↔pY p=0:=by
  have hl:=qTa (jZ h)
  constructor
  ·intro e
   have:=congrArg ByteArray.size e
   rw [par,ByteArray.size_extract] at this
   have h0:({ data:=#[] }:ByteArray).size=0:=rfl
   omega
  ·intro e;rw [par,e];exact ByteArray.size_eq_zero_iff.1 (by rw [ByteArray.size_extract];omega)
 rw [hx]
 have cnt:∀ (l:List UInt8),(l.count 47=0↔cU l=none):=by
  intro l
  induction l with
 |nil=>simp [cU]
 |cons c r ih =>
   rw [cU]
   by_cases e:c=47
   ·subst e;rw [List.count_cons_self]
    cases cU r <;> simp
   ·rw [List.count_cons_of_ne e,ih]
    cases cU r <;> simp [e]
 have first:∀ (l:List UInt8),cU l=some 0→∃ r,l=47 :: r:=by
  intro l hl
  cases l with
 |nil=>simp [cU] at hl
 |cons c r =>
   rw [cU] at hl
   cases hr:cU r with
  |some i=>rw [hr] at hl;simp at hl
  |none =>
    rw [hr] at hl
    by_cases e:c=47
    ·exact ⟨r,by rw [e]⟩
    ·simp [e] at hl
 constructor
 ·intro e
  have:p.data.toList.count 47=0:=by omega
  unfold pY;rw [(cnt _).1 this];rfl
 ·intro e;unfold pY at e
  cases hl:cU p.data.toList with
 |none=>rw [(cnt _).2 hl];rfl
 |some i =>
   rw [hl] at e
   have e:i=0:=e
   subst e;obtain ⟨r,hr⟩:=first _ hl
   exfalso
   have hp:parts p=mkB [] :: (fB r).map mkB:=by rw [parts,hr,dZ];rfl
   simp only [pOk,hp,Bool.and_eq_true,List.all_cons] at h
   have:=h.2.1
   simp [dU,mkB,ByteArray.size] at this
theorem qBb {d:Dk} {p:ByteArray} {k:Int} (h:may d p k=0):pOk p 6=true:=by
 unfold may at h
 cases hp:pOk p 6 with
|true=>rfl
|false =>
  rw [hp] at h
  cases hd:d.down <;> simp [hd] at h
theorem zHr (d:Dk) (q:ByteArray):decide (iF d q=1)=(aT d q).dir:=by
 rcases qZa d q with ⟨a,b⟩|⟨a,a2,b⟩|⟨a,a2,b⟩
 ·have:aT d q=itm0:=by
   unfold has at a;unfold aT
   cases h:aH d.L q with
  |none=>rfl
  |some x=>rw [h] at a;cases a
  rw [b,this];rfl
 ·rw [b,a2];rfl
 ·rw [b,a2];rfl
theorem qZk {d:Dk} {p:ByteArray} {k:Int} (h:may d p k=0):zH6 d p=jB d p:=by
 rw [zH6,jB,qXr (qBb h),zHr]
theorem ROk.l4 {d:Dk} {R:LN} (h:ROk d R):d.L.length≤4194304:=by have:=h.len;omega
theorem ROk.t2 {d:Dk} {R:LN} (h:ROk d R):Dk.tot d.L≤1099511627776:=by have:=h.tot;omega
end Go.Dk
namespace Go.Proofs.YtlihpgmgiehjkaaGreatDoor
open Go Go.Eng Go.RowKit Go.Tr Go.Dk
end Go.Proofs.YtlihpgmgiehjkaaGreatDoor
end
section
namespace Go.Eng
open Go Go.RowKit
section
variable {P:Program} {N:Nat} {c:Ctx} {S:HS} {Q:eN}
end
end Go.Eng
end
section
set_option maxRecDepth 20000
namespace Go.Dk
open Go Go.Eng Go.Tr
end Go.Dk
namespace Go.Proofs.YtlihpgmgiehjkaaGreatDoor
open Go Go.Eng Go.RowKit Go.Tr Go.Dk
end Go.Proofs.YtlihpgmgiehjkaaGreatDoor
end
section
set_option maxRecDepth 20000
namespace Go.Dk
open Go Go.Eng Go.Tr
end Go.Dk
namespace Go.Proofs.YtlihpgmgiehjkaaGreatDoor
open Go Go.Eng Go.RowKit Go.Tr Go.Dk
end Go.Proofs.YtlihpgmgiehjkaaGreatDoor
end
section
set_option maxRecDepth 20000
namespace Go.Dk
open Go Go.Eng Go.Tr
theorem zGk {α:Type} {p:ByteArray} {x:α}:∀ {L:List (ByteArray × α)} {i:Nat} (hr:dW L) (hi:i < L.length),L[i].1=p→put p x L=L.set i (p,x)
|[],i,_,hi,_=>by simp at hi
|(t,y) :: r,0,hr,hi,h=>by
  simp only [List.getElem_cons_zero] at h;rw [put,if_pos h];rfl
|(t,y) :: r,i + 1,hr,hi,h=>by
  obtain ⟨h1,h2⟩:=List.pairwise_cons.1 hr;simp only [List.getElem_cons_succ] at h
  have hi':i < r.length:=by simpa using hi
  have hlt:=h1 _ (List.getElem_mem hi')
  rw [h] at hlt;rw [put,if_neg (fun e=>by subst e;rw [eD] at hlt;cases hlt),lL,if_neg (fun e=>by have:=gG e;rw [hlt] at this;cases this),zGk h2 hi' h]
  rfl
theorem zM1 {α:Type} {p:ByteArray} {x:α} {L:List (ByteArray × α)} {i:Nat} (hr:dW L) (hi:i < L.length) (h:L[i].1=p):(put p x L).length=L.length:=by
 rw [zGk hr hi h,List.length_set]
end Go.Dk
namespace Go.Proofs.YtlihpgmgiehjkaaGreatDoor
open Go Go.Eng Go.RowKit Go.Tr Go.Dk
end Go.Proofs.YtlihpgmgiehjkaaGreatDoor
end
section
set_option maxRecDepth 20000
namespace Go.Proofs.YtlihpgmgiehjkaaGreatDoor
open Go Go.Eng Go.RowKit
def sb (s:ByteArray):List Nat:=s.data.toList.map UInt8.toNat
theorem zP7 (s:ByteArray):(sb s).length=s.size:=by simp [sb]
def zR8 (s:ByteArray) (bit:Int):Nat:=((bit.tmod (8 * (s.size:Int)) + 8 * (s.size:Int)).tmod (8 * (s.size:Int))).toNat
def zFt (s:ByteArray) (k:Nat):List Nat:=(sb s).set (k / 8) ((sb s).getD (k / 8) 0 ^^^ 2 ^ (k % 8))
def qFb (s:ByteArray) (bit:Int):ByteArray:=if s.size=0 then ⟨#[]⟩ else strOfNums ((zFt s (zR8 s bit)).map Int.ofNat)
theorem zDa (s:ByteArray) (k:Nat):(zFt s k).length=s.size:=by rw [zFt,List.length_set,zP7]
end Go.Proofs.YtlihpgmgiehjkaaGreatDoor
end
