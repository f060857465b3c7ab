/-
  Which records may be; do paths rise; are two lists of changes alike?
-/
import Derived.Test.YtbdomkfdkfdfgaaGreatDoorOne
import Derived.Test.YtbdomkfdkfdfgaaGreatDoorChn
import Derived.Test.YtbdomkfdkfdfgaaGreatDoorUsA
import Derived.Test.YtbdomkfdkfdfgaaGreatDoorGc
import Derived.Test.YtbdomkfdkfdfgaaGreatDoorTyP
set_option linter.unusedSimpArgs false
set_option linter.unusedVariables false
section
set_option maxRecDepth 20000
namespace Go.Tr
open Go Go.Eng
instance:DecidableEq Chg:=fun c e=>decidable_of_iff (c.p=e.p∧c.k=e.k∧c.b0=e.b0∧c.b1=e.b1∧c.b2=e.b2∧c.a0=e.a0∧c.a1=e.a1∧c.a2=e.a2) (by cases c;cases e;simp only [Chg.mk.injEq])
end Go.Tr
namespace Go.Proofs.YtbdomkfdkfdfgaaGreatDoor
open Go Go.Eng Go.RowKit Go.Tr
theorem i56:(sizeOf 48).run Tryz.prog=fun w=>.ok 6 w:=by funext w;kernel_rfl
theorem zUs:Tryz.prog.stoodInHeld 50=false:=by kernel_rfl
theorem zUt:Tryz.prog.stoodInHeld 48=false:=by kernel_rfl
theorem zQg (d:Nat) (x0 x1 x2 y0 y1 y2:Int) (s0 s1 s2 t0 t1 t2:ByteArray) (w:World):(Op.equalIn (d + 3) 48 (.agg #[.int .i64 x0,.string s0,.int .i64 x1,.string s1,.int .i64 x2,.string s2]) (.agg #[.int .i64 y0,.string t0,.int .i64 y1,.string t1,.int .i64 y2,.string t2])).run Tryz.prog w=.ok (decide ((x0,s0)=(y0,t0)∧(x1,s1)=(y1,t1)∧(x2,s2)=(y2,t2))) w:=by
 unfold Op.equalIn;simp [run_underlying Tryz.underlying48,zUt,i24,part,cZ qT6,wA,Sem.run_bind]
 have hr:List.range' 0 3=[0,1,2]:=rfl
 rw [hr]
 by_cases h0:x0=y0∧s0=t0
 ·obtain ⟨rfl,rfl⟩:=h0
  by_cases h1:x1=y1∧s1=t1
  ·obtain ⟨rfl,rfl⟩:=h1
   by_cases h2:x2=y2∧s2=t2
   ·obtain ⟨rfl,rfl⟩:=h2;simp [cZ qT6,wA,Sem.run_bind,i24]
   ·have e2:decide (x2=y2∧s2=t2)=false:=decide_eq_false h2
    simp [cZ qT6,wA,Sem.run_bind,i24,e2]
    simpa using h2
  ·have e1:decide (x1=y1∧s1=t1)=false:=decide_eq_false h1
   simp [cZ qT6,wA,Sem.run_bind,i24,e1];intro a b;exact absurd ⟨a,b⟩ h1
 ·have e0:decide (x0=y0∧s0=t0)=false:=decide_eq_false h0
  simp [cZ qT6,wA,Sem.run_bind,i24,e0];intro a b;exact absurd ⟨a,b⟩ h0
theorem zM9 (x0 x1 x2 y0 y1 y2:Int) (s0 s1 s2 t0 t1 t2:ByteArray):EqR Tryz.prog 48 [.int .i64 x0,.string s0,.int .i64 x1,.string s1,.int .i64 x2,.string s2].toArray [.int .i64 y0,.string t0,.int .i64 y1,.string t1,.int .i64 y2,.string t2].toArray (decide ((x0,s0)=(y0,t0)∧(x1,s1)=(y1,t1)∧(x2,s2)=(y2,t2))):=⟨by kernel_rfl,fun w=>zQg _ _ _ _ _ _ _ _ _ _ _ _ _ w⟩
def zLc (c:Chg):List Value:=[.string c.p,.int .i64 c.k,.int .i64 c.b0.1,.string c.b0.2,.int .i64 c.b1.1,.string c.b1.2,.int .i64 c.b2.1,.string c.b2.2,.int .i64 c.a0.1,.string c.a0.2,.int .i64 c.a1.1,.string c.a1.2,.int .i64 c.a2.1,.string c.a2.2]
theorem eqC (c e:Chg):EqR Tryz.prog 50 (zLc c).toArray (zLc e).toArray (decide (c=e)):=by
 refine ⟨by kernel_rfl,fun w=>?_⟩
 obtain ⟨p,k,⟨x0,s0⟩,⟨x1,s1⟩,⟨x2,s2⟩,⟨x3,s3⟩,⟨x4,s4⟩,⟨x5,s5⟩⟩:=c;obtain ⟨q,m,⟨y0,t0⟩,⟨y1,t1⟩,⟨y2,t2⟩,⟨y3,t3⟩,⟨y4,t4⟩,⟨y5,t5⟩⟩:=e;simp only [zLc];obtain ⟨z,hz⟩:∃ z,decide ((⟨p,k,(x0,s0),(x1,s1),(x2,s2),(x3,s3),(x4,s4),(x5,s5)⟩:Chg)=⟨q,m,(y0,t0),(y1,t1),(y2,t2),(y3,t3),(y4,t4),(y5,t5)⟩)=z:=⟨_,rfl⟩;rw [hz];unfold Op.equal Op.maxDepth Op.equalIn;simp [run_underlying Tryz.underlying50,zUs,i3,i9,i56,part,bE kt3,bE kt9,cZ zQ8,qX8,zDy,zQg,Sem.run_bind]
 by_cases hp:p=q
 ·by_cases hk:k=m
  ·rw [if_pos hp,if_pos hk]
   by_cases hA:x0=y0→s0=t0→x1=y1→s1=t1→x2=y2→¬s2=t2
   ·rw [if_pos hA]
    congr 1
    rw [← hz];refine (decide_eq_false fun h=>?_).symm
    simp only [Chg.mk.injEq,Prod.mk.injEq] at h;exact hA h.2.2.1.1 h.2.2.1.2 h.2.2.2.1.1 h.2.2.2.1.2 h.2.2.2.2.1.1 h.2.2.2.2.1.2
   ·rw [if_neg hA]
    by_cases hB:x3=y3→s3=t3→x4=y4→s4=t4→x5=y5→¬s5=t5
    ·rw [if_pos hB]
     congr 1
     rw [← hz];refine (decide_eq_false fun h=>?_).symm
     simp only [Chg.mk.injEq,Prod.mk.injEq] at h;exact hB h.2.2.2.2.2.1.1 h.2.2.2.2.2.1.2 h.2.2.2.2.2.2.1.1 h.2.2.2.2.2.2.1.2 h.2.2.2.2.2.2.2.1 h.2.2.2.2.2.2.2.2
    ·rw [if_neg hB]
     congr 1
     rw [← hz];refine (decide_eq_true ?_).symm;simp only [Classical.not_imp,Classical.not_not] at hA hB;obtain ⟨rfl,rfl,rfl,rfl,rfl,rfl⟩:=hA;obtain ⟨rfl,rfl,rfl,rfl,rfl,rfl⟩:=hB;rw [hp,hk]
  ·rw [if_pos hp,if_neg hk]
   congr 1
   rw [← hz];exact (decide_eq_false fun h=>hk (by simp only [Chg.mk.injEq] at h;exact h.2.1)).symm
 ·rw [if_neg hp]
  congr 1
  rw [← hz];exact (decide_eq_false fun h=>hp (by simp only [Chg.mk.injEq] at h;exact h.1)).symm
end Go.Proofs.YtbdomkfdkfdfgaaGreatDoor
end
section
set_option maxRecDepth 20000
namespace Go.Tr
open Go Go.Eng
end Go.Tr
namespace Go.Proofs.YtbdomkfdkfdfgaaGreatDoor
open Go Go.Eng Go.RowKit Go.Tr
end Go.Proofs.YtbdomkfdkfdfgaaGreatDoor
end
section
set_option maxRecDepth 20000
namespace Go.Proofs.YtbdomkfdkfdfgaaGreatDoor
open Go Go.Eng Go.RowKit

end Go.Proofs.YtbdomkfdkfdfgaaGreatDoor
end
section
set_option maxRecDepth 20000
namespace Go.Tr
open Go Go.Eng
end Go.Tr
namespace Go.Proofs.YtbdomkfdkfdfgaaGreatDoor
open Go Go.Eng Go.RowKit Go.Tr
set_option maxHeartbeats 4000000 in
theorem zMe (a b:List Chg) (ha:a.length≤140737488355328) (hb:b.length≤140737488355328):HFun Tryz.prog 20 [.lst false (chs a),.lst false (chs b)] (fun h st=>h=.v (.bool (decide (a=b)))):=by
 refine fJ (N:=26) Tryz.func20 rfl Tryz.ntmps20 Tryz.results20 (by simp) ?_
 refine zE ?_;refine zJ (fun K hK=>?_);simp (disch:=omega) only [push_cast,↓Int.cast_ofNat_Int,simprocAttr];refine hK _ ?_;clear hK K
 by_cases h:a.length=b.length
 ·refine zE ?_;refine zE ?_;refine zJ (fun K hK=>?_);simp (disch:=omega) only [push_cast,↓Int.cast_ofNat_Int,simprocAttr,kL];refine hK _ ?_;clear hK K
  refine yC rfl ?_;refine zC ?_;refine zE ?_;refine zE ?_;refine zJ (fun K hK=>?_);simp (disch:=omega) only [push_cast,↓Int.cast_ofNat_Int,simprocAttr];refine hK _ ?_;clear hK K
  refine zA ?_;refine zD ?_;refine cH (fun i:Nat=>⟨[(0,.lst false (chs a)),(1,.lst false (chs b)),(5,.v (.int .i64 i))],[]⟩) (fun i=>i≤a.length∧a.take i=b.take i) (fun i=>a.length - i) [0,1,5] [] 0 (by simp only [zZ,zR,zP,zQ,zN,zS,zM,zX,zU,Nat.reduceEqDiff,reduceIte];try rfl) ⟨Nat.zero_le _,by simp⟩ ?_
  rintro i ⟨hi,he⟩
  by_cases hlt:i < a.length
  ·have hlt2:i < b.length:=by omega
   refine zE ?_;refine zE ?_;refine zJ (fun K hK=>?_);simp (disch:=omega) only [push_cast,↓Int.cast_ofNat_Int,simprocAttr,kL];refine hK _ ?_;clear hK K
   refine yD rfl ?_;refine zC ?_;refine zE ?_
   by_cases heq:a[i]=b[i]
   ·have hd:decide (a[i]=b[i])=true:=decide_eq_true heq
    refine zD ?_;refine zE ?_;refine pB 9 mixed (by kernel_rfl) (fun K hK K1 hK1=>?_);simp (disch:=omega) only [push_cast,↓Int.cast_ofNat_Int,simprocAttr,kL,qUp,qDn hlt,qDn hlt2]
    refine ⟨_,eqC a[i] b[i],?_⟩;with_reducible refine aC ?_;simp (disch:=omega) only [push_cast,↓Int.cast_ofNat_Int,simprocAttr,hd]
    refine hK1 _ ?_;(try clear hK1 K1);with_reducible refine aC ?_;simp (disch:=omega) only [push_cast,↓Int.cast_ofNat_Int,simprocAttr,hd]
    refine hK _ ?_;clear hK K;refine yC rfl ?_;refine zC ?_;refine zB ?_;refine zA ?_;refine zJ (fun K hK=>?_);simp (disch:=omega) only [push_cast,↓Int.cast_ofNat_Int,simprocAttr];refine hK _ ?_;clear hK K
    refine zA ?_;refine ⟨i + 1,by simp only [zZ,zR,zP,zQ,zN,zS,zM,zX,zU,Nat.reduceEqDiff,reduceIte];try rfl,⟨hlt,?_⟩,by omega⟩
    rw [List.take_succ_eq_append_getElem hlt,List.take_succ_eq_append_getElem hlt2,he,heq]
   ·have hd:decide (a[i]=b[i])=false:=decide_eq_false heq
    have hne:decide (a=b)=false:=decide_eq_false (fun e=>heq (by subst e;rfl))
    rw [hne];refine zD ?_;refine zE ?_;refine pB 9 mixed (by kernel_rfl) (fun K hK K1 hK1=>?_);simp (disch:=omega) only [push_cast,↓Int.cast_ofNat_Int,simprocAttr,kL,qUp,qDn hlt,qDn hlt2]
    refine ⟨_,eqC a[i] b[i],?_⟩;with_reducible refine aC ?_;simp (disch:=omega) only [push_cast,↓Int.cast_ofNat_Int,simprocAttr,hd]
    refine hK1 _ ?_;(try clear hK1 K1);with_reducible refine aC ?_;simp (disch:=omega) only [push_cast,↓Int.cast_ofNat_Int,simprocAttr,hd]
    refine hK _ ?_;clear hK K;refine yD rfl ?_;refine zE ?_;refine zJ (fun K hK=>?_);simp (disch:=omega) only [push_cast,↓Int.cast_ofNat_Int,simprocAttr];refine hK _ ?_;clear hK K
    refine zA ?_;refine zW ?_;refine zL ?_;refine zK ?_;refine zK ?_;refine zL ?_;refine zK ?_;simp only [yA,yM,yH,yE,aA,aD,yK,yJ,zS,zM,Nat.reduceEqDiff,reduceIte,reduceCtorEq];exact aM rfl
  ·have hab:a=b:=by
    rw [List.take_of_length_le (by omega),List.take_of_length_le (by omega)] at he;exact he
   rw [decide_eq_true hab];refine zE ?_;refine zE ?_;refine zJ (fun K hK=>?_);simp (disch:=omega) only [push_cast,↓Int.cast_ofNat_Int,simprocAttr,kL];refine hK _ ?_;clear hK K
   refine yC rfl ?_;refine zT ?_;refine zG ?_;refine zG ?_;refine zH ?_;refine zE ?_;refine zJ (fun K hK=>?_);simp (disch:=omega) only [push_cast,↓Int.cast_ofNat_Int,simprocAttr];refine hK _ ?_;clear hK K
   refine zA ?_;refine zW ?_;simp only [yA,yM,yH,yE,aA,aD,yK,yJ,zS,zM,Nat.reduceEqDiff,reduceIte,reduceCtorEq];exact aM rfl
 ·have hne:decide (a=b)=false:=decide_eq_false (fun e=>h (by rw [e]))
  rw [hne];refine zE ?_;refine zE ?_;refine zJ (fun K hK=>?_);simp (disch:=omega) only [push_cast,↓Int.cast_ofNat_Int,simprocAttr,kL];refine hK _ ?_;clear hK K
  refine yD rfl ?_;refine zE ?_;refine zJ (fun K hK=>?_);simp (disch:=omega) only [push_cast,↓Int.cast_ofNat_Int,simprocAttr];refine hK _ ?_;clear hK K
  refine zA ?_;refine zW ?_;refine zK ?_;simp only [yA,yM,yH,yE,aA,aD,yK,yJ,zS,zM,Nat.reduceEqDiff,reduceIte,reduceCtorEq];exact aM rfl
end Go.Proofs.YtbdomkfdkfdfgaaGreatDoor
end
