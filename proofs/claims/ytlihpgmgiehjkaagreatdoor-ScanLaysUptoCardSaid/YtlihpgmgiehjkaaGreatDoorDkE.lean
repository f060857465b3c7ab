/-
  The disk's calls: Write.
-/
import Derived.Test.YtlihpgmgiehjkaaGreatDoorDkC
set_option linter.unusedSimpArgs false
set_option linter.unusedVariables false
section
set_option maxRecDepth 20000
namespace Go.Proofs.YtlihpgmgiehjkaaGreatDoor
open Go Go.Eng Go.RowKit Go.Tr Go.Dk
theorem qBx (d:Dk):(bJ d).1=0∧d.armed≠0∨(bJ d).1=14∧d.armed=0:=by
 unfold bJ
 by_cases h:d.armed=0
 ·rw [if_pos h];exact .inr ⟨rfl,h⟩
 ·rw [if_neg h];exact .inl ⟨rfl,h⟩
theorem jQ (d:Dk):(bJ d).2.L=d.L∧(bJ d).2.R=d.R∧(bJ d).2.n=d.n∧(bJ d).2.m=d.m∧(bJ d).2.stamps=d.stamps:=by
 unfold bJ;split <;> exact ⟨rfl,rfl,rfl,rfl,rfl⟩
theorem zAl (L:List (ByteArray × Itm)) (p:ByteArray) (x:Itm):(tab Itm.val L).put p.data.toList (.agg #[.bool x.dir,.string x.data,.string x.kept,.bool x.loose,.bool x.anew,.int .i64 x.stamp])=tab Itm.val (put p x L):=qBw Itm.val L p x
theorem sJ (d:Dk) (k r1 r2:Nat):(bJ d).2.maps k r1 r2=d.maps k r1 r2:=by
 obtain ⟨a,b,c,e,-⟩:=jQ d;simp only [Dk.maps,a,b,c,e]
set_option maxHeartbeats 2000000 in
theorem qCv (d:Dk) (B:Int) (hd:d.Ok B) (hB:B≤1099511627776) (p:ByteArray) (r1 r2:Nat) (hs:p.size≤1048576):HFunM Tryz.prog 27 [.ptr 0 6 0 0,.v (.string p)] [(0,.bx false 64 (d.cells r1 r2))] (d.maps kS r1 r2) (fun h st g=>h=.v (.int .i64 (dY d p).1)∧st=[(0,.bx false 64 ((dY d p).2.cells r1 r2))]∧g=(dY d p).2.maps kS r1 r2):=by
 refine kC (N:=47) Tryz.func27 rfl Tryz.ntmps27 Tryz.results27 (by simp) ?_
 have hm:=zBa d p 0 r1 r2 hs
 have hu:=qXg d p r1 r2 hs
 have ht:=qSs d r1 r2 ⟨hd.steps.1,by have:=hd.steps.2;omega⟩ hd.armed
 have hn:d.n < maxLen:=by have:=hd.n;simp only [maxLen];omega
 simp only [bM] at hm hu ht ⊢;refine aA ?_;refine aC (fun K hK=>?_);simp (disch:=omega) only [push_cast,↓iC9,simprocAttr];refine hK _ ?_;clear hK K
 refine aA ?_;refine aA ?_;refine aC (fun K hK=>?_);simp (disch:=omega) only [push_cast,↓iC9,simprocAttr]
 refine qTl 88 [0] zNi (hm) rfl (by decide) (by decide) (by simp only [push_cast,simprocAttr];try rfl) (by simp only [push_cast,simprocAttr];try rfl) ?_
 rintro _ _ ⟨rfl,rfl⟩;refine aU ?_;simp (disch:=omega) only [push_cast,↓iC9,simprocAttr];refine hK _ ?_;clear hK K;refine aA ?_;refine aC (fun K hK=>?_);simp (disch:=omega) only [push_cast,↓iC9,simprocAttr];refine hK _ ?_;clear hK K
 refine bC [0,1,5,13] [0] (by simp only [zZ,zR,zP,zQ,zN,zS,zM,zX,zU,Nat.reduceEqDiff,reduceIte];exact rfl) ?_
 by_cases h0:may d p 0=0
 ·refine bA rfl (fun h=>by simp [h0] at h) (fun _=>?_)
  rw [cJ] at hu ⊢;refine aN ?_;refine aA ?_;refine aX ?_;refine aG 5 (fun K1 hK1=>?_);simp (disch:=omega) only [push_cast,↓iC9,simprocAttr];refine hK1 _ ?_;(try clear hK1 K1)
  refine fA (i:=0) mtI rfl rfl rfl rfl rfl rfl (mx hs) ?_;refine aG 6 (fun K1 hK1=>?_);simp (disch:=omega) only [push_cast,↓iC9,simprocAttr,aE,aD,iG,oH,iV];refine hK1 _ ?_;(try clear hK1 K1)
  refine aR ?_;refine bC [0,1,5,6,7] [0,48] (by simp only [zZ,zR,zP,zQ,zN,zS,zM,zX,zU,Nat.reduceEqDiff,reduceIte];exact rfl) ?_
  by_cases h1:jB d p=true
  ·rw [h1] at hu;refine aA ?_;refine bG ?_;refine aA ?_;refine aX ?_;refine aG 2 (fun K1 hK1=>?_);simp (disch:=omega) only [push_cast,↓iC9,simprocAttr];refine hK1 _ ?_;(try clear hK1 K1)
   refine bN 216 [0] zQ3 (hu) rfl rfl rfl rfl (by simp only [push_cast,simprocAttr];exact rfl) (by decide) (by decide) (by decide) (by simp only [push_cast,simprocAttr];try rfl) (by simp only [push_cast,simprocAttr];try rfl) ?_
   rintro _ _ _ ⟨rfl,rfl,rfl⟩;refine aG 2 (fun K1 hK1=>?_);simp (disch:=omega) only [push_cast,↓iC9,simprocAttr,aE,aD];refine hK1 _ ?_;(try clear hK1 K1)
   refine aR ?_;refine aB ?_;refine aW rfl ?_;obtain ⟨b0,hb⟩:∃ b,(aH d.L p).isSome=b:=⟨_,rfl⟩;obtain ⟨b1,hc⟩:∃ b,((aH d.L p).getD itm0).dir=b:=⟨_,rfl⟩;rw [hb,hc]
   by_cases h2:b0=true∧b1=false
   ·obtain ⟨rfl,rfl⟩:=h2
    have hr:dY d p=(12,d):=by simp [dY,h0,h1,has,aT,hb,hc]
    rw [hr];refine aA ?_;refine aC (fun K hK=>?_);simp (disch:=omega) only [push_cast,↓iC9,simprocAttr];refine hK _ ?_;clear hK K
    refine aB ?_;refine bX rfl ?_;refine aA ?_;refine aC (fun K hK=>?_);simp (disch:=omega) only [push_cast,↓iC9,simprocAttr];refine hK _ ?_;clear hK K
    refine aB ?_;refine bB ?_;refine fJ ?_;refine cH ?_;simp only [aJ,aP,yH,yE,yK,yJ,aS,zS,zM,Nat.reduceEqDiff,reduceIte,reduceCtorEq];refine cE [0] [] (by first|rfl|simp [bsL,MO.bs]) (by decide) (by decide) (by simp only [push_cast,simprocAttr]) (by simp only [push_cast,simprocAttr]) (by simp only [push_cast,simprocAttr];rfl) (by simp only [push_cast,simprocAttr];rfl) ?_
    exact ⟨rfl,rfl,rfl⟩
   ·have hr0:dY d p=if (bJ d).1≠0 then bJ d else (0,{ (bJ d).2 with L:=put p kB d.L,n:=d.n + 1 }):=by
     have:¬ (has d p=true∧(aT d p).dir=false):=by simpa only [has,aT,hb,hc] using h2
     simp only [dY,h0,h1,if_neg this,ne_eq,not_true,if_false,Bool.true_eq_false]
    cases b0 <;> cases b1 <;> first|(exact absurd ⟨rfl,rfl⟩ h2)|skip
    all_goals
     (repeat first|refine aA ?_|refine aB ?_|refine aN ?_|refine aZ ?_|refine bG ?_);refine aC (fun K hK=>?_);simp (disch:=omega) only [push_cast,↓iC9,simprocAttr];refine hK _ ?_;clear hK K
     (repeat first|refine aA ?_|refine aB ?_|refine aN ?_|refine aZ ?_|refine bG ?_)
     refine aW rfl ?_
     (repeat first|refine aA ?_|refine aB ?_|refine aN ?_|refine aZ ?_|refine bG ?_)
     refine bC [0,1] [0] (by simp only [zZ,zR,zP,zQ,zN,zS,zM,zX,zU,Nat.reduceEqDiff,reduceIte];exact rfl) ?_
     (repeat first|refine aA ?_|refine aB ?_|refine aN ?_|refine aZ ?_|refine bG ?_);refine aC (fun K hK=>?_);simp (disch:=omega) only [push_cast,↓iC9,simprocAttr]
     refine qTl 296 [0] zNh (ht) rfl (by decide) (by decide) (by simp only [push_cast,simprocAttr];try rfl) (by simp only [push_cast,simprocAttr];try rfl) ?_
     rintro _ _ ⟨rfl,rfl⟩;refine aU ?_;simp (disch:=omega) only [push_cast,↓iC9,simprocAttr];refine hK _ ?_;clear hK K
     (repeat first|refine aA ?_|refine aB ?_|refine aN ?_|refine aZ ?_|refine bG ?_);refine aC (fun K hK=>?_);simp (disch:=omega) only [push_cast,↓iC9,simprocAttr];refine hK _ ?_;clear hK K
     refine bC [0,1,8,39] [0] (by simp only [zZ,zR,zP,zQ,zN,zS,zM,zX,zU,Nat.reduceEqDiff,reduceIte];exact rfl) ?_
     (repeat first|refine aA ?_|refine aB ?_|refine aN ?_|refine aZ ?_|refine bG ?_)
     rcases qBx d with ⟨h3,h4⟩|⟨h3,h4⟩
     ·have hr:dY d p=(0,{ (bJ d).2 with L:=put p kB d.L,n:=d.n + 1 }):=by rw [hr0,if_neg (by simp [h3])]
      rw [hr];refine bA rfl (fun h=>by simp [h3] at h) (fun _=>?_)
      (repeat first|refine aA ?_|refine aB ?_|refine aN ?_|refine aZ ?_|refine bG ?_);refine aX ?_;refine aG 6 (fun K1 hK1=>?_);simp (disch:=omega) only [push_cast,↓iC9,simprocAttr];refine hK1 _ ?_;(try clear hK1 K1)
      refine qHf (i:=0) mtI rfl rfl rfl rfl (hn) rfl rfl (mx hs) rfl rfl ?_;refine aG 0 (fun K1 hK1=>?_);simp (disch:=omega) only [push_cast,↓iC9,simprocAttr,aE,aD];refine hK1 _ ?_;(try clear hK1 K1)
      refine aR ?_
      (repeat first|refine aA ?_|refine aB ?_|refine aN ?_|refine aZ ?_|refine bG ?_);refine aC (fun K hK=>?_);simp (disch:=omega) only [push_cast,↓iC9,simprocAttr];refine hK _ ?_;clear hK K
      (repeat first|refine cH ?_|refine cY ?_|refine fW ?_|refine qQa rfl ?_|refine fJ ?_|refine aZ ?_|refine aA ?_|refine aB ?_|refine aN ?_|refine gA ?_|refine bB ?_)
      simp only [aJ,aP,yH,yE,yK,yJ,aS,zS,zM,Nat.reduceEqDiff,reduceIte,reduceCtorEq];refine cE [0] [] (by first|rfl|simp [bsL,MO.bs]) (by decide) (by decide) (by simp only [push_cast,simprocAttr]) (by simp only [push_cast,simprocAttr]) (by simp only [push_cast,simprocAttr];rfl) (by simp only [push_cast,simprocAttr];rfl) ?_
      refine ⟨rfl,rfl,?_⟩;obtain ⟨a1,a2,a3,a4,a5⟩:=jQ d;simp only [Dk.maps,a2,a4];rw [← zAl];rfl
     ·have hr:dY d p=bJ d:=by rw [hr0,if_pos (by simp [h3])]
      rw [hr];refine bA rfl (fun _=>?_) (fun h=>by simp [h3] at h)
      (repeat first|refine aA ?_|refine aB ?_|refine aN ?_|refine aZ ?_|refine bG ?_);refine aC (fun K hK=>?_);simp (disch:=omega) only [push_cast,↓iC9,simprocAttr];refine hK _ ?_;clear hK K
      (repeat first|refine cH ?_|refine cY ?_|refine fW ?_|refine qQa rfl ?_|refine fJ ?_|refine aZ ?_|refine aA ?_|refine aB ?_|refine aN ?_|refine gA ?_|refine bB ?_)
      simp only [aJ,aP,yH,yE,yK,yJ,aS,zS,zM,Nat.reduceEqDiff,reduceIte,reduceCtorEq];refine cE [0] [] (by first|rfl|simp [bsL,MO.bs]) (by decide) (by decide) (by simp only [push_cast,simprocAttr]) (by simp only [push_cast,simprocAttr]) (by simp only [push_cast,simprocAttr];rfl) (by simp only [push_cast,simprocAttr];rfl) ?_
      exact ⟨rfl,rfl,by rw [sJ];rfl⟩
  ·have h1:jB d p=false:=by simpa using h1
   rw [h1] at hu
   have hr:dY d p=(11,d):=by simp [dY,h0,h1]
   rw [hr];refine aA ?_;refine bG ?_;refine aA ?_;refine aX ?_;refine aG 2 (fun K1 hK1=>?_);simp (disch:=omega) only [push_cast,↓iC9,simprocAttr];refine hK1 _ ?_;(try clear hK1 K1)
   refine bN 216 [0] zQ3 (hu) rfl rfl rfl rfl (by simp only [push_cast,simprocAttr];exact rfl) (by decide) (by decide) (by decide) (by simp only [push_cast,simprocAttr];try rfl) (by simp only [push_cast,simprocAttr];try rfl) ?_
   rintro _ _ _ ⟨rfl,rfl,rfl⟩;refine aG 2 (fun K1 hK1=>?_);simp (disch:=omega) only [push_cast,↓iC9,simprocAttr,aE,aD];refine hK1 _ ?_;(try clear hK1 K1)
   refine aR ?_;refine aB ?_;refine bX rfl ?_;refine aA ?_;refine aC (fun K hK=>?_);simp (disch:=omega) only [push_cast,↓iC9,simprocAttr];refine hK _ ?_;clear hK K
   refine aB ?_;refine bB ?_;refine fJ ?_;refine cH ?_;simp only [aJ,aP,yH,yE,yK,yJ,aS,zS,zM,Nat.reduceEqDiff,reduceIte,reduceCtorEq];refine cE [0] [] (by first|rfl|simp [bsL,MO.bs]) (by decide) (by decide) (by simp only [push_cast,simprocAttr]) (by simp only [push_cast,simprocAttr]) (by simp only [push_cast,simprocAttr];rfl) (by simp only [push_cast,simprocAttr];rfl) ?_
   exact ⟨rfl,rfl,rfl⟩
 ·have hr:dY d p=(may d p 0,d):=by simp [dY,h0]
  rw [hr];refine bA rfl (fun _=>?_) (fun h=>by simp [h0] at h)
  refine aA ?_;refine aC (fun K hK=>?_);simp (disch:=omega) only [push_cast,↓iC9,simprocAttr];refine hK _ ?_;clear hK K
  refine aB ?_;refine bB ?_;refine cH ?_;simp only [aJ,aP,yH,yE,yK,yJ,aS,zS,zM,Nat.reduceEqDiff,reduceIte,reduceCtorEq];refine cE [0] [] (by first|rfl|simp [bsL,MO.bs]) (by decide) (by decide) (by simp only [push_cast,simprocAttr]) (by simp only [push_cast,simprocAttr]) (by simp only [push_cast,simprocAttr];rfl) (by simp only [push_cast,simprocAttr];rfl) ?_
  exact ⟨rfl,rfl,rfl⟩
end Go.Proofs.YtlihpgmgiehjkaaGreatDoor
end
section
set_option maxRecDepth 20000
namespace Go.Proofs.YtlihpgmgiehjkaaGreatDoor
open Go Go.Eng Go.RowKit Go.Tr Go.Dk
set_option maxHeartbeats 2000000 in
theorem qSk (d:Dk) (B:Int) (hd:d.Ok B) (hB:B≤1099511627776) (p:ByteArray) (r1 r2:Nat) (hs:p.size≤1048576) (s:ByteArray) (hz:s.size≤1048576):HFunM Tryz.prog 28 [.ptr 0 6 0 0,.v (.string p),.v (.string s)] [(0,.bx false 64 (d.cells r1 r2))] (d.maps kS r1 r2) (fun h st g=>h=.v (.int .i64 (cW d p s).1)∧st=[(0,.bx false 64 ((cW d p s).2.cells r1 r2))]∧g=(cW d p s).2.maps kS r1 r2):=by
 refine kC (N:=54) Tryz.func28 rfl Tryz.ntmps28 Tryz.results28 (by simp) ?_
 have hm:=zBa d p 1 r1 r2 hs
 have hu:=qXg d p r1 r2 hs
 have hto:=hd.size
 have hnn:=qSp d.L
 have hit:=zEm d p
 have ht:=qSs d r1 r2 ⟨hd.steps.1,by have:=hd.steps.2;omega⟩ hd.armed
 have hrm:=zP9 d B hd hB p ((s.size:Int) - (aT d p).data.size) r1 r2 hs (by omega)
 have hn:d.n < maxLen:=by have:=hd.n;simp only [maxLen];omega
 have hst:=hd.stamps
 obtain ⟨a1,a2,a3,a4,a5⟩:=jQ d
 have hse:=zPc (bJ d).2 p { aT d p with data:=s,loose:=true,anew:=true } r1 r2 hs (by rw [a3];exact hn) (by rw [a5];omega)
 simp only [bM,sJ] at hm hu ht hrm hse ⊢;refine aA ?_;refine aC (fun K hK=>?_);simp (disch:=omega) only [push_cast,↓iC9,simprocAttr];refine hK _ ?_;clear hK K
 refine aA ?_;refine aA ?_;refine aC (fun K hK=>?_);simp (disch:=omega) only [push_cast,↓iC9,simprocAttr]
 refine qTl 96 [0] zNi (hm) rfl (by decide) (by decide) (by simp only [push_cast,simprocAttr];try rfl) (by simp only [push_cast,simprocAttr];try rfl) ?_
 rintro _ _ ⟨rfl,rfl⟩;refine aU ?_;simp (disch:=omega) only [push_cast,↓iC9,simprocAttr];refine hK _ ?_;clear hK K;refine aA ?_;refine aC (fun K hK=>?_);simp (disch:=omega) only [push_cast,↓iC9,simprocAttr];refine hK _ ?_;clear hK K
 refine bC [0,1,2,7,14] [0] (by simp only [zZ,zR,zP,zQ,zN,zS,zM,zX,zU,Nat.reduceEqDiff,reduceIte];exact rfl) ?_
 rcases (Decidable.em (may d p 1=0)).symm with h0|h0
 ·have hr:cW d p s=(may d p 1,d):=by simp [cW,h0]
  rw [hr];refine bA rfl (fun _=>?_) (fun h=>by simp [h0] at h)
  refine aA ?_;refine aC (fun K hK=>?_);simp (disch:=omega) only [push_cast,↓iC9,simprocAttr];refine hK _ ?_;clear hK K
  refine aB ?_;refine bB ?_;refine cH ?_;simp only [aJ,aP,yH,yE,yK,yJ,aS,zS,zM,Nat.reduceEqDiff,reduceIte,reduceCtorEq];refine cE [0] [] (by first|rfl|simp [bsL,MO.bs]) (by decide) (by decide) (by simp only [push_cast,simprocAttr]) (by simp only [push_cast,simprocAttr]) (by simp only [push_cast,simprocAttr];rfl) (by simp only [push_cast,simprocAttr];rfl) ?_
  exact ⟨rfl,rfl,rfl⟩
 refine bA rfl (fun h=>by simp [h0] at h) (fun _=>?_)
 rw [cJ] at hu hrm hse ⊢;refine aN ?_;refine aA ?_;refine aX ?_;refine aG 5 (fun K1 hK1=>?_);simp (disch:=omega) only [push_cast,↓iC9,simprocAttr];refine hK1 _ ?_;(try clear hK1 K1)
 refine fA (i:=0) mtI rfl rfl rfl rfl rfl rfl (mx hs) ?_;refine aG 2 (fun K1 hK1=>?_);simp (disch:=omega) only [push_cast,↓iC9,simprocAttr,aE,aD,iG,iV];refine hK1 _ ?_;(try clear hK1 K1)
 refine aR ?_
 have hxd:(aH d.L p).getD itm0=aT d p:=rfl
 rw [hxd];refine bC [0,1,2,8] [0,64] (by simp only [zZ,zR,zP,zQ,zN,zS,zM,zX,zU,Nat.reduceEqDiff,reduceIte];exact rfl) ?_
 refine aA ?_;refine bG ?_;refine aA ?_;refine aX ?_;refine aG 2 (fun K1 hK1=>?_);simp (disch:=omega) only [push_cast,↓iC9,simprocAttr];refine hK1 _ ?_;(try clear hK1 K1)
 refine bN 200 [0] zQ3 (hu) rfl rfl rfl rfl (by simp only [push_cast,simprocAttr];exact rfl) (by decide) (by decide) (by decide) (by simp only [push_cast,simprocAttr];try rfl) (by simp only [push_cast,simprocAttr];try rfl) ?_
 rintro _ _ _ ⟨rfl,rfl,rfl⟩;refine aG 2 (fun K1 hK1=>?_);simp (disch:=omega) only [push_cast,↓iC9,simprocAttr,aE,aD];refine hK1 _ ?_;(try clear hK1 K1)
 refine aR ?_;refine aB ?_
 rcases (Decidable.em (jB d p=true)).symm with h1|h1
 ·have hr:cW d p s=(11,d):=by simp [cW,h0,h1]
  rw [hr];refine bA rfl (fun _=>?_) (fun h=>by simp [h1] at h)
  refine aA ?_;refine aC (fun K hK=>?_);simp (disch:=omega) only [push_cast,↓iC9,simprocAttr];refine hK _ ?_;clear hK K
  refine aB ?_;refine bB ?_;refine fJ ?_;refine cH ?_;simp only [aJ,aP,yH,yE,yK,yJ,aS,zS,zM,Nat.reduceEqDiff,reduceIte,reduceCtorEq];refine cE [0] [] (by first|rfl|simp [bsL,MO.bs]) (by decide) (by decide) (by simp only [push_cast,simprocAttr]) (by simp only [push_cast,simprocAttr]) (by simp only [push_cast,simprocAttr];rfl) (by simp only [push_cast,simprocAttr];rfl) ?_
  exact ⟨rfl,rfl,rfl⟩
 refine bA rfl (fun h=>by simp [h1] at h) (fun _=>?_)
 refine aA ?_;refine aC (fun K hK=>?_);simp (disch:=omega) only [push_cast,↓iC9,simprocAttr];refine hK _ ?_;clear hK K
 refine aB ?_
 by_cases h2:(aT d p).dir=true
 ·have hr:cW d p s=(12,d):=by simp [cW,h0,h1,h2]
  rw [hr];refine bA rfl (fun _=>?_) (fun h=>by simp [h2] at h)
  refine aA ?_;refine aC (fun K hK=>?_);simp (disch:=omega) only [push_cast,↓iC9,simprocAttr];refine hK _ ?_;clear hK K
  refine aB ?_;refine bB ?_;refine fJ ?_;refine cH ?_;simp only [aJ,aP,yH,yE,yK,yJ,aS,zS,zM,Nat.reduceEqDiff,reduceIte,reduceCtorEq];refine cE [0] [] (by first|rfl|simp [bsL,MO.bs]) (by decide) (by decide) (by simp only [push_cast,simprocAttr]) (by simp only [push_cast,simprocAttr]) (by simp only [push_cast,simprocAttr];rfl) (by simp only [push_cast,simprocAttr];rfl) ?_
  exact ⟨rfl,rfl,rfl⟩
 refine bA rfl (fun h=>by simp [h2] at h) (fun _=>?_)
 refine bC [0,1,2,8] [0,64] (by simp only [zZ,zR,zP,zQ,zN,zS,zM,zX,zU,Nat.reduceEqDiff,reduceIte];exact rfl) ?_
 refine aA ?_;refine aX ?_;refine aG 8 (fun K1 hK1=>?_);simp (disch:=omega) only [push_cast,↓iC9,simprocAttr];refine hK1 _ ?_;(try clear hK1 K1)
 refine bN 312 [0] zUh (hrm) rfl rfl rfl rfl (by simp only [push_cast,simprocAttr];exact rfl) (by decide) (by decide) (by decide) (by simp only [push_cast,simprocAttr];try rfl) (by simp only [push_cast,simprocAttr];try rfl) ?_
 rintro _ _ _ ⟨rfl,rfl,rfl⟩;refine aG 2 (fun K1 hK1=>?_);simp (disch:=omega) only [push_cast,↓iC9,simprocAttr,aE,aD];refine hK1 _ ?_;(try clear hK1 K1)
 refine aR ?_;refine bC [0,1,2,8,30] [0,64] (by simp only [zZ,zR,zP,zQ,zN,zS,zM,zX,zU,Nat.reduceEqDiff,reduceIte];exact rfl) ?_
 skip
 rcases (Decidable.em (qG0 d p ((s.size:Int) - (aT d p).data.size)=true)).symm with h3|h3
 ·have hr:cW d p s=(13,d):=by simp [cW,h0,h1,h2,h3]
  rw [hr];refine bA rfl (fun _=>?_) (fun h=>by simp [h3] at h)
  refine aA ?_;refine aC (fun K hK=>?_);simp (disch:=omega) only [push_cast,↓iC9,simprocAttr];refine hK _ ?_;clear hK K
  refine aB ?_;refine bB ?_;refine fJ ?_;refine cH ?_;simp only [aJ,aP,yH,yE,yK,yJ,aS,zS,zM,Nat.reduceEqDiff,reduceIte,reduceCtorEq];refine cE [0] [] (by first|rfl|simp [bsL,MO.bs]) (by decide) (by decide) (by simp only [push_cast,simprocAttr]) (by simp only [push_cast,simprocAttr]) (by simp only [push_cast,simprocAttr];rfl) (by simp only [push_cast,simprocAttr];rfl) ?_
  exact ⟨rfl,rfl,rfl⟩
 refine bA rfl (fun h=>by simp [h3] at h) (fun _=>?_)
 refine aN ?_;refine aA ?_;refine aA ?_;refine aC (fun K hK=>?_);simp (disch:=omega) only [push_cast,↓iC9,simprocAttr]
 refine qTl 336 [0] zNh (ht) rfl (by decide) (by decide) (by simp only [push_cast,simprocAttr];try rfl) (by simp only [push_cast,simprocAttr];try rfl) ?_
 rintro _ _ ⟨rfl,rfl⟩;refine aU ?_;simp (disch:=omega) only [push_cast,↓iC9,simprocAttr];refine hK _ ?_;clear hK K;refine aA ?_;refine aC (fun K hK=>?_);simp (disch:=omega) only [push_cast,↓iC9,simprocAttr];refine hK _ ?_;clear hK K
 refine bC [0,1,2,8,9,44] [0,64] (by simp only [zZ,zR,zP,zQ,zN,zS,zM,zX,zU,Nat.reduceEqDiff,reduceIte];exact rfl) ?_
 rcases (qBx d).symm with ⟨h4,h5⟩|⟨h4,h5⟩
 ·have hr:cW d p s=bJ d:=by simp [cW,h0,h1,h2,h3,h4]
  rw [hr];refine bA rfl (fun _=>?_) (fun h=>by simp [h4] at h)
  refine aA ?_;refine aC (fun K hK=>?_);simp (disch:=omega) only [push_cast,↓iC9,simprocAttr];refine hK _ ?_;clear hK K
  refine aB ?_;refine bB ?_;refine cH ?_;simp only [aJ,aP,yH,yE,yK,yJ,aS,zS,zM,Nat.reduceEqDiff,reduceIte,reduceCtorEq];refine cE [0] [] (by first|rfl|simp [bsL,MO.bs]) (by decide) (by decide) (by simp only [push_cast,simprocAttr]) (by simp only [push_cast,simprocAttr]) (by simp only [push_cast,simprocAttr];rfl) (by simp only [push_cast,simprocAttr];rfl) ?_
  exact ⟨rfl,rfl,by rw [sJ];rfl⟩
 have hr:cW d p s=(0,pW (bJ d).2 p { aT d p with data:=s,loose:=true,anew:=true }):=by simp [cW,h0,h1,h2,h3,h4]
 rw [hr];refine bA rfl (fun h=>by simp [h4] at h) (fun _=>?_)
 refine aN ?_;refine aA ?_;refine aC (fun K hK=>?_);simp (disch:=omega) only [push_cast,↓iC9,simprocAttr];refine hK _ ?_;clear hK K
 refine aA ?_;refine aX ?_;refine aG 3 (fun K1 hK1=>?_);simp (disch:=omega) only [push_cast,↓iC9,simprocAttr];refine hK1 _ ?_;(try clear hK1 K1)
 refine bN 424 [0] zTc (hse) rfl rfl rfl rfl (by simp only [push_cast,simprocAttr];exact rfl) (by decide) (by decide) (by decide) (by simp only [push_cast,simprocAttr];try rfl) (by simp only [push_cast,simprocAttr];try rfl) ?_
 rintro _ _ _ ⟨rfl,rfl,rfl⟩;refine aG 0 (fun K1 hK1=>?_);simp (disch:=omega) only [push_cast,↓iC9,simprocAttr,aE,aD];refine hK1 _ ?_;(try clear hK1 K1)
 refine aR ?_;refine aA ?_;refine aC (fun K hK=>?_);simp (disch:=omega) only [push_cast,↓iC9,simprocAttr];refine hK _ ?_;clear hK K
 refine aB ?_;refine bB ?_;simp only [aJ,aP,yH,yE,yK,yJ,aS,zS,zM,Nat.reduceEqDiff,reduceIte,reduceCtorEq];refine cE [0] [] (by first|rfl|simp [bsL,MO.bs]) (by decide) (by decide) (by simp only [push_cast,simprocAttr]) (by simp only [push_cast,simprocAttr]) (by simp only [push_cast,simprocAttr];rfl) (by simp only [push_cast,simprocAttr];rfl) ?_
 exact ⟨rfl,rfl,rfl⟩
end Go.Proofs.YtlihpgmgiehjkaaGreatDoor
end
