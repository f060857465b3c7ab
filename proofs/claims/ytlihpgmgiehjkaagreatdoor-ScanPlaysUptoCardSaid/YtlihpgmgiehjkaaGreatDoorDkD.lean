/-
  The disk's calls: Mkdir, Write.
-/
import Derived.Test.YtlihpgmgiehjkaaGreatDoorDkC
set_option linter.unusedSimpArgs false
set_option linter.unusedVariables false
set_option maxRecDepth 20000
namespace Go.Proofs.YtlihpgmgiehjkaaGreatDoor
open Go Go.Eng Go.RowKit Go.Tr Go.Dk
theorem iU (d:Dk):(aW d).1=0∧d.armed≠0∨(aW d).1=14∧d.armed=0:=by
 unfold aW
 by_cases h:d.armed=0
 ·rw [if_pos h];exact .inr ⟨rfl,h⟩
 ·rw [if_neg h];exact .inl ⟨rfl,h⟩
theorem dL (d:Dk):(aW d).2.L=d.L∧(aW d).2.R=d.R∧(aW d).2.n=d.n∧(aW d).2.m=d.m∧(aW d).2.stamps=d.stamps:=by
 unfold aW;split <;> exact ⟨rfl,rfl,rfl,rfl,rfl⟩
theorem zM7 (L:List (ByteArray × Itm)) (p:ByteArray) (x:Itm):(tab Itm.val L).put p.data.toList (.agg #[.bool x.dir,.string x.data,.string x.kept,.bool x.loose,.bool x.anew,.int .i64 x.stamp])=tab Itm.val (put p x L):=qCg Itm.val L p x
theorem lE (d:Dk) (k r1 r2:Nat):(aW d).2.maps k r1 r2=d.maps k r1 r2:=by
 obtain ⟨a,b,c,e,-⟩:=dL d;simp only [Dk.maps,a,b,c,e]
set_option maxHeartbeats 2000000 in
theorem qT5 (d:Dk) (B:Int) (hd:d.Ok B) (hB:B≤1099511627776) (p:ByteArray) (r1 r2:Nat) (hs:p.size≤1048576):HFunM Tryz.prog 27 [.ptr 0 6 0 0,.v (.string p)] [(0,.bx false 64 (d.cells r1 r2))] (d.maps kS r1 r2) (fun h st g=>h=.v (.int .i64 (eG d p).1)∧st=[(0,.bx false 64 ((eG d p).2.cells r1 r2))]∧g=(eG d p).2.maps kS r1 r2):=by
 refine kC (N:=47) Tryz.func27 rfl Tryz.ntmps27 Tryz.results27 (by simp) ?_
 have hm:=qQz d p 0 r1 r2 hs
 have hu:=qNv d p r1 r2 hs
 have ht:=qJo d r1 r2 ⟨hd.steps.1,by have:=hd.steps.2;omega⟩ hd.armed
 have hn:d.n < maxLen:=by have:=hd.n;simp only [maxLen];omega
 simp only [bM] at hm hu ht ⊢;refine aA ?_;refine aC (fun K hK=>?_);simp (disch:=omega) only [push_cast,↓iC9,simprocAttr];refine hK _ ?_;clear hK K
 refine aA ?_;refine aA ?_;refine aC (fun K hK=>?_);simp (disch:=omega) only [push_cast,↓iC9,simprocAttr]
 refine gW 88 [0] zFu (hm) rfl (by decide) (by decide) (by simp only [push_cast,simprocAttr];try rfl) (by simp only [push_cast,simprocAttr];try rfl) ?_
 rintro _ _ ⟨rfl,rfl⟩;refine aM ?_;simp (disch:=omega) only [push_cast,↓iC9,simprocAttr];refine hK _ ?_;clear hK K;refine aA ?_;refine aC (fun K hK=>?_);simp (disch:=omega) only [push_cast,↓iC9,simprocAttr];refine hK _ ?_;clear hK K
 refine aX [0,1,5,13] [0] (by simp only [zZ,zR,zP,zQ,zN,zS,zM,zX,zU,Nat.reduceEqDiff,reduceIte];exact rfl) ?_
 by_cases h0:may d p 0=0
 ·refine bC rfl (fun h=>by simp [h0] at h) (fun _=>?_)
  rw [cS] at hu ⊢;refine aT ?_;refine aA ?_;refine bD ?_;refine aG 5 (fun K1 hK1=>?_);simp (disch:=omega) only [push_cast,↓iC9,simprocAttr];refine hK1 _ ?_;(try clear hK1 K1)
  refine fH (i:=0) mtI rfl rfl rfl rfl rfl rfl (mx hs) ?_;refine aG 6 (fun K1 hK1=>?_);simp (disch:=omega) only [push_cast,↓iC9,simprocAttr,aE,aD,gS,nR,gT];refine hK1 _ ?_;(try clear hK1 K1)
  refine aV ?_;refine aX [0,1,5,6,7] [0,48] (by simp only [zZ,zR,zP,zQ,zN,zS,zM,zX,zU,Nat.reduceEqDiff,reduceIte];exact rfl) ?_
  by_cases h1:fF d p=true
  ·rw [h1] at hu;refine aA ?_;refine bL ?_;refine aA ?_;refine bD ?_;refine aG 2 (fun K1 hK1=>?_);simp (disch:=omega) only [push_cast,↓iC9,simprocAttr];refine hK1 _ ?_;(try clear hK1 K1)
   refine bT 216 [0] zL0 (hu) rfl rfl rfl rfl (by simp only [push_cast,simprocAttr];exact rfl) (by decide) (by decide) (by decide) (by simp only [push_cast,simprocAttr];try rfl) (by simp only [push_cast,simprocAttr];try rfl) ?_
   rintro _ _ _ ⟨rfl,rfl,rfl⟩;refine aG 2 (fun K1 hK1=>?_);simp (disch:=omega) only [push_cast,↓iC9,simprocAttr,aE,aD];refine hK1 _ ?_;(try clear hK1 K1)
   refine aV ?_;refine aB ?_;refine bA rfl ?_;obtain ⟨b0,hb⟩:∃ b,(aS d.L p).isSome=b:=⟨_,rfl⟩;obtain ⟨b1,hc⟩:∃ b,((aS d.L p).getD itm0).dir=b:=⟨_,rfl⟩;rw [hb,hc]
   by_cases h2:b0=true∧b1=false
   ·obtain ⟨rfl,rfl⟩:=h2
    have hr:eG d p=(12,d):=by simp [eG,h0,h1,has,aP,hb,hc]
    rw [hr];refine aA ?_;refine aC (fun K hK=>?_);simp (disch:=omega) only [push_cast,↓iC9,simprocAttr];refine hK _ ?_;clear hK K
    refine aB ?_;refine bW rfl ?_;refine aA ?_;refine aC (fun K hK=>?_);simp (disch:=omega) only [push_cast,↓iC9,simprocAttr];refine hK _ ?_;clear hK K
    refine aB ?_;refine bB ?_;refine dK ?_;refine bR ?_;simp only [aF,aN,yH,yE,yK,yJ,aH,zS,zM,Nat.reduceEqDiff,reduceIte,reduceCtorEq];refine bV [0] [] (by first|rfl|simp [bsL,MO.bs]) (by decide) (by decide) (by simp only [push_cast,simprocAttr]) (by simp only [push_cast,simprocAttr]) (by simp only [push_cast,simprocAttr];rfl) (by simp only [push_cast,simprocAttr];rfl) ?_
    exact ⟨rfl,rfl,rfl⟩
   ·have hr0:eG d p=if (aW d).1≠0 then aW d else (0,{ (aW d).2 with L:=put p qFi d.L,n:=d.n + 1 }):=by
     have:¬ (has d p=true∧(aP d p).dir=false):=by simpa only [has,aP,hb,hc] using h2
     simp only [eG,h0,h1,if_neg this,ne_eq,not_true,if_false,Bool.true_eq_false]
    cases b0 <;> cases b1 <;> first|(exact absurd ⟨rfl,rfl⟩ h2)|skip
    all_goals
     (repeat first|refine aA ?_|refine aB ?_|refine aT ?_|refine bS ?_|refine bL ?_);refine aC (fun K hK=>?_);simp (disch:=omega) only [push_cast,↓iC9,simprocAttr];refine hK _ ?_;clear hK K
     (repeat first|refine aA ?_|refine aB ?_|refine aT ?_|refine bS ?_|refine bL ?_)
     refine bA rfl ?_
     (repeat first|refine aA ?_|refine aB ?_|refine aT ?_|refine bS ?_|refine bL ?_)
     refine aX [0,1] [0] (by simp only [zZ,zR,zP,zQ,zN,zS,zM,zX,zU,Nat.reduceEqDiff,reduceIte];exact rfl) ?_
     (repeat first|refine aA ?_|refine aB ?_|refine aT ?_|refine bS ?_|refine bL ?_);refine aC (fun K hK=>?_);simp (disch:=omega) only [push_cast,↓iC9,simprocAttr]
     refine gW 296 [0] zFt (ht) rfl (by decide) (by decide) (by simp only [push_cast,simprocAttr];try rfl) (by simp only [push_cast,simprocAttr];try rfl) ?_
     rintro _ _ ⟨rfl,rfl⟩;refine aM ?_;simp (disch:=omega) only [push_cast,↓iC9,simprocAttr];refine hK _ ?_;clear hK K
     (repeat first|refine aA ?_|refine aB ?_|refine aT ?_|refine bS ?_|refine bL ?_);refine aC (fun K hK=>?_);simp (disch:=omega) only [push_cast,↓iC9,simprocAttr];refine hK _ ?_;clear hK K
     refine aX [0,1,8,39] [0] (by simp only [zZ,zR,zP,zQ,zN,zS,zM,zX,zU,Nat.reduceEqDiff,reduceIte];exact rfl) ?_
     (repeat first|refine aA ?_|refine aB ?_|refine aT ?_|refine bS ?_|refine bL ?_)
     rcases iU d with ⟨h3,h4⟩|⟨h3,h4⟩
     ·have hr:eG d p=(0,{ (aW d).2 with L:=put p qFi d.L,n:=d.n + 1 }):=by rw [hr0,if_neg (by simp [h3])]
      rw [hr];refine bC rfl (fun h=>by simp [h3] at h) (fun _=>?_)
      (repeat first|refine aA ?_|refine aB ?_|refine aT ?_|refine bS ?_|refine bL ?_);refine bD ?_;refine aG 6 (fun K1 hK1=>?_);simp (disch:=omega) only [push_cast,↓iC9,simprocAttr];refine hK1 _ ?_;(try clear hK1 K1)
      refine qUq (i:=0) mtI rfl rfl rfl rfl (hn) rfl rfl (mx hs) rfl rfl ?_;refine aG 0 (fun K1 hK1=>?_);simp (disch:=omega) only [push_cast,↓iC9,simprocAttr,aE,aD];refine hK1 _ ?_;(try clear hK1 K1)
      refine aV ?_
      (repeat first|refine aA ?_|refine aB ?_|refine aT ?_|refine bS ?_|refine bL ?_);refine aC (fun K hK=>?_);simp (disch:=omega) only [push_cast,↓iC9,simprocAttr];refine hK _ ?_;clear hK K
      (repeat first|refine bR ?_|refine cW ?_|refine fN ?_|refine qFe rfl ?_|refine dK ?_|refine bS ?_|refine aA ?_|refine aB ?_|refine aT ?_|refine fR ?_|refine bB ?_)
      simp only [aF,aN,yH,yE,yK,yJ,aH,zS,zM,Nat.reduceEqDiff,reduceIte,reduceCtorEq];refine bV [0] [] (by first|rfl|simp [bsL,MO.bs]) (by decide) (by decide) (by simp only [push_cast,simprocAttr]) (by simp only [push_cast,simprocAttr]) (by simp only [push_cast,simprocAttr];rfl) (by simp only [push_cast,simprocAttr];rfl) ?_
      refine ⟨rfl,rfl,?_⟩;obtain ⟨a1,a2,a3,a4,a5⟩:=dL d;simp only [Dk.maps,a2,a4];rw [← zM7];rfl
     ·have hr:eG d p=aW d:=by rw [hr0,if_pos (by simp [h3])]
      rw [hr];refine bC rfl (fun _=>?_) (fun h=>by simp [h3] at h)
      (repeat first|refine aA ?_|refine aB ?_|refine aT ?_|refine bS ?_|refine bL ?_);refine aC (fun K hK=>?_);simp (disch:=omega) only [push_cast,↓iC9,simprocAttr];refine hK _ ?_;clear hK K
      (repeat first|refine bR ?_|refine cW ?_|refine fN ?_|refine qFe rfl ?_|refine dK ?_|refine bS ?_|refine aA ?_|refine aB ?_|refine aT ?_|refine fR ?_|refine bB ?_)
      simp only [aF,aN,yH,yE,yK,yJ,aH,zS,zM,Nat.reduceEqDiff,reduceIte,reduceCtorEq];refine bV [0] [] (by first|rfl|simp [bsL,MO.bs]) (by decide) (by decide) (by simp only [push_cast,simprocAttr]) (by simp only [push_cast,simprocAttr]) (by simp only [push_cast,simprocAttr];rfl) (by simp only [push_cast,simprocAttr];rfl) ?_
      exact ⟨rfl,rfl,by rw [lE];rfl⟩
  ·have h1:fF d p=false:=by simpa using h1
   rw [h1] at hu
   have hr:eG d p=(11,d):=by simp [eG,h0,h1]
   rw [hr];refine aA ?_;refine bL ?_;refine aA ?_;refine bD ?_;refine aG 2 (fun K1 hK1=>?_);simp (disch:=omega) only [push_cast,↓iC9,simprocAttr];refine hK1 _ ?_;(try clear hK1 K1)
   refine bT 216 [0] zL0 (hu) rfl rfl rfl rfl (by simp only [push_cast,simprocAttr];exact rfl) (by decide) (by decide) (by decide) (by simp only [push_cast,simprocAttr];try rfl) (by simp only [push_cast,simprocAttr];try rfl) ?_
   rintro _ _ _ ⟨rfl,rfl,rfl⟩;refine aG 2 (fun K1 hK1=>?_);simp (disch:=omega) only [push_cast,↓iC9,simprocAttr,aE,aD];refine hK1 _ ?_;(try clear hK1 K1)
   refine aV ?_;refine aB ?_;refine bW rfl ?_;refine aA ?_;refine aC (fun K hK=>?_);simp (disch:=omega) only [push_cast,↓iC9,simprocAttr];refine hK _ ?_;clear hK K
   refine aB ?_;refine bB ?_;refine dK ?_;refine bR ?_;simp only [aF,aN,yH,yE,yK,yJ,aH,zS,zM,Nat.reduceEqDiff,reduceIte,reduceCtorEq];refine bV [0] [] (by first|rfl|simp [bsL,MO.bs]) (by decide) (by decide) (by simp only [push_cast,simprocAttr]) (by simp only [push_cast,simprocAttr]) (by simp only [push_cast,simprocAttr];rfl) (by simp only [push_cast,simprocAttr];rfl) ?_
   exact ⟨rfl,rfl,rfl⟩
 ·have hr:eG d p=(may d p 0,d):=by simp [eG,h0]
  rw [hr];refine bC rfl (fun _=>?_) (fun h=>by simp [h0] at h)
  refine aA ?_;refine aC (fun K hK=>?_);simp (disch:=omega) only [push_cast,↓iC9,simprocAttr];refine hK _ ?_;clear hK K
  refine aB ?_;refine bB ?_;refine bR ?_;simp only [aF,aN,yH,yE,yK,yJ,aH,zS,zM,Nat.reduceEqDiff,reduceIte,reduceCtorEq];refine bV [0] [] (by first|rfl|simp [bsL,MO.bs]) (by decide) (by decide) (by simp only [push_cast,simprocAttr]) (by simp only [push_cast,simprocAttr]) (by simp only [push_cast,simprocAttr];rfl) (by simp only [push_cast,simprocAttr];rfl) ?_
  exact ⟨rfl,rfl,rfl⟩
end Go.Proofs.YtlihpgmgiehjkaaGreatDoor
