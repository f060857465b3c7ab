/-
  The disk's calls: Mkdir, Write.
-/
import Derived.Test.YtdmnijnogabchaaDoorDkC
set_option linter.unusedSimpArgs false
set_option linter.unusedVariables false
set_option maxRecDepth 20000
namespace Go.Proofs.YtdmnijnogabchaaDoor
open Go Go.Eng Go.RowKit Go.Tr Go.Dk
theorem qRx (d:Dk):(dR d).1=0∧d.armed≠0∨(dR d).1=14∧d.armed=0:=by
 unfold dR
 by_cases h:d.armed=0
 ·rw [if_pos h];exact .inr ⟨rfl,h⟩
 ·rw [if_neg h];exact .inl ⟨rfl,h⟩
theorem qVx (d:Dk):(dR d).2.L=d.L∧(dR d).2.R=d.R∧(dR d).2.n=d.n∧(dR d).2.m=d.m∧(dR d).2.stamps=d.stamps:=by
 unfold dR;split <;> exact ⟨rfl,rfl,rfl,rfl,rfl⟩
theorem zGc (L:List (ByteArray × Itm)) (p:ByteArray) (x:Itm):(tab Itm.val L).put p.data.toList (.agg #[.bool x.dir,.string x.data,.string x.kept,.bool x.loose,.bool x.anew,.int .i64 x.stamp])=tab Itm.val (put p x L):=wS Itm.val L p x
theorem qBh (d:Dk) (k r1 r2:Nat):(dR d).2.maps k r1 r2=d.maps k r1 r2:=by
 obtain ⟨a,b,c,e,-⟩:=qVx d;simp only [Dk.maps,a,b,c,e]
set_option maxHeartbeats 2000000 in
theorem qYf (d:Dk) (B:Int) (hd:d.Ok B) (hB:B≤1099511627776) (p:ByteArray) (r1 r2:Nat) (hs:p.size≤1048576):HFunM Tryd.prog 12 [.ptr 0 6 0 0,.v (.string p)] [(0,.bx false 50 (d.cells r1 r2))] (d.maps kS r1 r2) (fun h st g=>h=.v (.int .i64 (mD d p).1)∧st=[(0,.bx false 50 ((mD d p).2.cells r1 r2))]∧g=(mD d p).2.maps kS r1 r2):=by
 refine nH (N:=47) Tryd.func12 rfl Tryd.ntmps12 Tryd.results12 (by simp) ?_
 have hm:=zHh d p 0 r1 r2 hs
 have hu:=qU5 d p r1 r2 hs
 have ht:=zB5 d r1 r2 ⟨hd.steps.1,by have:=hd.steps.2;omega⟩ hd.armed
 have hn:d.n < maxLen:=by have:=hd.n;simp only [maxLen];omega
 simp only [bW] at hm hu ht ⊢;refine aA ?_;refine aD (fun K hK=>?_);simp (disch:=omega) only [push_cast,↓iC9,simprocAttr];refine hK _ ?_;clear hK K
 refine aA ?_;refine aA ?_;refine aD (fun K hK=>?_);simp (disch:=omega) only [push_cast,↓iC9,simprocAttr]
 refine zD1 88 [0] zLn (hm) rfl (by decide) (by decide) (by simp only [push_cast,simprocAttr];try rfl) (by simp only [push_cast,simprocAttr];try rfl) ?_
 rintro _ _ ⟨rfl,rfl⟩;refine aP ?_;simp (disch:=omega) only [push_cast,↓iC9,simprocAttr];refine hK _ ?_;clear hK K;refine aA ?_;refine aD (fun K hK=>?_);simp (disch:=omega) only [push_cast,↓iC9,simprocAttr];refine hK _ ?_;clear hK K
 refine cP [0,1,5,13] [0] (by simp only [zZ,zR,zP,zQ,zN,zS,zM,zX,zU,Nat.reduceEqDiff,reduceIte];exact rfl) ?_
 by_cases h0:may d p 0=0
 ·refine bS rfl (fun h=>by simp [h0] at h) (fun _=>?_)
  rw [eE] at hu ⊢;refine aY ?_;refine aA ?_;refine bK ?_;refine aQ 5 (fun K1 hK1=>?_);simp (disch:=omega) only [push_cast,↓iC9,simprocAttr];refine hK1 _ ?_;(try clear hK1 K1)
  refine iP (i:=0) mtI rfl rfl rfl rfl rfl rfl (mx hs) ?_;refine aQ 6 (fun K1 hK1=>?_);simp (disch:=omega) only [push_cast,↓iC9,simprocAttr,aF,aE,oN,rW,mG];refine hK1 _ ?_;(try clear hK1 K1)
  refine bA ?_;refine cP [0,1,5,6,7] [0,48] (by simp only [zZ,zR,zP,zQ,zN,zS,zM,zX,zU,Nat.reduceEqDiff,reduceIte];exact rfl) ?_
  by_cases h1:qCc d p=true
  ·rw [h1] at hu;refine aA ?_;refine bR ?_;refine aA ?_;refine bK ?_;refine aQ 2 (fun K1 hK1=>?_);simp (disch:=omega) only [push_cast,↓iC9,simprocAttr];refine hK1 _ ?_;(try clear hK1 K1)
   refine dF 216 [0] zJo (hu) rfl rfl rfl rfl (by simp only [push_cast,simprocAttr];exact rfl) (by decide) (by decide) (by decide) (by simp only [push_cast,simprocAttr];try rfl) (by simp only [push_cast,simprocAttr];try rfl) ?_
   rintro _ _ _ ⟨rfl,rfl,rfl⟩;refine aQ 2 (fun K1 hK1=>?_);simp (disch:=omega) only [push_cast,↓iC9,simprocAttr,aF,aE];refine hK1 _ ?_;(try clear hK1 K1)
   refine bA ?_;refine aB ?_;refine bT rfl ?_;obtain ⟨b0,hb⟩:∃ b,(bM d.L p).isSome=b:=⟨_,rfl⟩;obtain ⟨b1,hc⟩:∃ b,((bM d.L p).getD itm0).dir=b:=⟨_,rfl⟩;rw [hb,hc]
   by_cases h2:b0=true∧b1=false
   ·obtain ⟨rfl,rfl⟩:=h2
    have hr:mD d p=(12,d):=by simp [mD,h0,h1,has,fM,hb,hc]
    rw [hr];refine aA ?_;refine aD (fun K hK=>?_);simp (disch:=omega) only [push_cast,↓iC9,simprocAttr];refine hK _ ?_;clear hK K
    refine aB ?_;refine dP rfl ?_;refine aA ?_;refine aD (fun K hK=>?_);simp (disch:=omega) only [push_cast,↓iC9,simprocAttr];refine hK _ ?_;clear hK K
    refine aB ?_;refine bN ?_;refine gT ?_;refine dQ ?_;simp only [aN,aU,yH,yE,yK,yJ,aW,zS,zM,Nat.reduceEqDiff,reduceIte,reduceCtorEq];refine dA [0] [] (by first|rfl|simp [bsL,MO.bs]) (by decide) (by decide) (by simp only [push_cast,simprocAttr]) (by simp only [push_cast,simprocAttr]) (by simp only [push_cast,simprocAttr];rfl) (by simp only [push_cast,simprocAttr];rfl) ?_
    exact ⟨rfl,rfl,rfl⟩
   ·have hr0:mD d p=if (dR d).1≠0 then dR d else (0,{ (dR d).2 with L:=put p qS5 d.L,n:=d.n + 1 }):=by
     have:¬ (has d p=true∧(fM d p).dir=false):=by simpa only [has,fM,hb,hc] using h2
     simp only [mD,h0,h1,if_neg this,ne_eq,not_true,if_false,Bool.true_eq_false]
    cases b0 <;> cases b1 <;> first|(exact absurd ⟨rfl,rfl⟩ h2)|skip
    all_goals
     (repeat first|refine aA ?_|refine aB ?_|refine aY ?_|refine bP ?_|refine bR ?_);refine aD (fun K hK=>?_);simp (disch:=omega) only [push_cast,↓iC9,simprocAttr];refine hK _ ?_;clear hK K
     (repeat first|refine aA ?_|refine aB ?_|refine aY ?_|refine bP ?_|refine bR ?_)
     refine bT rfl ?_
     (repeat first|refine aA ?_|refine aB ?_|refine aY ?_|refine bP ?_|refine bR ?_)
     refine cP [0,1] [0] (by simp only [zZ,zR,zP,zQ,zN,zS,zM,zX,zU,Nat.reduceEqDiff,reduceIte];exact rfl) ?_
     (repeat first|refine aA ?_|refine aB ?_|refine aY ?_|refine bP ?_|refine bR ?_);refine aD (fun K hK=>?_);simp (disch:=omega) only [push_cast,↓iC9,simprocAttr]
     refine zD1 296 [0] zLm (ht) rfl (by decide) (by decide) (by simp only [push_cast,simprocAttr];try rfl) (by simp only [push_cast,simprocAttr];try rfl) ?_
     rintro _ _ ⟨rfl,rfl⟩;refine aP ?_;simp (disch:=omega) only [push_cast,↓iC9,simprocAttr];refine hK _ ?_;clear hK K
     (repeat first|refine aA ?_|refine aB ?_|refine aY ?_|refine bP ?_|refine bR ?_);refine aD (fun K hK=>?_);simp (disch:=omega) only [push_cast,↓iC9,simprocAttr];refine hK _ ?_;clear hK K
     refine cP [0,1,8,39] [0] (by simp only [zZ,zR,zP,zQ,zN,zS,zM,zX,zU,Nat.reduceEqDiff,reduceIte];exact rfl) ?_
     (repeat first|refine aA ?_|refine aB ?_|refine aY ?_|refine bP ?_|refine bR ?_)
     rcases qRx d with ⟨h3,h4⟩|⟨h3,h4⟩
     ·have hr:mD d p=(0,{ (dR d).2 with L:=put p qS5 d.L,n:=d.n + 1 }):=by rw [hr0,if_neg (by simp [h3])]
      rw [hr];refine bS rfl (fun h=>by simp [h3] at h) (fun _=>?_)
      (repeat first|refine aA ?_|refine aB ?_|refine aY ?_|refine bP ?_|refine bR ?_);refine bK ?_;refine aQ 6 (fun K1 hK1=>?_);simp (disch:=omega) only [push_cast,↓iC9,simprocAttr];refine hK1 _ ?_;(try clear hK1 K1)
      refine qRn (i:=0) mtI rfl rfl rfl rfl (hn) rfl rfl (mx hs) rfl rfl ?_;refine aQ 0 (fun K1 hK1=>?_);simp (disch:=omega) only [push_cast,↓iC9,simprocAttr,aF,aE];refine hK1 _ ?_;(try clear hK1 K1)
      refine bA ?_
      (repeat first|refine aA ?_|refine aB ?_|refine aY ?_|refine bP ?_|refine bR ?_);refine aD (fun K hK=>?_);simp (disch:=omega) only [push_cast,↓iC9,simprocAttr];refine hK _ ?_;clear hK K
      (repeat first|refine dQ ?_|refine eJ ?_|refine kC ?_|refine qMo rfl ?_|refine gT ?_|refine bP ?_|refine aA ?_|refine aB ?_|refine aY ?_|refine kL ?_|refine bN ?_)
      simp only [aN,aU,yH,yE,yK,yJ,aW,zS,zM,Nat.reduceEqDiff,reduceIte,reduceCtorEq];refine dA [0] [] (by first|rfl|simp [bsL,MO.bs]) (by decide) (by decide) (by simp only [push_cast,simprocAttr]) (by simp only [push_cast,simprocAttr]) (by simp only [push_cast,simprocAttr];rfl) (by simp only [push_cast,simprocAttr];rfl) ?_
      refine ⟨rfl,rfl,?_⟩;obtain ⟨a1,a2,a3,a4,a5⟩:=qVx d;simp only [Dk.maps,a2,a4];rw [← zGc];rfl
     ·have hr:mD d p=dR d:=by rw [hr0,if_pos (by simp [h3])]
      rw [hr];refine bS rfl (fun _=>?_) (fun h=>by simp [h3] at h)
      (repeat first|refine aA ?_|refine aB ?_|refine aY ?_|refine bP ?_|refine bR ?_);refine aD (fun K hK=>?_);simp (disch:=omega) only [push_cast,↓iC9,simprocAttr];refine hK _ ?_;clear hK K
      (repeat first|refine dQ ?_|refine eJ ?_|refine kC ?_|refine qMo rfl ?_|refine gT ?_|refine bP ?_|refine aA ?_|refine aB ?_|refine aY ?_|refine kL ?_|refine bN ?_)
      simp only [aN,aU,yH,yE,yK,yJ,aW,zS,zM,Nat.reduceEqDiff,reduceIte,reduceCtorEq];refine dA [0] [] (by first|rfl|simp [bsL,MO.bs]) (by decide) (by decide) (by simp only [push_cast,simprocAttr]) (by simp only [push_cast,simprocAttr]) (by simp only [push_cast,simprocAttr];rfl) (by simp only [push_cast,simprocAttr];rfl) ?_
      exact ⟨rfl,rfl,by rw [qBh];rfl⟩
  ·have h1:qCc d p=false:=by simpa using h1
   rw [h1] at hu
   have hr:mD d p=(11,d):=by simp [mD,h0,h1]
   rw [hr];refine aA ?_;refine bR ?_;refine aA ?_;refine bK ?_;refine aQ 2 (fun K1 hK1=>?_);simp (disch:=omega) only [push_cast,↓iC9,simprocAttr];refine hK1 _ ?_;(try clear hK1 K1)
   refine dF 216 [0] zJo (hu) rfl rfl rfl rfl (by simp only [push_cast,simprocAttr];exact rfl) (by decide) (by decide) (by decide) (by simp only [push_cast,simprocAttr];try rfl) (by simp only [push_cast,simprocAttr];try rfl) ?_
   rintro _ _ _ ⟨rfl,rfl,rfl⟩;refine aQ 2 (fun K1 hK1=>?_);simp (disch:=omega) only [push_cast,↓iC9,simprocAttr,aF,aE];refine hK1 _ ?_;(try clear hK1 K1)
   refine bA ?_;refine aB ?_;refine dP rfl ?_;refine aA ?_;refine aD (fun K hK=>?_);simp (disch:=omega) only [push_cast,↓iC9,simprocAttr];refine hK _ ?_;clear hK K
   refine aB ?_;refine bN ?_;refine gT ?_;refine dQ ?_;simp only [aN,aU,yH,yE,yK,yJ,aW,zS,zM,Nat.reduceEqDiff,reduceIte,reduceCtorEq];refine dA [0] [] (by first|rfl|simp [bsL,MO.bs]) (by decide) (by decide) (by simp only [push_cast,simprocAttr]) (by simp only [push_cast,simprocAttr]) (by simp only [push_cast,simprocAttr];rfl) (by simp only [push_cast,simprocAttr];rfl) ?_
   exact ⟨rfl,rfl,rfl⟩
 ·have hr:mD d p=(may d p 0,d):=by simp [mD,h0]
  rw [hr];refine bS rfl (fun _=>?_) (fun h=>by simp [h0] at h)
  refine aA ?_;refine aD (fun K hK=>?_);simp (disch:=omega) only [push_cast,↓iC9,simprocAttr];refine hK _ ?_;clear hK K
  refine aB ?_;refine bN ?_;refine dQ ?_;simp only [aN,aU,yH,yE,yK,yJ,aW,zS,zM,Nat.reduceEqDiff,reduceIte,reduceCtorEq];refine dA [0] [] (by first|rfl|simp [bsL,MO.bs]) (by decide) (by decide) (by simp only [push_cast,simprocAttr]) (by simp only [push_cast,simprocAttr]) (by simp only [push_cast,simprocAttr];rfl) (by simp only [push_cast,simprocAttr];rfl) ?_
  exact ⟨rfl,rfl,rfl⟩
end Go.Proofs.YtdmnijnogabchaaDoor
