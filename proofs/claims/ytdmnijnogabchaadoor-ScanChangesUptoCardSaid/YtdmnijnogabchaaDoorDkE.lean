/-
  The disk's calls: Write.
-/
import Derived.Test.YtdmnijnogabchaaDoorDkD
set_option linter.unusedSimpArgs false
set_option linter.unusedVariables false
set_option maxRecDepth 20000
namespace Go.Proofs.YtdmnijnogabchaaDoor
open Go Go.Eng Go.RowKit Go.Tr Go.Dk
set_option maxHeartbeats 2000000 in
theorem zFv (d:Dk) (B:Int) (hd:d.Ok B) (hB:B≤1099511627776) (p:ByteArray) (r1 r2:Nat) (hs:p.size≤1048576) (s:ByteArray) (hz:s.size≤1048576):HFunM Tryd.prog 13 [.ptr 0 6 0 0,.v (.string p),.v (.string s)] [(0,.bx false 50 (d.cells r1 r2))] (d.maps kS r1 r2) (fun h st g=>h=.v (.int .i64 (jW d p s).1)∧st=[(0,.bx false 50 ((jW d p s).2.cells r1 r2))]∧g=(jW d p s).2.maps kS r1 r2):=by
 refine nH (N:=54) Tryd.func13 rfl Tryd.ntmps13 Tryd.results13 (by simp) ?_
 have hm:=zHh d p 1 r1 r2 hs
 have hu:=qU5 d p r1 r2 hs
 have hto:=hd.size
 have hnn:=qQb d.L
 have hit:=zBa d p
 have ht:=zB5 d r1 r2 ⟨hd.steps.1,by have:=hd.steps.2;omega⟩ hd.armed
 have hrm:=zH0 d B hd hB p ((s.size:Int) - (fM d p).data.size) r1 r2 hs (by omega)
 have hn:d.n < maxLen:=by have:=hd.n;simp only [maxLen];omega
 have hst:=hd.stamps
 obtain ⟨a1,a2,a3,a4,a5⟩:=qVx d
 have hse:=zKj (dR d).2 p { fM d p with data:=s,loose:=true,anew:=true } r1 r2 hs (by rw [a3];exact hn) (by rw [a5];omega)
 simp only [bW,qBh] at hm hu ht hrm hse ⊢;refine aA ?_;refine aD (fun K hK=>?_);simp (disch:=omega) only [push_cast,↓iC9,simprocAttr];refine hK _ ?_;clear hK K
 refine aA ?_;refine aA ?_;refine aD (fun K hK=>?_);simp (disch:=omega) only [push_cast,↓iC9,simprocAttr]
 refine zD1 96 [0] zLn (hm) rfl (by decide) (by decide) (by simp only [push_cast,simprocAttr];try rfl) (by simp only [push_cast,simprocAttr];try rfl) ?_
 rintro _ _ ⟨rfl,rfl⟩;refine aP ?_;simp (disch:=omega) only [push_cast,↓iC9,simprocAttr];refine hK _ ?_;clear hK K;refine aA ?_;refine aD (fun K hK=>?_);simp (disch:=omega) only [push_cast,↓iC9,simprocAttr];refine hK _ ?_;clear hK K
 refine cP [0,1,2,7,14] [0] (by simp only [zZ,zR,zP,zQ,zN,zS,zM,zX,zU,Nat.reduceEqDiff,reduceIte];exact rfl) ?_
 rcases (Decidable.em (may d p 1=0)).symm with h0|h0
 ·have hr:jW d p s=(may d p 1,d):=by simp [jW,h0]
  rw [hr];refine bS rfl (fun _=>?_) (fun h=>by simp [h0] at h)
  refine aA ?_;refine aD (fun K hK=>?_);simp (disch:=omega) only [push_cast,↓iC9,simprocAttr];refine hK _ ?_;clear hK K
  refine aB ?_;refine bN ?_;refine dQ ?_;simp only [aN,aU,yH,yE,yK,yJ,aW,zS,zM,Nat.reduceEqDiff,reduceIte,reduceCtorEq];refine dA [0] [] (by first|rfl|simp [bsL,MO.bs]) (by decide) (by decide) (by simp only [push_cast,simprocAttr]) (by simp only [push_cast,simprocAttr]) (by simp only [push_cast,simprocAttr];rfl) (by simp only [push_cast,simprocAttr];rfl) ?_
  exact ⟨rfl,rfl,rfl⟩
 refine bS rfl (fun h=>by simp [h0] at h) (fun _=>?_)
 rw [eE] at hu hrm hse ⊢;refine aY ?_;refine aA ?_;refine bK ?_;refine aQ 5 (fun K1 hK1=>?_);simp (disch:=omega) only [push_cast,↓iC9,simprocAttr];refine hK1 _ ?_;(try clear hK1 K1)
 refine iP (i:=0) mtI rfl rfl rfl rfl rfl rfl (mx hs) ?_;refine aQ 2 (fun K1 hK1=>?_);simp (disch:=omega) only [push_cast,↓iC9,simprocAttr,aF,aE,oN,mG];refine hK1 _ ?_;(try clear hK1 K1)
 refine bA ?_
 have hxd:(bM d.L p).getD itm0=fM d p:=rfl
 rw [hxd];refine cP [0,1,2,8] [0,64] (by simp only [zZ,zR,zP,zQ,zN,zS,zM,zX,zU,Nat.reduceEqDiff,reduceIte];exact rfl) ?_
 refine aA ?_;refine bR ?_;refine aA ?_;refine bK ?_;refine aQ 2 (fun K1 hK1=>?_);simp (disch:=omega) only [push_cast,↓iC9,simprocAttr];refine hK1 _ ?_;(try clear hK1 K1)
 refine dF 200 [0] zJo (hu) rfl rfl rfl rfl (by simp only [push_cast,simprocAttr];exact rfl) (by decide) (by decide) (by decide) (by simp only [push_cast,simprocAttr];try rfl) (by simp only [push_cast,simprocAttr];try rfl) ?_
 rintro _ _ _ ⟨rfl,rfl,rfl⟩;refine aQ 2 (fun K1 hK1=>?_);simp (disch:=omega) only [push_cast,↓iC9,simprocAttr,aF,aE];refine hK1 _ ?_;(try clear hK1 K1)
 refine bA ?_;refine aB ?_
 rcases (Decidable.em (qCc d p=true)).symm with h1|h1
 ·have hr:jW d p s=(11,d):=by simp [jW,h0,h1]
  rw [hr];refine bS rfl (fun _=>?_) (fun h=>by simp [h1] at h)
  refine aA ?_;refine aD (fun K hK=>?_);simp (disch:=omega) only [push_cast,↓iC9,simprocAttr];refine hK _ ?_;clear hK K
  refine aB ?_;refine bN ?_;refine gT ?_;refine dQ ?_;simp only [aN,aU,yH,yE,yK,yJ,aW,zS,zM,Nat.reduceEqDiff,reduceIte,reduceCtorEq];refine dA [0] [] (by first|rfl|simp [bsL,MO.bs]) (by decide) (by decide) (by simp only [push_cast,simprocAttr]) (by simp only [push_cast,simprocAttr]) (by simp only [push_cast,simprocAttr];rfl) (by simp only [push_cast,simprocAttr];rfl) ?_
  exact ⟨rfl,rfl,rfl⟩
 refine bS rfl (fun h=>by simp [h1] at h) (fun _=>?_)
 refine aA ?_;refine aD (fun K hK=>?_);simp (disch:=omega) only [push_cast,↓iC9,simprocAttr];refine hK _ ?_;clear hK K
 refine aB ?_
 by_cases h2:(fM d p).dir=true
 ·have hr:jW d p s=(12,d):=by simp [jW,h0,h1,h2]
  rw [hr];refine bS rfl (fun _=>?_) (fun h=>by simp [h2] at h)
  refine aA ?_;refine aD (fun K hK=>?_);simp (disch:=omega) only [push_cast,↓iC9,simprocAttr];refine hK _ ?_;clear hK K
  refine aB ?_;refine bN ?_;refine gT ?_;refine dQ ?_;simp only [aN,aU,yH,yE,yK,yJ,aW,zS,zM,Nat.reduceEqDiff,reduceIte,reduceCtorEq];refine dA [0] [] (by first|rfl|simp [bsL,MO.bs]) (by decide) (by decide) (by simp only [push_cast,simprocAttr]) (by simp only [push_cast,simprocAttr]) (by simp only [push_cast,simprocAttr];rfl) (by simp only [push_cast,simprocAttr];rfl) ?_
  exact ⟨rfl,rfl,rfl⟩
 refine bS rfl (fun h=>by simp [h2] at h) (fun _=>?_)
 refine cP [0,1,2,8] [0,64] (by simp only [zZ,zR,zP,zQ,zN,zS,zM,zX,zU,Nat.reduceEqDiff,reduceIte];exact rfl) ?_
 refine aA ?_;refine bK ?_;refine aQ 8 (fun K1 hK1=>?_);simp (disch:=omega) only [push_cast,↓iC9,simprocAttr];refine hK1 _ ?_;(try clear hK1 K1)
 refine dF 312 [0] zMp (hrm) rfl rfl rfl rfl (by simp only [push_cast,simprocAttr];exact rfl) (by decide) (by decide) (by decide) (by simp only [push_cast,simprocAttr];try rfl) (by simp only [push_cast,simprocAttr];try rfl) ?_
 rintro _ _ _ ⟨rfl,rfl,rfl⟩;refine aQ 2 (fun K1 hK1=>?_);simp (disch:=omega) only [push_cast,↓iC9,simprocAttr,aF,aE];refine hK1 _ ?_;(try clear hK1 K1)
 refine bA ?_;refine cP [0,1,2,8,30] [0,64] (by simp only [zZ,zR,zP,zQ,zN,zS,zM,zX,zU,Nat.reduceEqDiff,reduceIte];exact rfl) ?_
 skip
 rcases (Decidable.em (zAu d p ((s.size:Int) - (fM d p).data.size)=true)).symm with h3|h3
 ·have hr:jW d p s=(13,d):=by simp [jW,h0,h1,h2,h3]
  rw [hr];refine bS rfl (fun _=>?_) (fun h=>by simp [h3] at h)
  refine aA ?_;refine aD (fun K hK=>?_);simp (disch:=omega) only [push_cast,↓iC9,simprocAttr];refine hK _ ?_;clear hK K
  refine aB ?_;refine bN ?_;refine gT ?_;refine dQ ?_;simp only [aN,aU,yH,yE,yK,yJ,aW,zS,zM,Nat.reduceEqDiff,reduceIte,reduceCtorEq];refine dA [0] [] (by first|rfl|simp [bsL,MO.bs]) (by decide) (by decide) (by simp only [push_cast,simprocAttr]) (by simp only [push_cast,simprocAttr]) (by simp only [push_cast,simprocAttr];rfl) (by simp only [push_cast,simprocAttr];rfl) ?_
  exact ⟨rfl,rfl,rfl⟩
 refine bS rfl (fun h=>by simp [h3] at h) (fun _=>?_)
 refine aY ?_;refine aA ?_;refine aA ?_;refine aD (fun K hK=>?_);simp (disch:=omega) only [push_cast,↓iC9,simprocAttr]
 refine zD1 336 [0] zLm (ht) rfl (by decide) (by decide) (by simp only [push_cast,simprocAttr];try rfl) (by simp only [push_cast,simprocAttr];try rfl) ?_
 rintro _ _ ⟨rfl,rfl⟩;refine aP ?_;simp (disch:=omega) only [push_cast,↓iC9,simprocAttr];refine hK _ ?_;clear hK K;refine aA ?_;refine aD (fun K hK=>?_);simp (disch:=omega) only [push_cast,↓iC9,simprocAttr];refine hK _ ?_;clear hK K
 refine cP [0,1,2,8,9,44] [0,64] (by simp only [zZ,zR,zP,zQ,zN,zS,zM,zX,zU,Nat.reduceEqDiff,reduceIte];exact rfl) ?_
 rcases (qRx d).symm with ⟨h4,h5⟩|⟨h4,h5⟩
 ·have hr:jW d p s=dR d:=by simp [jW,h0,h1,h2,h3,h4]
  rw [hr];refine bS rfl (fun _=>?_) (fun h=>by simp [h4] at h)
  refine aA ?_;refine aD (fun K hK=>?_);simp (disch:=omega) only [push_cast,↓iC9,simprocAttr];refine hK _ ?_;clear hK K
  refine aB ?_;refine bN ?_;refine dQ ?_;simp only [aN,aU,yH,yE,yK,yJ,aW,zS,zM,Nat.reduceEqDiff,reduceIte,reduceCtorEq];refine dA [0] [] (by first|rfl|simp [bsL,MO.bs]) (by decide) (by decide) (by simp only [push_cast,simprocAttr]) (by simp only [push_cast,simprocAttr]) (by simp only [push_cast,simprocAttr];rfl) (by simp only [push_cast,simprocAttr];rfl) ?_
  exact ⟨rfl,rfl,by rw [qBh];rfl⟩
 have hr:jW d p s=(0,qV5 (dR d).2 p { fM d p with data:=s,loose:=true,anew:=true }):=by simp [jW,h0,h1,h2,h3,h4]
 rw [hr];refine bS rfl (fun h=>by simp [h4] at h) (fun _=>?_)
 refine aY ?_;refine aA ?_;refine aD (fun K hK=>?_);simp (disch:=omega) only [push_cast,↓iC9,simprocAttr];refine hK _ ?_;clear hK K
 refine aA ?_;refine bK ?_;refine aQ 3 (fun K1 hK1=>?_);simp (disch:=omega) only [push_cast,↓iC9,simprocAttr];refine hK1 _ ?_;(try clear hK1 K1)
 refine dF 424 [0] zMo (hse) rfl rfl rfl rfl (by simp only [push_cast,simprocAttr];exact rfl) (by decide) (by decide) (by decide) (by simp only [push_cast,simprocAttr];try rfl) (by simp only [push_cast,simprocAttr];try rfl) ?_
 rintro _ _ _ ⟨rfl,rfl,rfl⟩;refine aQ 0 (fun K1 hK1=>?_);simp (disch:=omega) only [push_cast,↓iC9,simprocAttr,aF,aE];refine hK1 _ ?_;(try clear hK1 K1)
 refine bA ?_;refine aA ?_;refine aD (fun K hK=>?_);simp (disch:=omega) only [push_cast,↓iC9,simprocAttr];refine hK _ ?_;clear hK K
 refine aB ?_;refine bN ?_;simp only [aN,aU,yH,yE,yK,yJ,aW,zS,zM,Nat.reduceEqDiff,reduceIte,reduceCtorEq];refine dA [0] [] (by first|rfl|simp [bsL,MO.bs]) (by decide) (by decide) (by simp only [push_cast,simprocAttr]) (by simp only [push_cast,simprocAttr]) (by simp only [push_cast,simprocAttr];rfl) (by simp only [push_cast,simprocAttr];rfl) ?_
 exact ⟨rfl,rfl,rfl⟩
end Go.Proofs.YtdmnijnogabchaaDoor
