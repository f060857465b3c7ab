/-
  Plain: what puts and calls do to a disk's bounds and to its volumes' bytes; a volume that fills up.
-/
import Derived.Test.YtdmnijnogabchaaDoorDkE
import Derived.Test.YtdmnijnogabchaaDoorDk
import Derived.KernelRfl
set_option linter.unusedSimpArgs false
set_option linter.unusedVariables false
section
set_option maxRecDepth 20000
namespace Go.Proofs.YtdmnijnogabchaaDoor
open Go Go.Eng Go.RowKit Go.Tr Go.Dk
set_option maxHeartbeats 1000000 in
theorem zKs:HFunM Tryd.prog 11 [] [] [] (fun h st g=>∃ r1 r2,h=.ptr 0 6 0 0∧st=[(0,.bx true 50 (Dk.new.cells r1 r2))]∧g=Dk.new.maps kS r1 r2):=by
 refine nH (N:=5) Tryd.func11 rfl Tryd.ntmps11 Tryd.results11 (by simp) ?_
 refine aA ?_;refine aD (fun K hK=>?_);simp (disch:=omega) only [push_cast,↓iC9,simprocAttr];refine hK _ ?_;clear hK K
 refine aA ?_;refine bK ?_;refine sP (cp:=none) rfl rfl rfl kS fun r1=>?_
 refine sP (cp:=none) rfl rfl rfl kS fun r2=>?_
 refine aQ 3 (fun K1 hK1=>?_);simp (disch:=omega) only [push_cast,↓iC9,simprocAttr,aF,aE,qH2,qX7];refine hK1 _ ?_;(try clear hK1 K1)
 refine bA ?_;refine aB ?_;refine bN ?_;simp only [aN,aU,yH,yE,yK,yJ,aW,zS,zM,Nat.reduceEqDiff,reduceIte,reduceCtorEq];refine dA [32] [r1,r2] (by first|rfl|simp [bsL,MO.bs]) (by decide) (by decide) (by simp only [push_cast,simprocAttr]) (by simp only [push_cast,simprocAttr]) (by simp only [push_cast,simprocAttr];rfl) (by simp only [push_cast,simprocAttr];rfl) ?_
 exact ⟨r1,r2,rfl,rfl,rfl⟩
set_option maxHeartbeats 1000000 in
theorem zH2 (d:Dk) (p:ByteArray) (r1 r2:Nat) (hs:p.size≤1048576):HFunM Tryd.prog 44 [.ptr 0 6 0 0,.v (.string p)] [(0,.bx false 50 (d.cells r1 r2))] (d.maps kS r1 r2) (fun h st g=>h=.tup [.v (.string (nB d p).1),.v (.int .i64 (nB d p).2)]∧st=[(0,.bx false 50 (d.cells r1 r2))]∧g=d.maps kS r1 r2):=by
 refine nH (N:=32) Tryd.func44 rfl Tryd.ntmps44 Tryd.results44 (by simp) ?_
 simp only [bW];rw [eE];refine aA ?_;refine aD (fun K hK=>?_);simp (disch:=omega) only [push_cast,↓iC9,simprocAttr];refine hK _ ?_;clear hK K
 refine aA ?_;refine aA ?_;refine aD (fun K hK=>?_);simp (disch:=omega) only [push_cast,↓iC9,simprocAttr];refine hK _ ?_;clear hK K
 refine aB ?_;refine bT rfl ?_;refine aY ?_;refine aA ?_;refine bK ?_;refine aQ 5 (fun K1 hK1=>?_);simp (disch:=omega) only [push_cast,↓iC9,simprocAttr];refine hK1 _ ?_;(try clear hK1 K1)
 refine iP (i:=0) mtI rfl rfl rfl rfl rfl rfl (mx hs) ?_;refine aQ 6 (fun K1 hK1=>?_);simp (disch:=omega) only [push_cast,↓iC9,simprocAttr,aF,aE,oN,rW,mG];refine hK1 _ ?_;(try clear hK1 K1)
 refine bA ?_
 have hxd:(bM d.L p).getD itm0=fM d p:=rfl
 have hxs:(bM d.L p).isSome=has d p:=rfl
 rw [hxd,hxs];refine cP [0,1,6,7] [0,48] (by simp only [zZ,zR,zP,zQ,zN,zS,zM,zX,zU,Nat.reduceEqDiff,reduceIte];exact rfl) ?_
 refine aA ?_;refine bR ?_;refine aA ?_;refine aD (fun K hK=>?_);simp (disch:=omega) only [push_cast,↓iC9,simprocAttr];refine hK _ ?_;clear hK K
 refine aB ?_
 cases h0:d.down with
|true =>
  have hr:nB d p=(ByteArray.empty,14):=by simp [nB,h0]
  rw [hr];refine dP rfl ?_;refine aA ?_;refine aD (fun K hK=>?_);simp (disch:=omega) only [push_cast,↓iC9,simprocAttr];refine hK _ ?_;clear hK K
  refine aB ?_;refine bN ?_;refine gT ?_;refine dQ ?_;simp only [aN,aU,yH,yE,yK,yJ,aW,zS,zM,Nat.reduceEqDiff,reduceIte,reduceCtorEq];refine dA [0] [] (by first|rfl|simp [bsL,MO.bs]) (by decide) (by decide) (by simp only [push_cast,simprocAttr]) (by simp only [push_cast,simprocAttr]) (by simp only [push_cast,simprocAttr];rfl) (by simp only [push_cast,simprocAttr];rfl) ?_
  exact ⟨rfl,rfl,rfl⟩
|false =>
  refine bT rfl ?_
  cases h1:has d p with
 |false =>
   have hr:nB d p=(ByteArray.empty,11):=by simp [nB,h0,h1]
   rw [hr];refine aA ?_;refine aD (fun K hK=>?_);simp (disch:=omega) only [push_cast,↓iC9,simprocAttr];refine hK _ ?_;clear hK K
   refine aB ?_;refine dP rfl ?_;refine aA ?_;refine aD (fun K hK=>?_);simp (disch:=omega) only [push_cast,↓iC9,simprocAttr];refine hK _ ?_;clear hK K
   refine aB ?_;refine bN ?_;refine gT ?_;refine dQ ?_;simp only [aN,aU,yH,yE,yK,yJ,aW,zS,zM,Nat.reduceEqDiff,reduceIte,reduceCtorEq];refine dA [0] [] (by first|rfl|simp [bsL,MO.bs]) (by decide) (by decide) (by simp only [push_cast,simprocAttr]) (by simp only [push_cast,simprocAttr]) (by simp only [push_cast,simprocAttr];rfl) (by simp only [push_cast,simprocAttr];rfl) ?_
   exact ⟨rfl,rfl,rfl⟩
 |true =>
   refine aA ?_;refine aD (fun K hK=>?_);simp (disch:=omega) only [push_cast,↓iC9,simprocAttr];refine hK _ ?_;clear hK K
   refine aB ?_;refine bT rfl ?_;refine aA ?_;refine aD (fun K hK=>?_);simp (disch:=omega) only [push_cast,↓iC9,simprocAttr];refine hK _ ?_;clear hK K
   refine aB ?_
   cases h2:(fM d p).dir with
  |true =>
    have hr:nB d p=(ByteArray.empty,12):=by simp [nB,h0,h1,h2]
    rw [hr];refine dP rfl ?_;refine aA ?_;refine aD (fun K hK=>?_);simp (disch:=omega) only [push_cast,↓iC9,simprocAttr];refine hK _ ?_;clear hK K
    refine aB ?_;refine bN ?_;refine gT ?_;refine dQ ?_;simp only [aN,aU,yH,yE,yK,yJ,aW,zS,zM,Nat.reduceEqDiff,reduceIte,reduceCtorEq];refine dA [0] [] (by first|rfl|simp [bsL,MO.bs]) (by decide) (by decide) (by simp only [push_cast,simprocAttr]) (by simp only [push_cast,simprocAttr]) (by simp only [push_cast,simprocAttr];rfl) (by simp only [push_cast,simprocAttr];rfl) ?_
    exact ⟨rfl,rfl,rfl⟩
  |false =>
    have hr:nB d p=((fM d p).data,0):=by simp [nB,h0,h1,h2]
    rw [hr];refine bT rfl ?_;refine aY ?_;refine bP ?_;refine aA ?_;refine aD (fun K hK=>?_);simp (disch:=omega) only [push_cast,↓iC9,simprocAttr];refine hK _ ?_;clear hK K
    refine aB ?_;refine bN ?_;simp only [aN,aU,yH,yE,yK,yJ,aW,zS,zM,Nat.reduceEqDiff,reduceIte,reduceCtorEq];refine dA [0] [] (by first|rfl|simp [bsL,MO.bs]) (by decide) (by decide) (by simp only [push_cast,simprocAttr]) (by simp only [push_cast,simprocAttr]) (by simp only [push_cast,simprocAttr];rfl) (by simp only [push_cast,simprocAttr];rfl) ?_
    exact ⟨rfl,rfl,rfl⟩
set_option maxHeartbeats 1000000 in
theorem zDg (d:Dk) (p:ByteArray) (r1 r2:Nat) (hs:p.size≤1048576):HFunM Tryd.prog 33 [.ptr 0 6 0 0,.v (.string p)] [(0,.bx false 50 (d.cells r1 r2))] (d.maps kS r1 r2) (fun h st g=>h=.v (.int .i64 (tN d p))∧st=[(0,.bx false 50 (d.cells r1 r2))]∧g=d.maps kS r1 r2):=by
 refine nH (N:=24) Tryd.func33 rfl Tryd.ntmps33 Tryd.results33 (by simp) ?_
 simp only [bW];rw [eE];refine aA ?_;refine aD (fun K hK=>?_);simp (disch:=omega) only [push_cast,↓iC9,simprocAttr];refine hK _ ?_;clear hK K
 refine aA ?_;refine aA ?_;refine aD (fun K hK=>?_);simp (disch:=omega) only [push_cast,↓iC9,simprocAttr];refine hK _ ?_;clear hK K
 refine aB ?_;refine bT rfl ?_;refine aY ?_;refine aA ?_;refine bK ?_;refine aQ 5 (fun K1 hK1=>?_);simp (disch:=omega) only [push_cast,↓iC9,simprocAttr];refine hK1 _ ?_;(try clear hK1 K1)
 refine iP (i:=0) mtI rfl rfl rfl rfl rfl rfl (mx hs) ?_;refine aQ 6 (fun K1 hK1=>?_);simp (disch:=omega) only [push_cast,↓iC9,simprocAttr,aF,aE,oN,rW,mG];refine hK1 _ ?_;(try clear hK1 K1)
 refine bA ?_
 have hxd:(bM d.L p).getD itm0=fM d p:=rfl
 have hxs:(bM d.L p).isSome=has d p:=rfl
 rw [hxd,hxs];refine cP [0,1,5,6] [0,40] (by simp only [zZ,zR,zP,zQ,zN,zS,zM,zX,zU,Nat.reduceEqDiff,reduceIte];exact rfl) ?_
 refine aA ?_;refine bR ?_;refine aA ?_
 cases h1:has d p with
|false =>
  have hr:tN d p=0:=by simp [tN,h1]
  rw [hr];refine aD (fun K hK=>?_);simp (disch:=omega) only [push_cast,↓iC9,simprocAttr];refine hK _ ?_;clear hK K
  refine aB ?_;refine dP rfl ?_;refine aA ?_;refine aD (fun K hK=>?_);simp (disch:=omega) only [push_cast,↓iC9,simprocAttr];refine hK _ ?_;clear hK K
  refine aB ?_;refine bN ?_;refine gT ?_;refine dQ ?_;simp only [aN,aU,yH,yE,yK,yJ,aW,zS,zM,Nat.reduceEqDiff,reduceIte,reduceCtorEq];refine dA [0] [] (by first|rfl|simp [bsL,MO.bs]) (by decide) (by decide) (by simp only [push_cast,simprocAttr]) (by simp only [push_cast,simprocAttr]) (by simp only [push_cast,simprocAttr];rfl) (by simp only [push_cast,simprocAttr];rfl) ?_
  exact ⟨rfl,rfl,rfl⟩
|true =>
  refine aD (fun K hK=>?_);simp (disch:=omega) only [push_cast,↓iC9,simprocAttr];refine hK _ ?_;clear hK K
  refine aB ?_;refine bT rfl ?_;refine aA ?_;refine aD (fun K hK=>?_);simp (disch:=omega) only [push_cast,↓iC9,simprocAttr];refine hK _ ?_;clear hK K
  refine aB ?_
  cases h2:(fM d p).dir with
 |true =>
   have hr:tN d p=1:=by simp [tN,h1,h2]
   rw [hr];refine dP rfl ?_;refine aA ?_;refine aD (fun K hK=>?_);simp (disch:=omega) only [push_cast,↓iC9,simprocAttr];refine hK _ ?_;clear hK K
   refine aB ?_;refine bN ?_;refine gT ?_;refine dQ ?_;simp only [aN,aU,yH,yE,yK,yJ,aW,zS,zM,Nat.reduceEqDiff,reduceIte,reduceCtorEq];refine dA [0] [] (by first|rfl|simp [bsL,MO.bs]) (by decide) (by decide) (by simp only [push_cast,simprocAttr]) (by simp only [push_cast,simprocAttr]) (by simp only [push_cast,simprocAttr];rfl) (by simp only [push_cast,simprocAttr];rfl) ?_
   exact ⟨rfl,rfl,rfl⟩
 |false =>
   have hr:tN d p=2:=by simp [tN,h1,h2]
   rw [hr];refine bT rfl ?_;refine aY ?_;refine bP ?_;refine aA ?_;refine aD (fun K hK=>?_);simp (disch:=omega) only [push_cast,↓iC9,simprocAttr];refine hK _ ?_;clear hK K
   refine aB ?_;refine bN ?_;simp only [aN,aU,yH,yE,yK,yJ,aW,zS,zM,Nat.reduceEqDiff,reduceIte,reduceCtorEq];refine dA [0] [] (by first|rfl|simp [bsL,MO.bs]) (by decide) (by decide) (by simp only [push_cast,simprocAttr]) (by simp only [push_cast,simprocAttr]) (by simp only [push_cast,simprocAttr];rfl) (by simp only [push_cast,simprocAttr];rfl) ?_
   exact ⟨rfl,rfl,rfl⟩
theorem zJh (d:Dk) (r1 r2:Nat):HFunS Tryd.prog 32 [.ptr 0 6 0 0] [(0,.bx false 50 (d.cells r1 r2))] (fun h st=>h=.v (.bool d.down)∧st=[(0,.bx false 50 (d.cells r1 r2))]):=by
 refine zDw (N:=11) Tryd.func32 rfl Tryd.ntmps32 Tryd.results32 (by simp) ?_
 simp only [bW];refine zE ?_;refine zJ (fun K hK=>?_);simp (disch:=omega) only [push_cast,↓iC9,simprocAttr];refine hK _ ?_;clear hK K
 refine zE ?_;refine zJ (fun K hK=>?_);simp (disch:=omega) only [push_cast,↓iC9,simprocAttr];refine hK _ ?_;clear hK K
 refine zA ?_;refine zW ?_;simp only [dJ,fN,yH,yE,yK,yJ,aW,zS,zM,Nat.reduceEqDiff,reduceIte,reduceCtorEq];refine qC8 [0] (by decide) (by decide) (by simp only [push_cast,simprocAttr]) (by simp only [push_cast,simprocAttr]) (by simp only [push_cast,simprocAttr];rfl) (by simp only [push_cast,simprocAttr];rfl) ?_
 exact ⟨rfl,rfl⟩
end Go.Proofs.YtdmnijnogabchaaDoor
end
section
namespace Go.Dk
open Go Go.Tr Go.Eng
def tV:ByteArray:={ data:=#[118] }
def tW:ByteArray:={ data:=#[119] }
structure NameOk (p:ByteArray):Prop where
 ok:pOk p 6=true
 qK4:qK4 p=2
 par:par p=tV
 vol:vol p=tV
 ne:p≠tV
 size:p.size≤1048576
structure Fi (d:Dk) (n:Int):Prop where
 down:d.down=false
 armed:d.armed=-1
 rooms:d.R=[(tV,n)]
 home:(fM d tV).dir=true
 qU0:∀ p,NameOk p→(fM d p).dir=false
 used:used d tV≤n
 other:Go.Dk.used d tW=4
end Go.Dk
end
