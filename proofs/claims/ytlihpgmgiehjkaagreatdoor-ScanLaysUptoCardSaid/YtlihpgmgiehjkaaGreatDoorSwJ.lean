/-
  The law's turn: a change of the program's disk and of the reference's: walked.
-/
import Derived.Test.YtlihpgmgiehjkaaGreatDoorTnA
import Derived.Test.YtlihpgmgiehjkaaGreatDoorDkH
import Derived.Test.YtlihpgmgiehjkaaGreatDoorSwA
import Derived.Test.YtlihpgmgiehjkaaGreatDoorSwC
import Derived.Test.YtlihpgmgiehjkaaGreatDoorSwP
set_option linter.unusedSimpArgs false
set_option linter.unusedVariables false
section
set_option maxRecDepth 20000
namespace Go.Proofs.YtlihpgmgiehjkaaGreatDoor
open Go Go.Eng Go.RowKit Go.Tr Go.Dk
theorem uC (s:ByteArray) (bit:Int):(qFb s bit).size=s.size:=by
 unfold qFb;split
 ·rename_i h;rw [h];rfl
 ·rw [strOfNums_size,List.length_map,zDa]
set_option maxHeartbeats 4000000 in
theorem zGf (d:Dk) (B:Int) (hd:d.Ok B) (hB:B≤1099511627776) (p:ByteArray) (r1 r2:Nat) (hs:p.size≤1048576) (hl:d.L.length≤4194304) :
  HFunM Tryz.prog 31 [.ptr 0 6 0 0,.v (.string p)] [(0,.bx false 64 (d.cells r1 r2))] (d.maps kS r1 r2) (fun h st g=>h=.v (.int .i64 (cS d p).1)∧st=[(0,.bx false 64 ((cS d p).2.cells r1 r2))]∧g=(cS d p).2.maps kS r1 r2):=by
 refine kC (N:=41) Tryz.func31 rfl Tryz.ntmps31 Tryz.results31 (by simp) ?_
 have hm:=zBa d p 0 r1 r2 hs
 have hli:=qY6 d B hd hB p hs hl r1 r2
 have ht:=qSs d r1 r2 ⟨hd.steps.1,by have:=hd.steps.2;omega⟩ hd.armed
 have hn:d.n < maxLen:=by have:=hd.n;simp only [maxLen];omega
 simp only [bM] at hm hli ht ⊢;refine aA ?_;refine aC (fun K hK=>?_);simp (disch:=omega) only [push_cast,↓iC9,simprocAttr];refine hK _ ?_;clear hK K
 refine aA ?_;refine aA ?_;refine aC (fun K hK=>?_);simp (disch:=omega) only [push_cast,↓iC9,simprocAttr]
 refine qTl 88 [0] zNi (hm) rfl (by decide) (by decide) (by simp only [push_cast,simprocAttr];try rfl) (by simp only [push_cast,simprocAttr];try rfl) ?_
 rintro _ _ ⟨rfl,rfl⟩;refine aU ?_;simp (disch:=omega) only [push_cast,↓iC9,simprocAttr];refine hK _ ?_;clear hK K;refine aA ?_;refine aC (fun K hK=>?_);simp (disch:=omega) only [push_cast,↓iC9,simprocAttr];refine hK _ ?_;clear hK K
 refine bC [0,1,5,13] [0] (by simp only [zZ,zR,zP,zQ,zN,zS,zM,zX,zU,Nat.reduceEqDiff,reduceIte];exact rfl) ?_
 rcases (Decidable.em (may d p 0=0)).symm with h0|h0
 ·have hr:cS d p=(may d p 0,d):=by simp [cS,h0]
  rw [hr];refine bA rfl (fun _=>?_) (fun h=>by simp [h0] at h)
  refine aA ?_;refine aC (fun K hK=>?_);simp (disch:=omega) only [push_cast,↓iC9,simprocAttr];refine hK _ ?_;clear hK K
  refine aB ?_;refine bB ?_;refine cH ?_;simp only [aJ,aP,yH,yE,yK,yJ,aS,zS,zM,Nat.reduceEqDiff,reduceIte,reduceCtorEq];refine cE [0] [] (by first|rfl|simp [bsL,MO.bs]) (by decide) (by decide) (by simp only [push_cast,simprocAttr]) (by simp only [push_cast,simprocAttr]) (by simp only [push_cast,simprocAttr];rfl) (by simp only [push_cast,simprocAttr];rfl) ?_
  exact ⟨rfl,rfl,rfl⟩
 refine bA rfl (fun h=>by simp [h0] at h) (fun _=>?_)
 rw [cJ] at hli ⊢;refine aN ?_;refine aA ?_;refine aA ?_;refine aX ?_;refine aG 5 (fun K1 hK1=>?_);simp (disch:=omega) only [push_cast,↓iC9,simprocAttr];refine hK1 _ ?_;(try clear hK1 K1)
 refine fA (i:=0) mtI rfl rfl rfl rfl rfl rfl (mx hs) ?_;refine aG 6 (fun K1 hK1=>?_);simp (disch:=omega) only [push_cast,↓iC9,simprocAttr,aE,aD,iG,oH,iV];refine hK1 _ ?_;(try clear hK1 K1)
 refine aR ?_
 have hxd:(aH d.L p).getD itm0=aT d p:=rfl
 have hxs:(aH d.L p).isSome=has d p:=rfl
 rw [hxd,hxs];refine bC [0,1,7] [0] (by simp only [zZ,zR,zP,zQ,zN,zS,zM,zX,zU,Nat.reduceEqDiff,reduceIte];exact rfl) ?_
 refine aA ?_
 cases h1:has d p with
|false =>
  have hr:cS d p=(11,d):=by simp [cS,h0,h1]
  rw [hr];refine aC (fun K hK=>?_);simp (disch:=omega) only [push_cast,↓iC9,simprocAttr];refine hK _ ?_;clear hK K
  refine aB ?_;refine bX rfl ?_;refine aA ?_;refine aC (fun K hK=>?_);simp (disch:=omega) only [push_cast,↓iC9,simprocAttr];refine hK _ ?_;clear hK K
  refine aB ?_;refine bB ?_;refine cH ?_;simp only [aJ,aP,yH,yE,yK,yJ,aS,zS,zM,Nat.reduceEqDiff,reduceIte,reduceCtorEq];refine cE [0] [] (by first|rfl|simp [bsL,MO.bs]) (by decide) (by decide) (by simp only [push_cast,simprocAttr]) (by simp only [push_cast,simprocAttr]) (by simp only [push_cast,simprocAttr];rfl) (by simp only [push_cast,simprocAttr];rfl) ?_
  exact ⟨rfl,rfl,rfl⟩
|true =>
  refine aC (fun K hK=>?_);simp (disch:=omega) only [push_cast,↓iC9,simprocAttr];refine hK _ ?_;clear hK K
  refine aB ?_;refine aW rfl ?_;refine bC [0,1] [0] (by simp only [zZ,zR,zP,zQ,zN,zS,zM,zX,zU,Nat.reduceEqDiff,reduceIte];exact rfl) ?_
  have hll:(eY d p).length≤4194304:=by
   unfold eY;rw [List.length_map];exact Nat.le_trans (List.length_filter_le _ _) hl
  refine aN ?_;refine aA ?_;refine aA ?_;refine aX ?_;refine aG 2 (fun K1 hK1=>?_);simp (disch:=omega) only [push_cast,↓iC9,simprocAttr];refine hK1 _ ?_;(try clear hK1 K1)
  refine bN 224 [0] zQ6 (hli) rfl rfl rfl rfl (by simp only [push_cast,simprocAttr];exact rfl) (by decide) (by decide) (by decide) (by simp only [push_cast,simprocAttr];try rfl) (by simp only [push_cast,simprocAttr];try rfl) ?_
  rintro _ _ _ ⟨rfl,rfl,rfl⟩;refine aG 2 (fun K1 hK1=>?_);simp (disch:=omega) only [push_cast,↓iC9,simprocAttr,aE,aD,cX];refine hK1 _ ?_;(try clear hK1 K1)
  refine aR ?_;refine bC [0,1,30] [0] (by simp only [zZ,zR,zP,zQ,zN,zS,zM,zX,zU,Nat.reduceEqDiff,reduceIte];exact rfl) ?_
  skip
  by_cases h2:eY d p=[]
  ·rw [h2]
   have hrem:(bJ d).1≠0→cS d p=bJ d:=fun h=>by simp [cS,h0,h1,h2,h]
   have hrem0:(bJ d).1=0→cS d p=(0,{ (bJ d).2 with L:=del p d.L }):=fun h=>by simp [cS,h0,h1,h2,h]
   refine aW rfl ?_;refine aN ?_;refine aA ?_;refine aA ?_;refine aC (fun K hK=>?_);simp (disch:=omega) only [push_cast,↓iC9,simprocAttr]
   refine qTl 256 [0] zNh (ht) rfl (by decide) (by decide) (by simp only [push_cast,simprocAttr];try rfl) (by simp only [push_cast,simprocAttr];try rfl) ?_
   rintro _ _ ⟨rfl,rfl⟩;refine aU ?_;simp (disch:=omega) only [push_cast,↓iC9,simprocAttr];refine hK _ ?_;clear hK K;refine aA ?_;refine aC (fun K hK=>?_);simp (disch:=omega) only [push_cast,↓iC9,simprocAttr];refine hK _ ?_;clear hK K
   refine bC [0,1,8,34] [0] (by simp only [zZ,zR,zP,zQ,zN,zS,zM,zX,zU,Nat.reduceEqDiff,reduceIte];exact rfl) ?_
   rcases (qBx d).symm with ⟨h4,h5⟩|⟨h4,h5⟩
   ·rw [hrem (by omega)]
    refine bA rfl (fun _=>?_) (fun h=>by simp [h4] at h)
    refine aA ?_;refine aC (fun K hK=>?_);simp (disch:=omega) only [push_cast,↓iC9,simprocAttr];refine hK _ ?_;clear hK K
    refine aB ?_;refine bB ?_;refine cH ?_;simp only [aJ,aP,yH,yE,yK,yJ,aS,zS,zM,Nat.reduceEqDiff,reduceIte,reduceCtorEq];refine cE [0] [] (by first|rfl|simp [bsL,MO.bs]) (by decide) (by decide) (by simp only [push_cast,simprocAttr]) (by simp only [push_cast,simprocAttr]) (by simp only [push_cast,simprocAttr];rfl) (by simp only [push_cast,simprocAttr];rfl) ?_
    refine ⟨rfl,rfl,?_⟩;rw [sJ];rfl
   rw [hrem0 h4];obtain ⟨a1,a2,a3,a4,a5⟩:=jQ d;refine bA rfl (fun h=>by simp [h4] at h) (fun _=>?_)
   refine aN ?_;refine aA ?_;refine aX ?_;refine aG 5 (fun K1 hK1=>?_);simp (disch:=omega) only [push_cast,↓iC9,simprocAttr];refine hK1 _ ?_;(try clear hK1 K1)
   refine zNy (i:=0) mtI rfl rfl rfl rfl rfl rfl (mx hs) ?_;refine aR ?_;refine aA ?_;refine aC (fun K hK=>?_);simp (disch:=omega) only [push_cast,↓iC9,simprocAttr];refine hK _ ?_;clear hK K
   refine aB ?_;refine bB ?_;simp only [aJ,aP,yH,yE,yK,yJ,aS,zS,zM,Nat.reduceEqDiff,reduceIte,reduceCtorEq];refine cE [0] [] (by first|rfl|simp [bsL,MO.bs]) (by decide) (by decide) (by simp only [push_cast,simprocAttr]) (by simp only [push_cast,simprocAttr]) (by simp only [push_cast,simprocAttr];rfl) (by simp only [push_cast,simprocAttr];rfl) ?_
   refine ⟨rfl,rfl,?_⟩;simp only [cJ,a2,a3,a4,zL4];rfl
  ·have hl0:0 < (eY d p).length:=List.length_pos_iff.2 h2
   have hr:cS d p=(12,d):=by simp [cS,h0,h1,h2]
   rw [hr];refine bA rfl (fun _=>?_) (fun h=>by simp at h;first|exact absurd h h2|omega)
   refine aA ?_;refine aC (fun K hK=>?_);simp (disch:=omega) only [push_cast,↓iC9,simprocAttr];refine hK _ ?_;clear hK K
   refine aB ?_;refine bB ?_;refine cH ?_;simp only [aJ,aP,yH,yE,yK,yJ,aS,zS,zM,Nat.reduceEqDiff,reduceIte,reduceCtorEq];refine cE [0] [] (by first|rfl|simp [bsL,MO.bs]) (by decide) (by decide) (by simp only [push_cast,simprocAttr]) (by simp only [push_cast,simprocAttr]) (by simp only [push_cast,simprocAttr];rfl) (by simp only [push_cast,simprocAttr];rfl) ?_
   exact ⟨rfl,rfl,rfl⟩
end Go.Proofs.YtlihpgmgiehjkaaGreatDoor
end
section
set_option maxRecDepth 20000
namespace Go.Dk
open Go Go.Eng Go.Tr Go.Proofs.YtlihpgmgiehjkaaGreatDoor
def qA0 (d:Dk) (k:Int) (P Q:ByteArray) (M:Int):Dk :=
 if k=1 then (dY d P).2 else if k=2 then (cW d P Q).2 else if k=3 then (append d P Q).2 else if k=4 then (nG d P).2 else if k=5 then (zGe d P Q).2 else if k=6 then (cS d P).2 else
 if k=7 then (zPj d P M).2 else if k=8 then zTz d M else if k=9 then restart d M else if k=10 then (zMf (fun s=>qFb s M) d P).2 else d
structure Rel (d:Dk) (R:LN) (m:Nat):Prop where
 look:∀ v,aH R v=aH d.R v
 nod:(R.map fun e=>e.1).Nodup
 rl:R.length≤m
end Go.Dk
namespace Go.Proofs.YtlihpgmgiehjkaaGreatDoor
open Go Go.Eng Go.RowKit Go.Tr Go.Dk
end Go.Proofs.YtlihpgmgiehjkaaGreatDoor
end
section
set_option maxRecDepth 20000
namespace Go.Sw
open Go Go.Eng Go.Tr Go.Dk
def kT (k:Int):Int:=if k=1 then 1 else if k=2 then 2 else if k=3 then 6 else if k=4 then 5 else if k=5 then 3 else if k=6 then 9 else if k=7 then 10 else 0
theorem zM2 {k:Int} (h1:¬ k=1) (h2:¬ k=2) (h3:¬ k=3) (h4:¬ k=4) (h5:¬ k=5) (h6:¬ k=6) (h7:¬ k=7):kT k=0:=by
 unfold kT;rw [if_neg h1,if_neg h2,if_neg h3,if_neg h4,if_neg h5,if_neg h6,if_neg h7]
end Go.Sw
namespace Go.Proofs.YtlihpgmgiehjkaaGreatDoor
open Go Go.Eng Go.RowKit Go.Tr Go.Dk Go.Sw
end Go.Proofs.YtlihpgmgiehjkaaGreatDoor
end
