/-
  Rot, of the program's disk and of the reference's; the program's Remove: walked.
-/
import Derived.Test.YtlihpgmgiehjkaaGreatDoorRkI
import Derived.Test.YtlihpgmgiehjkaaGreatDoorTnA
import Derived.Test.YtlihpgmgiehjkaaGreatDoorDlD
import Derived.Test.YtlihpgmgiehjkaaGreatDoorDlE
set_option linter.unusedSimpArgs false
set_option linter.unusedVariables false
set_option maxRecDepth 20000
namespace Go.Proofs.YtlihpgmgiehjkaaGreatDoor
open Go Go.Eng Go.RowKit Go.Tr Go.Dk
theorem tC (s:ByteArray) (bit:Int):(dM s bit).size=s.size:=by
 unfold dM;split
 ·rename_i h;rw [h];rfl
 ·rw [strOfNums_size,List.length_map,qPl]
set_option maxHeartbeats 4000000 in
theorem zP5 (d:Dk) (R:LN) (fr nw:Bool) (ok:ROk d R) (p:ByteArray) (bit:Int) (hs:p.size≤1048576) (hb1:-9223372036854775808≤bit) (hb2:bit≤9223372036854775807) (hlo:Lo d):HFunS Tryz.prog 39 [.ptr 0 6 0 0,.v (.string p),.v (.int .i64 bit)] (rst d R fr nw) (fun h st=>h=.v (.int .i64 (rZ (fun s=>dM s bit) d p).1)∧∃ fr',st=rst (rZ (fun s=>dM s bit) d p).2 R fr' nw):=by
 refine pS (N:=39) Tryz.func39 rfl Tryz.ntmps39 Tryz.results39 (by simp) ?_
 have c1:=qVl d R p hs ok.l4
 simp only [rst,iX];refine zE ?_;refine zJ (fun K hK=>?_);simp (disch:=omega) only [push_cast,↓iC9,simprocAttr];refine hK _ ?_;clear hK K
 refine zE ?_;refine zJ (fun K hK=>?_);simp (disch:=omega) only [push_cast,↓iC9,simprocAttr]
 refine cK zS3 c1 (.cons (fG rfl rfl) (.cons (.v _) .nil)) ?_;with_reducible refine aM ?_;simp (disch:=omega) only [push_cast,↓iC9,simprocAttr]
 refine hK _ ?_;clear hK K;refine zE ?_;refine zE ?_;refine zJ (fun K hK=>?_);simp (disch:=omega) only [push_cast,↓iC9,simprocAttr];refine hK _ ?_;clear hK K
 refine zA ?_
 rcases (Decidable.em (gH d p=0)).symm with h0|h0
 ·have hr:rZ (fun s=>dM s bit) d p=(gH d p,d):=by simp [rZ,h0]
  rw [hr];refine bE rfl (fun _=>?_) (fun h=>by simp [h0] at h)
  refine zE ?_;refine zJ (fun K hK=>?_);simp (disch:=omega) only [push_cast,↓iC9,simprocAttr];refine hK _ ?_;clear hK K
  refine zA ?_;refine zW ?_;refine zK ?_;simp only [aR,aZ,yH,yE,yK,yJ,aH,zS,zM,Nat.reduceEqDiff,reduceIte,reduceCtorEq];refine cZ [0,1] (by decide) (by decide) (by simp only [push_cast,simprocAttr]) (by simp only [push_cast,simprocAttr]) (by simp only [push_cast,simprocAttr];rfl) (by simp only [push_cast,simprocAttr];rfl) ?_
  exact ⟨rfl,fr,rfl⟩
 refine bE rfl (fun h=>by simp [h0] at h) (fun _=>?_)
 obtain ⟨f1,f2,f3⟩:=zC9 h0
 have hr:rZ (fun s=>dM s bit) d p=(0,jJ d p { aP d p with data:=dM (aP d p).data bit,kept:=dM (aP d p).kept bit }):=by simp [rZ,h0]
 rw [hr];obtain ⟨l1,l2,-⟩:=hlo p
 have t1:=qP6 (aP d p).data bit (by omega) hb1 hb2
 have t2:=qP6 (aP d p).kept bit (by omega) hb1 hb2
 have c6:=pF d R fr nw p { aP d p with data:=dM (aP d p).data bit,kept:=dM (aP d p).kept bit } ok.stamps
 have c5:=qE2 { d with stamps:=d.stamps + 1 } R fr nw p { aP d p with data:=dM (aP d p).data bit,kept:=dM (aP d p).kept bit,stamp:=d.stamps + 1 } ok.rise ok.l4
 have cp:=pG d R p ok.l4
 obtain ⟨i,hp⟩:=qBv f2;obtain ⟨hi,e1,e3,-,-⟩:=uJ hp;rw [lB hp] at cp;simp only [rst,iX] at c5 c6 ⊢;refine yB [0,1,2] [0,1] (by simp only [zZ,zR,zP,zQ,zN,zS,zM,zX,zU,Nat.reduceEqDiff,reduceIte];exact rfl) ?_
 refine zC ?_;refine zE ?_;refine qUo 9 8 76 23 64 mixed (by kernel_rfl) rfl rfl rfl rfl (by decide) zF4 rfl (by kernel_rfl) (by decide) (fun K hK=>?_);simp (disch:=omega) only [push_cast,↓iC9,simprocAttr,bG,bU,bY hi]
 refine lS qYo cp (.cons (fG rfl rfl) (.cons (.v _) .nil)) ?_;with_reducible refine aM ?_;simp (disch:=omega) only [push_cast,↓iC9,simprocAttr,bG,bU,bY hi]
 refine ⟨[.string d.L[i].1,.bool d.L[i].2.dir,.string d.L[i].2.data,.string d.L[i].2.kept,.bool d.L[i].2.loose,.bool d.L[i].2.anew,.int .i64 d.L[i].2.stamp],rfl,?_⟩;refine aM ?_;simp (disch:=omega) only [push_cast,↓iC9,simprocAttr,fC,dV,eV,dS,fW,fY,fX,iS,eZ,fA,eY,eX,gC,eW,fB,dU,iR];refine hK _ ?_;clear hK K;rw [e1,← e3];refine yB [0,2,8] [0,1,64] (by simp only [zZ,zR,zP,zQ,zN,zS,zM,zX,zU,Nat.reduceEqDiff,reduceIte];exact rfl) ?_
 refine zE ?_;refine kL 9 mixed (by kernel_rfl) (fun K hK=>?_);simp (disch:=omega) only [push_cast,↓iC9,simprocAttr]
 refine lS zS1 t1 (.cons (.v _) (.cons (.v _) .nil)) ?_;with_reducible refine aM ?_;simp (disch:=omega) only [push_cast,↓iC9,simprocAttr]
 refine lS zS1 t2 (.cons (.v _) (.cons (.v _) .nil)) ?_;with_reducible refine aM ?_;simp (disch:=omega) only [push_cast,↓iC9,simprocAttr]
 with_reducible refine aM ?_;simp (disch:=omega) only [push_cast,↓iC9,simprocAttr]
 refine hK _ ?_;clear hK K;refine yB [0,8] [0,1,64] (by simp only [zZ,zR,zP,zQ,zN,zS,zM,zX,zU,Nat.reduceEqDiff,reduceIte];exact rfl) ?_
 refine zE ?_;refine zJ (fun K hK=>?_);simp (disch:=omega) only [push_cast,↓iC9,simprocAttr]
 refine gW 296 [0,1] zLy (c6) rfl (by decide) (by decide) (by simp only [push_cast,simprocAttr];try rfl) (by simp only [push_cast,simprocAttr];try rfl) ?_
 rintro _ _ ⟨rfl,rfl⟩;refine aM ?_;simp (disch:=omega) only [push_cast,↓iC9,simprocAttr];refine gW 304 [0,1] zFr (c5) rfl (by decide) (by decide) (by simp only [push_cast,simprocAttr];try rfl) (by simp only [push_cast,simprocAttr];try rfl) ?_
 rintro _ _ ⟨rfl,rfl⟩;refine aM ?_;simp (disch:=omega) only [push_cast,↓iC9,simprocAttr];refine hK _ ?_;clear hK K;refine zE ?_;refine zJ (fun K hK=>?_);simp (disch:=omega) only [push_cast,↓iC9,simprocAttr];refine hK _ ?_;clear hK K
 refine zA ?_;refine zW ?_;simp only [aR,aZ,yH,yE,yK,yJ,aH,zS,zM,Nat.reduceEqDiff,reduceIte,reduceCtorEq];refine cZ [0,1] (by decide) (by decide) (by simp only [push_cast,simprocAttr]) (by simp only [push_cast,simprocAttr]) (by simp only [push_cast,simprocAttr];rfl) (by simp only [push_cast,simprocAttr];rfl) ?_
 exact ⟨rfl,true,rfl⟩
set_option maxHeartbeats 4000000 in
theorem zR3 (d:Dk) (B:Int) (hd:d.Ok B) (hB:B≤1099511627776) (p:ByteArray) (bit:Int) (r1 r2:Nat) (hs:p.size≤1048576) (hb1:-9223372036854775808≤bit) (hb2:bit≤9223372036854775807) (hlo:Lo d) :
  HFunM Tryz.prog 38 [.ptr 0 6 0 0,.v (.string p),.v (.int .i64 bit)] [(0,.bx false 64 (d.cells r1 r2))] (d.maps kS r1 r2) (fun h st g=>h=.v (.int .i64 (rZ (fun s=>dM s bit) d p).1)∧st=[(0,.bx false 64 ((rZ (fun s=>dM s bit) d p).2.cells r1 r2))]∧g=(rZ (fun s=>dM s bit) d p).2.maps kS r1 r2):=by
 refine kC (N:=35) Tryz.func38 rfl Tryz.ntmps38 Tryz.results38 (by simp) ?_
 have hm:=zLh d p r1 r2 hs
 have hn:d.n < maxLen:=by have:=hd.n;simp only [maxLen];omega
 have hst:0≤d.stamps∧d.stamps < 4611686018427387904:=⟨hd.stamps.1,by have:=hd.stamps.2;omega⟩
 obtain ⟨l1,l2,-⟩:=hlo p
 have t1:=(zGg (aP d p).data bit (by omega) hb1 hb2).mono fun h st q=>q.1
 have t2:=(zGg (aP d p).kept bit (by omega) hb1 hb2).mono fun h st q=>q.1
 have hse:=qVh d p { aP d p with data:=dM (aP d p).data bit,kept:=dM (aP d p).kept bit } r1 r2 hs hn hst
 simp only [bM] at hm hse ⊢;rw [cS] at hm hse ⊢;refine aA ?_;refine aC (fun K hK=>?_);simp (disch:=omega) only [push_cast,↓iC9,simprocAttr];refine hK _ ?_;clear hK K
 refine aA ?_;refine aA ?_;refine bD ?_;refine aG 2 (fun K1 hK1=>?_);simp (disch:=omega) only [push_cast,↓iC9,simprocAttr];refine hK1 _ ?_;(try clear hK1 K1)
 refine bT 88 [0] zS4 (hm) rfl rfl rfl rfl (by simp only [push_cast,simprocAttr];exact rfl) (by decide) (by decide) (by decide) (by simp only [push_cast,simprocAttr];try rfl) (by simp only [push_cast,simprocAttr];try rfl) ?_
 rintro _ _ _ ⟨rfl,rfl,rfl⟩;refine aG 1 (fun K1 hK1=>?_);simp (disch:=omega) only [push_cast,↓iC9,simprocAttr,aE,aD];refine hK1 _ ?_;(try clear hK1 K1)
 refine aV ?_;refine aA ?_;refine aC (fun K hK=>?_);simp (disch:=omega) only [push_cast,↓iC9,simprocAttr];refine hK _ ?_;clear hK K
 refine aX [0,1,2,7,13] [0] (by simp only [zZ,zR,zP,zQ,zN,zS,zM,zX,zU,Nat.reduceEqDiff,reduceIte];exact rfl) ?_
 rcases (Decidable.em (gH d p=0)).symm with h0|h0
 ·have hr:rZ (fun s=>dM s bit) d p=(gH d p,d):=by simp [rZ,h0]
  rw [hr];refine bC rfl (fun _=>?_) (fun h=>by simp [h0] at h)
  refine aA ?_;refine aC (fun K hK=>?_);simp (disch:=omega) only [push_cast,↓iC9,simprocAttr];refine hK _ ?_;clear hK K
  refine aB ?_;refine bB ?_;refine bR ?_;simp only [aF,aN,yH,yE,yK,yJ,aH,zS,zM,Nat.reduceEqDiff,reduceIte,reduceCtorEq];refine bV [0] [] (by first|rfl|simp [bsL,MO.bs]) (by decide) (by decide) (by simp only [push_cast,simprocAttr]) (by simp only [push_cast,simprocAttr]) (by simp only [push_cast,simprocAttr];rfl) (by simp only [push_cast,simprocAttr];rfl) ?_
  exact ⟨rfl,rfl,rfl⟩
 refine bC rfl (fun h=>by simp [h0] at h) (fun _=>?_)
 have hr:rZ (fun s=>dM s bit) d p=(0,jJ d p { aP d p with data:=dM (aP d p).data bit,kept:=dM (aP d p).kept bit }):=by simp [rZ,h0]
 rw [hr];refine aT ?_;refine aA ?_;refine bD ?_;refine aG 5 (fun K1 hK1=>?_);simp (disch:=omega) only [push_cast,↓iC9,simprocAttr];refine hK1 _ ?_;(try clear hK1 K1)
 refine fH (i:=0) mtI rfl rfl rfl rfl rfl rfl (mx hs) ?_;refine aG 2 (fun K1 hK1=>?_);simp (disch:=omega) only [push_cast,↓iC9,simprocAttr,aE,aD,gS,gT];refine hK1 _ ?_;(try clear hK1 K1)
 refine aV ?_
 have hxd:(aS d.L p).getD itm0=aP d p:=rfl
 rw [hxd];refine aX [0,1,2,8] [0,64] (by simp only [zZ,zR,zP,zQ,zN,zS,zM,zX,zU,Nat.reduceEqDiff,reduceIte];exact rfl) ?_
 refine aA ?_;refine qEn ?_;refine kL 9 mixed (by kernel_rfl) (fun K hK=>?_);simp (disch:=omega) only [push_cast,↓iC9,simprocAttr]
 refine lS zS2 t1 (.cons (.v _) (.cons (.v _) .nil)) ?_;with_reducible refine aM ?_;simp (disch:=omega) only [push_cast,↓iC9,simprocAttr]
 refine lS zS2 t2 (.cons (.v _) (.cons (.v _) .nil)) ?_;with_reducible refine aM ?_;simp (disch:=omega) only [push_cast,↓iC9,simprocAttr]
 with_reducible refine aM ?_;simp (disch:=omega) only [push_cast,↓iC9,simprocAttr]
 refine hK _ ?_;clear hK K;refine aX [0,1,8] [0,64] (by simp only [zZ,zR,zP,zQ,zN,zS,zM,zX,zU,Nat.reduceEqDiff,reduceIte];exact rfl) ?_
 refine aA ?_;refine bD ?_;refine aG 3 (fun K1 hK1=>?_);simp (disch:=omega) only [push_cast,↓iC9,simprocAttr];refine hK1 _ ?_;(try clear hK1 K1)
 refine bT 272 [0] zFv (hse) rfl rfl rfl rfl (by simp only [push_cast,simprocAttr];exact rfl) (by decide) (by decide) (by decide) (by simp only [push_cast,simprocAttr];try rfl) (by simp only [push_cast,simprocAttr];try rfl) ?_
 rintro _ _ _ ⟨rfl,rfl,rfl⟩;refine aG 0 (fun K1 hK1=>?_);simp (disch:=omega) only [push_cast,↓iC9,simprocAttr,aE,aD];refine hK1 _ ?_;(try clear hK1 K1)
 refine aV ?_;refine aA ?_;refine aC (fun K hK=>?_);simp (disch:=omega) only [push_cast,↓iC9,simprocAttr];refine hK _ ?_;clear hK K
 refine aB ?_;refine bB ?_;simp only [aF,aN,yH,yE,yK,yJ,aH,zS,zM,Nat.reduceEqDiff,reduceIte,reduceCtorEq];refine bV [0] [] (by first|rfl|simp [bsL,MO.bs]) (by decide) (by decide) (by simp only [push_cast,simprocAttr]) (by simp only [push_cast,simprocAttr]) (by simp only [push_cast,simprocAttr];rfl) (by simp only [push_cast,simprocAttr];rfl) ?_
 exact ⟨rfl,rfl,rfl⟩
set_option maxHeartbeats 4000000 in
theorem zHa (d:Dk) (B:Int) (hd:d.Ok B) (hB:B≤1099511627776) (p:ByteArray) (r1 r2:Nat) (hs:p.size≤1048576) (hl:d.L.length≤4194304) :
  HFunM Tryz.prog 31 [.ptr 0 6 0 0,.v (.string p)] [(0,.bx false 64 (d.cells r1 r2))] (d.maps kS r1 r2) (fun h st g=>h=.v (.int .i64 (dA d p).1)∧st=[(0,.bx false 64 ((dA d p).2.cells r1 r2))]∧g=(dA d p).2.maps kS r1 r2):=by
 refine kC (N:=41) Tryz.func31 rfl Tryz.ntmps31 Tryz.results31 (by simp) ?_
 have hm:=qQz d p 0 r1 r2 hs
 have hli:=zJb d B hd hB p hs hl r1 r2
 have ht:=qJo d r1 r2 ⟨hd.steps.1,by have:=hd.steps.2;omega⟩ hd.armed
 have hn:d.n < maxLen:=by have:=hd.n;simp only [maxLen];omega
 simp only [bM] at hm hli ht ⊢;refine aA ?_;refine aC (fun K hK=>?_);simp (disch:=omega) only [push_cast,↓iC9,simprocAttr];refine hK _ ?_;clear hK K
 refine aA ?_;refine aA ?_;refine aC (fun K hK=>?_);simp (disch:=omega) only [push_cast,↓iC9,simprocAttr]
 refine gW 88 [0] zFu (hm) rfl (by decide) (by decide) (by simp only [push_cast,simprocAttr];try rfl) (by simp only [push_cast,simprocAttr];try rfl) ?_
 rintro _ _ ⟨rfl,rfl⟩;refine aM ?_;simp (disch:=omega) only [push_cast,↓iC9,simprocAttr];refine hK _ ?_;clear hK K;refine aA ?_;refine aC (fun K hK=>?_);simp (disch:=omega) only [push_cast,↓iC9,simprocAttr];refine hK _ ?_;clear hK K
 refine aX [0,1,5,13] [0] (by simp only [zZ,zR,zP,zQ,zN,zS,zM,zX,zU,Nat.reduceEqDiff,reduceIte];exact rfl) ?_
 rcases (Decidable.em (may d p 0=0)).symm with h0|h0
 ·have hr:dA d p=(may d p 0,d):=by simp [dA,h0]
  rw [hr];refine bC rfl (fun _=>?_) (fun h=>by simp [h0] at h)
  refine aA ?_;refine aC (fun K hK=>?_);simp (disch:=omega) only [push_cast,↓iC9,simprocAttr];refine hK _ ?_;clear hK K
  refine aB ?_;refine bB ?_;refine bR ?_;simp only [aF,aN,yH,yE,yK,yJ,aH,zS,zM,Nat.reduceEqDiff,reduceIte,reduceCtorEq];refine bV [0] [] (by first|rfl|simp [bsL,MO.bs]) (by decide) (by decide) (by simp only [push_cast,simprocAttr]) (by simp only [push_cast,simprocAttr]) (by simp only [push_cast,simprocAttr];rfl) (by simp only [push_cast,simprocAttr];rfl) ?_
  exact ⟨rfl,rfl,rfl⟩
 refine bC rfl (fun h=>by simp [h0] at h) (fun _=>?_)
 rw [cS] at hli ⊢;refine aT ?_;refine aA ?_;refine aA ?_;refine bD ?_;refine aG 5 (fun K1 hK1=>?_);simp (disch:=omega) only [push_cast,↓iC9,simprocAttr];refine hK1 _ ?_;(try clear hK1 K1)
 refine fH (i:=0) mtI rfl rfl rfl rfl rfl rfl (mx hs) ?_;refine aG 6 (fun K1 hK1=>?_);simp (disch:=omega) only [push_cast,↓iC9,simprocAttr,aE,aD,gS,nR,gT];refine hK1 _ ?_;(try clear hK1 K1)
 refine aV ?_
 have hxd:(aS d.L p).getD itm0=aP d p:=rfl
 have hxs:(aS d.L p).isSome=has d p:=rfl
 rw [hxd,hxs];refine aX [0,1,7] [0] (by simp only [zZ,zR,zP,zQ,zN,zS,zM,zX,zU,Nat.reduceEqDiff,reduceIte];exact rfl) ?_
 refine aA ?_
 cases h1:has d p with
|false =>
  have hr:dA d p=(11,d):=by simp [dA,h0,h1]
  rw [hr];refine aC (fun K hK=>?_);simp (disch:=omega) only [push_cast,↓iC9,simprocAttr];refine hK _ ?_;clear hK K
  refine aB ?_;refine bW rfl ?_;refine aA ?_;refine aC (fun K hK=>?_);simp (disch:=omega) only [push_cast,↓iC9,simprocAttr];refine hK _ ?_;clear hK K
  refine aB ?_;refine bB ?_;refine bR ?_;simp only [aF,aN,yH,yE,yK,yJ,aH,zS,zM,Nat.reduceEqDiff,reduceIte,reduceCtorEq];refine bV [0] [] (by first|rfl|simp [bsL,MO.bs]) (by decide) (by decide) (by simp only [push_cast,simprocAttr]) (by simp only [push_cast,simprocAttr]) (by simp only [push_cast,simprocAttr];rfl) (by simp only [push_cast,simprocAttr];rfl) ?_
  exact ⟨rfl,rfl,rfl⟩
|true =>
  refine aC (fun K hK=>?_);simp (disch:=omega) only [push_cast,↓iC9,simprocAttr];refine hK _ ?_;clear hK K
  refine aB ?_;refine bA rfl ?_;refine aX [0,1] [0] (by simp only [zZ,zR,zP,zQ,zN,zS,zM,zX,zU,Nat.reduceEqDiff,reduceIte];exact rfl) ?_
  have hll:(gR d p).length≤4194304:=by
   unfold gR;rw [List.length_map];exact Nat.le_trans (List.length_filter_le _ _) hl
  refine aT ?_;refine aA ?_;refine aA ?_;refine bD ?_;refine aG 2 (fun K1 hK1=>?_);simp (disch:=omega) only [push_cast,↓iC9,simprocAttr];refine hK1 _ ?_;(try clear hK1 K1)
  refine bT 224 [0] zTb (hli) rfl rfl rfl rfl (by simp only [push_cast,simprocAttr];exact rfl) (by decide) (by decide) (by decide) (by simp only [push_cast,simprocAttr];try rfl) (by simp only [push_cast,simprocAttr];try rfl) ?_
  rintro _ _ _ ⟨rfl,rfl,rfl⟩;refine aG 2 (fun K1 hK1=>?_);simp (disch:=omega) only [push_cast,↓iC9,simprocAttr,aE,aD,cT];refine hK1 _ ?_;(try clear hK1 K1)
  refine aV ?_;refine aX [0,1,30] [0] (by simp only [zZ,zR,zP,zQ,zN,zS,zM,zX,zU,Nat.reduceEqDiff,reduceIte];exact rfl) ?_
  skip
  by_cases h2:gR d p=[]
  ·rw [h2]
   have hrem:(aW d).1≠0→dA d p=aW d:=fun h=>by simp [dA,h0,h1,h2,h]
   have hrem0:(aW d).1=0→dA d p=(0,{ (aW d).2 with L:=del p d.L }):=fun h=>by simp [dA,h0,h1,h2,h]
   refine bA rfl ?_;refine aT ?_;refine aA ?_;refine aA ?_;refine aC (fun K hK=>?_);simp (disch:=omega) only [push_cast,↓iC9,simprocAttr]
   refine gW 256 [0] zFt (ht) rfl (by decide) (by decide) (by simp only [push_cast,simprocAttr];try rfl) (by simp only [push_cast,simprocAttr];try rfl) ?_
   rintro _ _ ⟨rfl,rfl⟩;refine aM ?_;simp (disch:=omega) only [push_cast,↓iC9,simprocAttr];refine hK _ ?_;clear hK K;refine aA ?_;refine aC (fun K hK=>?_);simp (disch:=omega) only [push_cast,↓iC9,simprocAttr];refine hK _ ?_;clear hK K
   refine aX [0,1,8,34] [0] (by simp only [zZ,zR,zP,zQ,zN,zS,zM,zX,zU,Nat.reduceEqDiff,reduceIte];exact rfl) ?_
   rcases (iU d).symm with ⟨h4,h5⟩|⟨h4,h5⟩
   ·rw [hrem (by omega)]
    refine bC rfl (fun _=>?_) (fun h=>by simp [h4] at h)
    refine aA ?_;refine aC (fun K hK=>?_);simp (disch:=omega) only [push_cast,↓iC9,simprocAttr];refine hK _ ?_;clear hK K
    refine aB ?_;refine bB ?_;refine bR ?_;simp only [aF,aN,yH,yE,yK,yJ,aH,zS,zM,Nat.reduceEqDiff,reduceIte,reduceCtorEq];refine bV [0] [] (by first|rfl|simp [bsL,MO.bs]) (by decide) (by decide) (by simp only [push_cast,simprocAttr]) (by simp only [push_cast,simprocAttr]) (by simp only [push_cast,simprocAttr];rfl) (by simp only [push_cast,simprocAttr];rfl) ?_
    refine ⟨rfl,rfl,?_⟩;rw [lE];rfl
   rw [hrem0 h4];obtain ⟨a1,a2,a3,a4,a5⟩:=dL d;refine bC rfl (fun h=>by simp [h4] at h) (fun _=>?_)
   refine aT ?_;refine aA ?_;refine bD ?_;refine aG 5 (fun K1 hK1=>?_);simp (disch:=omega) only [push_cast,↓iC9,simprocAttr];refine hK1 _ ?_;(try clear hK1 K1)
   refine qUs (i:=0) mtI rfl rfl rfl rfl rfl rfl (mx hs) ?_;refine aV ?_;refine aA ?_;refine aC (fun K hK=>?_);simp (disch:=omega) only [push_cast,↓iC9,simprocAttr];refine hK _ ?_;clear hK K
   refine aB ?_;refine bB ?_;simp only [aF,aN,yH,yE,yK,yJ,aH,zS,zM,Nat.reduceEqDiff,reduceIte,reduceCtorEq];refine bV [0] [] (by first|rfl|simp [bsL,MO.bs]) (by decide) (by decide) (by simp only [push_cast,simprocAttr]) (by simp only [push_cast,simprocAttr]) (by simp only [push_cast,simprocAttr];rfl) (by simp only [push_cast,simprocAttr];rfl) ?_
   refine ⟨rfl,rfl,?_⟩;simp only [cS,a2,a3,a4,zAw];rfl
  ·have hl0:0 < (gR d p).length:=List.length_pos_iff.2 h2
   have hr:dA d p=(12,d):=by simp [dA,h0,h1,h2]
   rw [hr];refine bC rfl (fun _=>?_) (fun h=>by simp at h;first|exact absurd h h2|omega)
   refine aA ?_;refine aC (fun K hK=>?_);simp (disch:=omega) only [push_cast,↓iC9,simprocAttr];refine hK _ ?_;clear hK K
   refine aB ?_;refine bB ?_;refine bR ?_;simp only [aF,aN,yH,yE,yK,yJ,aH,zS,zM,Nat.reduceEqDiff,reduceIte,reduceCtorEq];refine bV [0] [] (by first|rfl|simp [bsL,MO.bs]) (by decide) (by decide) (by simp only [push_cast,simprocAttr]) (by simp only [push_cast,simprocAttr]) (by simp only [push_cast,simprocAttr];rfl) (by simp only [push_cast,simprocAttr];rfl) ?_
   exact ⟨rfl,rfl,rfl⟩
end Go.Proofs.YtlihpgmgiehjkaaGreatDoor
