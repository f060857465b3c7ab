/-
  The reference's disk: New, Append, Sync, Remove, walked.
-/
import Derived.Test.YtlihpgmgiehjkaaGreatDoorRkF
import Derived.Test.YtlihpgmgiehjkaaGreatDoorDva
set_option linter.unusedSimpArgs false
set_option linter.unusedVariables false
set_option maxRecDepth 20000
namespace Go.Dk
open Go Go.Eng Go.Tr
theorem zC9 {d:Dk} {p:ByteArray} (h:gH d p=0):may d p 1=0∧has d p=true∧(aP d p).dir=false:=by
 unfold gH at h;split at h
 ·rename_i h0;exact absurd h h0
 ·rename_i h0;split at h
  ·cases h
  ·rename_i h1;split at h
   ·cases h
   ·rename_i h2;exact ⟨by simpa using h0,by simpa using h1,by simpa using h2⟩
theorem qBv {d:Dk} {p:ByteArray} (h:has d p=true):∃ i,plc p d.L=some i:=by
 have:=zBk p d.L
 unfold has at h;rw [h] at this;exact Option.isSome_iff_exists.1 this.symm
end Go.Dk
namespace Go.Proofs.YtlihpgmgiehjkaaGreatDoor
open Go Go.Eng Go.RowKit Go.Tr Go.Dk
set_option maxHeartbeats 1000000 in
theorem zP7:HFunS Tryz.prog 6 [] [] (fun h st=>h=.ptr 0 6 0 0∧st=[(0,.bx true 68 (rc Dk.new true)),(1,.sl true 126 2 (rms []))]):=by
 refine pS (N:=3) Tryz.func6 rfl Tryz.ntmps6 Tryz.results6 (by simp) ?_
 refine zE ?_;refine zJ (fun K hK=>?_);simp (disch:=omega) only [push_cast,↓iC9,simprocAttr];refine hK _ ?_;clear hK K
 refine zE ?_;refine zJ (fun K hK=>?_);simp (disch:=omega) only [push_cast,↓iC9,simprocAttr];refine hK _ ?_;clear hK K
 refine zA ?_;refine zDs 16 0 9000 76 7 (by decide) rfl rfl (by simp only [push_cast,List.set_cons_succ,List.set_cons_zero,Nat.reduceEqDiff,reduceIte,Nat.reduceBEq,cond_false,cond_true];exact rfl) ?_
 refine xH 9000 rfl (by simp only [oK,lX,jQ,lJ,jH,vF,lP,lQ,jN,lN,lM,oQ,lR,lL,oF,oG,oH,Nat.reduceEqDiff,reduceIte,List.map_cons,List.map_nil,List.map_append];exact rfl) ?_
 refine zDs 16 1 9001 126 2 (by decide) rfl rfl (by simp only [push_cast,List.set_cons_succ,List.set_cons_zero,Nat.reduceEqDiff,reduceIte,Nat.reduceBEq,cond_false,cond_true];exact rfl) ?_
 refine zW ?_;simp only [aR,aZ,yH,yE,yK,yJ,aH,zS,zM,Nat.reduceEqDiff,reduceIte,reduceCtorEq];refine cZ [16,9001] (by decide) (by decide) (by simp only [push_cast,simprocAttr]) (by simp only [push_cast,simprocAttr]) (by simp only [push_cast,simprocAttr];rfl) (by simp only [push_cast,simprocAttr];rfl) ?_
 exact ⟨rfl,rfl⟩
set_option maxHeartbeats 4000000 in
theorem zEz (d:Dk) (R:LN) (fr nw:Bool) (ok:ROk d R) (p s:ByteArray) (hs:p.size≤1048576) (hz:s.size≤1048576):HFunS Tryz.prog 36 [.ptr 0 6 0 0,.v (.string p),.v (.string s)] (rst d R fr nw) (fun h st=>h=.v (.int .i64 (append d p s).1)∧∃ fr',st=rst (append d p s).2 R fr' nw):=by
 refine pS (N:=46) Tryz.func36 rfl Tryz.ntmps36 Tryz.results36 (by simp) ?_
 have c1:=qVl d R p hs ok.l4
 have cf:=qTs d R p s.size hs ok.l4 ok.keys ok.t2 ok.look ok.nod (by have:=ok.rl;omega) (by omega)
 have c4:=qC2 d R fr nw ok.armed ok.steps
 simp only [rst,iX] at c4 ⊢;refine zE ?_;refine zJ (fun K hK=>?_);simp (disch:=omega) only [push_cast,↓iC9,simprocAttr];refine hK _ ?_;clear hK K
 refine zE ?_;refine zJ (fun K hK=>?_);simp (disch:=omega) only [push_cast,↓iC9,simprocAttr]
 refine cK zS3 c1 (.cons (fG rfl rfl) (.cons (.v _) .nil)) ?_;with_reducible refine aM ?_;simp (disch:=omega) only [push_cast,↓iC9,simprocAttr]
 refine hK _ ?_;clear hK K;refine zE ?_;refine zE ?_;refine zJ (fun K hK=>?_);simp (disch:=omega) only [push_cast,↓iC9,simprocAttr];refine hK _ ?_;clear hK K
 refine zA ?_
 rcases (Decidable.em (gH d p=0)).symm with h0|h0
 ·have hr:append d p s=(gH d p,d):=by simp [append,h0]
  rw [hr];refine bE rfl (fun _=>?_) (fun h=>by simp [h0] at h)
  refine zE ?_;refine zJ (fun K hK=>?_);simp (disch:=omega) only [push_cast,↓iC9,simprocAttr];refine hK _ ?_;clear hK K
  refine zA ?_;refine zW ?_;refine zK ?_;simp only [aR,aZ,yH,yE,yK,yJ,aH,zS,zM,Nat.reduceEqDiff,reduceIte,reduceCtorEq];refine cZ [0,1] (by decide) (by decide) (by simp only [push_cast,simprocAttr]) (by simp only [push_cast,simprocAttr]) (by simp only [push_cast,simprocAttr];rfl) (by simp only [push_cast,simprocAttr];rfl) ?_
  exact ⟨rfl,fr,rfl⟩
 refine bE rfl (fun h=>by simp [h0] at h) (fun _=>?_)
 obtain ⟨f1,f2,f3⟩:=zC9 h0;refine yB [0,1,2] [0,1] (by simp only [zZ,zR,zP,zQ,zN,zS,zM,zX,zU,Nat.reduceEqDiff,reduceIte];exact rfl) ?_
 refine zC ?_;refine zE ?_;refine zE ?_;refine zJ (fun K hK=>?_);simp (disch:=omega) only [push_cast,↓iC9,simprocAttr]
 refine cK zQy cf (.cons (fG rfl rfl) (.cons (.v _) (.cons (.v _) .nil))) ?_;with_reducible refine aM ?_;simp (disch:=omega) only [push_cast,↓iC9,simprocAttr]
 refine hK _ ?_;clear hK K;refine zA ?_
 rcases (Decidable.em (jY d p s.size=true)).symm with h3|h3
 ·have hr:append d p s=(13,d):=by simp [append,h0,h3]
  rw [hr];refine bE rfl (fun _=>?_) (fun h=>by simp [h3] at h)
  refine zE ?_;refine zJ (fun K hK=>?_);simp (disch:=omega) only [push_cast,↓iC9,simprocAttr];refine hK _ ?_;clear hK K
  refine zA ?_;refine zW ?_;refine zK ?_;simp only [aR,aZ,yH,yE,yK,yJ,aH,zS,zM,Nat.reduceEqDiff,reduceIte,reduceCtorEq];refine cZ [0,1] (by decide) (by decide) (by simp only [push_cast,simprocAttr]) (by simp only [push_cast,simprocAttr]) (by simp only [push_cast,simprocAttr];rfl) (by simp only [push_cast,simprocAttr];rfl) ?_
  exact ⟨rfl,fr,rfl⟩
 refine bE rfl (fun h=>by simp [h3] at h) (fun _=>?_)
 refine yB [0,1,2] [0,1] (by simp only [zZ,zR,zP,zQ,zN,zS,zM,zX,zU,Nat.reduceEqDiff,reduceIte];exact rfl) ?_
 refine zC ?_;refine zE ?_;refine zJ (fun K hK=>?_);simp (disch:=omega) only [push_cast,↓iC9,simprocAttr]
 refine gW 176 [0,1] zLz (c4) rfl (by decide) (by decide) (by simp only [push_cast,simprocAttr];try rfl) (by simp only [push_cast,simprocAttr];try rfl) ?_
 rintro _ _ ⟨rfl,rfl⟩;refine aM ?_;simp (disch:=omega) only [push_cast,↓iC9,simprocAttr];refine hK _ ?_;clear hK K;refine zE ?_;refine zE ?_;refine zJ (fun K hK=>?_);simp (disch:=omega) only [push_cast,↓iC9,simprocAttr];refine hK _ ?_;clear hK K
 refine zA ?_
 rcases (iU d).symm with ⟨h4,h5⟩|⟨h4,h5⟩
 ·have hr:append d p s=aW d:=by simp [append,h0,h3,h4]
  rw [hr,h4];refine yC rfl ?_;refine zC ?_;refine zE ?_;refine zJ (fun K hK=>?_);simp (disch:=omega) only [push_cast,↓iC9,simprocAttr];refine hK _ ?_;clear hK K
  refine zA ?_;refine zW ?_;simp only [aR,aZ,yH,yE,yK,yJ,aH,zS,zM,Nat.reduceEqDiff,reduceIte,reduceCtorEq];refine cZ [0,1] (by decide) (by decide) (by simp only [push_cast,simprocAttr]) (by simp only [push_cast,simprocAttr]) (by simp only [push_cast,simprocAttr];rfl) (by simp only [push_cast,simprocAttr];rfl) ?_
  exact ⟨rfl,fr,rfl⟩
 have hr:append d p s=(0,jJ (aW d).2 p { aP d p with data:=(aP d p).data ++ s,loose:=true }):=by simp [append,h0,h3,h4]
 have hL:=(dL d).1
 have hib:=lF d p
 have htb:=ok.tot
 have c6:=pF (aW d).2 R fr nw p { aP d p with data:=(aP d p).data ++ s,loose:=true } (by rw [(dL d).2.2.2.2];exact ok.stamps)
 have c5:=qE2 { (aW d).2 with stamps:=(aW d).2.stamps + 1 } R fr nw p { aP d p with data:=(aP d p).data ++ s,loose:=true,stamp:=(aW d).2.stamps + 1 } (by show eU (aW d).2.L;rw [hL];exact ok.rise) (by show (aW d).2.L.length≤_;rw [hL];exact ok.l4)
 have cp:=pG (aW d).2 R p (by rw [hL];exact ok.l4)
 obtain ⟨i,hp⟩:=qBv f2;obtain ⟨hi,e1,e3,-,-⟩:=uJ hp;rw [← hL] at hp;rw [lB hp] at cp;rw [hr,h4];clear c1 c4 cf;simp only [rst,iX] at c5 c6 ⊢;rw [hL] at c5 c6 ⊢;simp only [dE,sA] at cp;rw [hL] at cp
 have hlb:∀ {st:aJ},rlk st 0=some (.bx false 68 [.lst fr (fT d.L),.own 1,.v (.int .i64 (aW d).2.steps),.v (.int .i64 (aW d).2.stamps),.v (.int .i64 (aW d).2.armed),.v (.bool (aW d).2.down)])→rlk st 1=some (.sl nw 126 2 (rms R))→Lend st (.ptr 0 6 0 0) (.elt false [[.lst false (fT d.L),.lst false (rms R),.v (.int .i64 (aW d).2.steps),.v (.int .i64 (aW d).2.stamps),.v (.int .i64 (aW d).2.armed),.v (.bool (aW d).2.down)]] 6 0 0):=fun h1 h2=>by
  have:=fG (d:=(aW d).2) (by rw [hL];exact h1) h2
  simp only [dE,sA] at this;rw [hL] at this;exact this
 refine yD rfl ?_;refine yB [0,1,2,7] [0,1] (by simp only [zZ,zR,zP,zQ,zN,zS,zM,zX,zU,Nat.reduceEqDiff,reduceIte];exact rfl) ?_
 refine zE ?_;refine qUo 9 8 76 33 64 mixed (by kernel_rfl) rfl rfl rfl rfl (by decide) zF4 rfl (by kernel_rfl) (by decide) (fun K hK=>?_);simp (disch:=omega) only [push_cast,↓iC9,simprocAttr,bG,bU,bY hi]
 refine lS qYo cp (.cons (hlb rfl rfl) (.cons (.v _) .nil)) ?_;with_reducible refine aM ?_;simp (disch:=omega) only [push_cast,↓iC9,simprocAttr,bG,bU,bY hi]
 refine ⟨[.string d.L[i].1,.bool d.L[i].2.dir,.string d.L[i].2.data,.string d.L[i].2.kept,.bool d.L[i].2.loose,.bool d.L[i].2.anew,.int .i64 d.L[i].2.stamp],rfl,?_⟩;refine aM ?_;simp (disch:=omega) only [push_cast,↓iC9,simprocAttr,fC,dV,eV,dS,fW,fY,fX,iS,eZ,fA,eY,eX,gC,eW,fB,dU,iR];refine hK _ ?_;clear hK K;rw [e1,← e3];refine yB [0,2,7,8] [0,1,64] (by simp only [zZ,zR,zP,zQ,zN,zS,zM,zX,zU,Nat.reduceEqDiff,reduceIte];exact rfl) ?_
 refine zE ?_;refine zJ (fun K hK=>?_);simp (disch:=omega) only [push_cast,↓iC9,simprocAttr]
 (repeat refine ⟨by first|omega|decide|((repeat' apply And.intro) <;> first|omega|decide),?_⟩)
 refine hK _ ?_;clear hK K;refine yB [0,7,8] [0,1,64] (by simp only [zZ,zR,zP,zQ,zN,zS,zM,zX,zU,Nat.reduceEqDiff,reduceIte];exact rfl) ?_
 refine zJ (fun K hK=>?_);simp (disch:=omega) only [push_cast,↓iC9,simprocAttr]
 refine gW 344 [0,1] zLy (c6) rfl (by decide) (by decide) (by simp only [push_cast,simprocAttr];try rfl) (by simp only [push_cast,simprocAttr];try rfl) ?_
 rintro _ _ ⟨rfl,rfl⟩;refine aM ?_;simp (disch:=omega) only [push_cast,↓iC9,simprocAttr];refine gW 352 [0,1] zFr (c5) rfl (by decide) (by decide) (by simp only [push_cast,simprocAttr];try rfl) (by simp only [push_cast,simprocAttr];try rfl) ?_
 rintro _ _ ⟨rfl,rfl⟩;refine aM ?_;simp (disch:=omega) only [push_cast,↓iC9,simprocAttr];refine hK _ ?_;clear hK K;refine zE ?_;refine zJ (fun K hK=>?_);simp (disch:=omega) only [push_cast,↓iC9,simprocAttr];refine hK _ ?_;clear hK K
 refine zA ?_;refine zW ?_;simp only [aR,aZ,yH,yE,yK,yJ,aH,zS,zM,Nat.reduceEqDiff,reduceIte,reduceCtorEq];refine cZ [0,1] (by decide) (by decide) (by simp only [push_cast,simprocAttr]) (by simp only [push_cast,simprocAttr]) (by simp only [push_cast,simprocAttr];rfl) (by simp only [push_cast,simprocAttr];rfl) ?_
 refine ⟨rfl,true,?_⟩;simp only [jJ,hL]
set_option maxHeartbeats 4000000 in
theorem zEl (d:Dk) (R:LN) (fr nw:Bool) (ok:ROk d R) (p:ByteArray) (hs:p.size≤1048576):HFunS Tryz.prog 32 [.ptr 0 6 0 0,.v (.string p)] (rst d R fr nw) (fun h st=>h=.v (.int .i64 (dA d p).1)∧∃ fr',st=rst (dA d p).2 R fr' nw):=by
 refine pS (N:=29) Tryz.func32 rfl Tryz.ntmps32 Tryz.results32 (by simp) ?_
 have c1:=sL d R p 0 hs
 have c3:=oJ d R p ok.l4
 have cl:=zM2 d R p ok.l4 ok.keys
 have c4:=qC2 d R fr nw ok.armed ok.steps
 have c5:=zA9 (aW d).2 R fr nw p (by rw [(dL d).1];exact ok.l4)
 simp only [rst,iX] at c4 c5 ⊢;refine zE ?_;refine zJ (fun K hK=>?_);simp (disch:=omega) only [push_cast,↓iC9,simprocAttr];refine hK _ ?_;clear hK K
 refine zE ?_;refine zJ (fun K hK=>?_);simp (disch:=omega) only [push_cast,↓iC9,simprocAttr]
 refine cK zFs c1 (.cons (fG rfl rfl) (.cons (.v _) (.cons (.v _) .nil))) ?_;with_reducible refine aM ?_;simp (disch:=omega) only [push_cast,↓iC9,simprocAttr]
 refine hK _ ?_;clear hK K;refine zE ?_;refine zE ?_;refine zJ (fun K hK=>?_);simp (disch:=omega) only [push_cast,↓iC9,simprocAttr];refine hK _ ?_;clear hK K
 refine zA ?_
 rcases (Decidable.em (may d p 0=0)).symm with h0|h0
 ·have hr:dA d p=(may d p 0,d):=by simp [dA,h0]
  rw [hr];refine bE rfl (fun _=>?_) (fun h=>by simp [h0] at h)
  refine zE ?_;refine zJ (fun K hK=>?_);simp (disch:=omega) only [push_cast,↓iC9,simprocAttr];refine hK _ ?_;clear hK K
  refine zA ?_;refine zW ?_;refine zK ?_;simp only [aR,aZ,yH,yE,yK,yJ,aH,zS,zM,Nat.reduceEqDiff,reduceIte,reduceCtorEq];refine cZ [0,1] (by decide) (by decide) (by simp only [push_cast,simprocAttr]) (by simp only [push_cast,simprocAttr]) (by simp only [push_cast,simprocAttr];rfl) (by simp only [push_cast,simprocAttr];rfl) ?_
  exact ⟨rfl,fr,rfl⟩
 refine bE rfl (fun h=>by simp [h0] at h) (fun _=>?_)
 refine yB [0,1] [0,1] (by simp only [zZ,zR,zP,zQ,zN,zS,zM,zX,zU,Nat.reduceEqDiff,reduceIte];exact rfl) ?_
 refine zC ?_;refine zE ?_;refine zE ?_;refine zJ (fun K hK=>?_);simp (disch:=omega) only [push_cast,↓iC9,simprocAttr]
 refine cK vM c3 (.cons (fG rfl rfl) (.cons (.v _) .nil)) ?_;with_reducible refine aM ?_;simp (disch:=omega) only [push_cast,↓iC9,simprocAttr]
 refine hK _ ?_;clear hK K;refine zA ?_
 by_cases h1:fD d p=0
 ·have hh:has d p=false:=by
   rcases kR d p with ⟨a,b⟩|⟨a,a2,b⟩|⟨a,a2,b⟩
   ·exact a
   ·omega
   ·omega
  have hr:dA d p=(11,d):=by simp [dA,h0,hh]
  rw [hr];refine bE rfl (fun _=>?_) (fun h=>by simp [h1] at h)
  refine zE ?_;refine zJ (fun K hK=>?_);simp (disch:=omega) only [push_cast,↓iC9,simprocAttr];refine hK _ ?_;clear hK K
  refine zA ?_;refine zW ?_;refine zK ?_;simp only [aR,aZ,yH,yE,yK,yJ,aH,zS,zM,Nat.reduceEqDiff,reduceIte,reduceCtorEq];refine cZ [0,1] (by decide) (by decide) (by simp only [push_cast,simprocAttr]) (by simp only [push_cast,simprocAttr]) (by simp only [push_cast,simprocAttr];rfl) (by simp only [push_cast,simprocAttr];rfl) ?_
  exact ⟨rfl,fr,rfl⟩
 have hh:has d p=true:=by
  rcases kR d p with ⟨a,b⟩|⟨a,a2,b⟩|⟨a,a2,b⟩
  ·omega
  ·exact a
  ·exact a
 refine bE rfl (fun h=>by simp [h1] at h) (fun _=>?_)
 refine yB [0,1] [0,1] (by simp only [zZ,zR,zP,zQ,zN,zS,zM,zX,zU,Nat.reduceEqDiff,reduceIte];exact rfl) ?_
 have hll:(gR d p).length≤4194304:=by
  unfold gR;rw [List.length_map];exact Nat.le_trans (List.length_filter_le _ _) ok.l4
 refine zC ?_;refine zE ?_;refine zE ?_;refine zJ (fun K hK=>?_);simp (disch:=omega) only [push_cast,↓iC9,simprocAttr]
 refine hat 144 zUe cl (.cons (fG rfl rfl) (.cons (.v _) .nil)) ?_;rintro _ _ ⟨rfl,rfl⟩;with_reducible refine aM ?_;simp (disch:=omega) only [push_cast,↓iC9,simprocAttr,cT]
 refine hK _ ?_;clear hK K;refine zA ?_
 by_cases h2:gR d p=[]
 ·rw [h2]
  have hrem:(aW d).1≠0→dA d p=aW d:=fun h=>by simp [dA,h0,hh,h2,h]
  have hrem0:(aW d).1=0→dA d p=(0,{ (aW d).2 with L:=del p d.L }):=fun h=>by simp [dA,h0,hh,h2,h]
  refine yC rfl ?_;refine yB [0,1] [0,1] (by simp only [zZ,zR,zP,zQ,zN,zS,zM,zX,zU,Nat.reduceEqDiff,reduceIte];exact rfl) ?_
  refine zC ?_;refine zE ?_;refine zJ (fun K hK=>?_);simp (disch:=omega) only [push_cast,↓iC9,simprocAttr]
  refine gW 176 [0,1] zLz (c4) rfl (by decide) (by decide) (by simp only [push_cast,simprocAttr];try rfl) (by simp only [push_cast,simprocAttr];try rfl) ?_
  rintro _ _ ⟨rfl,rfl⟩;refine aM ?_;simp (disch:=omega) only [push_cast,↓iC9,simprocAttr];refine hK _ ?_;clear hK K;refine zE ?_;refine zE ?_;refine zJ (fun K hK=>?_);simp (disch:=omega) only [push_cast,↓iC9,simprocAttr];refine hK _ ?_;clear hK K
  refine zA ?_
  rcases (iU d).symm with ⟨h4,h5⟩|⟨h4,h5⟩
  ·rw [hrem (by omega),h4]
   refine yC rfl ?_;refine zC ?_;refine zE ?_;refine zJ (fun K hK=>?_);simp (disch:=omega) only [push_cast,↓iC9,simprocAttr];refine hK _ ?_;clear hK K
   refine zA ?_;refine zW ?_;simp only [aR,aZ,yH,yE,yK,yJ,aH,zS,zM,Nat.reduceEqDiff,reduceIte,reduceCtorEq];refine cZ [0,1] (by decide) (by decide) (by simp only [push_cast,simprocAttr]) (by simp only [push_cast,simprocAttr]) (by simp only [push_cast,simprocAttr];rfl) (by simp only [push_cast,simprocAttr];rfl) ?_
   exact ⟨rfl,fr,rfl⟩
  rw [hrem0 h4,h4];refine yD rfl ?_;refine zJ (fun K hK=>?_);simp (disch:=omega) only [push_cast,↓iC9,simprocAttr]
  refine gW 216 [0,1] zS5 (c5) rfl (by decide) (by decide) (by simp only [push_cast,simprocAttr];try rfl) (by simp only [push_cast,simprocAttr];try rfl) ?_
  rintro _ _ ⟨rfl,rfl⟩;refine aM ?_;simp (disch:=omega) only [push_cast,↓iC9,simprocAttr];refine hK _ ?_;clear hK K;refine zE ?_;refine zJ (fun K hK=>?_);simp (disch:=omega) only [push_cast,↓iC9,simprocAttr];refine hK _ ?_;clear hK K
  refine zA ?_;refine zW ?_;simp only [aR,aZ,yH,yE,yK,yJ,aH,zS,zM,Nat.reduceEqDiff,reduceIte,reduceCtorEq];refine cZ [0,1] (by decide) (by decide) (by simp only [push_cast,simprocAttr]) (by simp only [push_cast,simprocAttr]) (by simp only [push_cast,simprocAttr];rfl) (by simp only [push_cast,simprocAttr];rfl) ?_
  refine ⟨rfl,true,?_⟩;rw [(dL d).1]
 ·have hl0:0 < (gR d p).length:=List.length_pos_iff.2 h2
  have hr:dA d p=(12,d):=by simp [dA,h0,hh,h2]
  rw [hr];refine bE rfl (fun _=>?_) (fun h=>by simp at h;first|exact absurd h h2|omega)
  refine zE ?_;refine zJ (fun K hK=>?_);simp (disch:=omega) only [push_cast,↓iC9,simprocAttr];refine hK _ ?_;clear hK K
  refine zA ?_;refine zW ?_;refine zK ?_;simp only [aR,aZ,yH,yE,yK,yJ,aH,zS,zM,Nat.reduceEqDiff,reduceIte,reduceCtorEq];refine cZ [0,1] (by decide) (by decide) (by simp only [push_cast,simprocAttr]) (by simp only [push_cast,simprocAttr]) (by simp only [push_cast,simprocAttr];rfl) (by simp only [push_cast,simprocAttr];rfl) ?_
  exact ⟨rfl,fr,rfl⟩
end Go.Proofs.YtlihpgmgiehjkaaGreatDoor
