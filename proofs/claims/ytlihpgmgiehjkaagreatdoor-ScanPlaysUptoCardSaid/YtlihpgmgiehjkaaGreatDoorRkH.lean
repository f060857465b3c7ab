/-
  The reference's disk: Rename, walked.
-/
import Derived.Test.YtlihpgmgiehjkaaGreatDoorRkG
set_option linter.unusedSimpArgs false
set_option linter.unusedVariables false
set_option maxRecDepth 20000
namespace Go.Dk
open Go Go.Eng Go.Tr
theorem zFb (d:Dk) (p:ByteArray):decide (fD d p=0)=!has d p:=by
 rcases kR d p with ⟨a,b⟩|⟨a,a2,b⟩|⟨a,a2,b⟩ <;> rw [a,b] <;> rfl
def iY (d:Dk) (a b:ByteArray):Int:=if vol a=vol b then -((aP d b).data.size:Int) else (aP d a).data.size - (aP d b).data.size
theorem zEt {d:Dk} {a b:ByteArray} (h1:may d a 1=0) (h2:may d b 1=0):eC d a b=if has d a=false∨fF d b=false then (11,d) else if (aP d a).dir=true∨(aP d b).dir=true then (12,d) else if a≠b∧jY d b (iY d a b)=false then (13,d) else
  if (aW d).1≠0 then aW d else (0,jJ { (aW d).2 with L:=del a d.L } b (aP d a)):=by
 rw [eC];simp only [h1,h2,if_true];rfl
end Go.Dk
namespace Go.Proofs.YtlihpgmgiehjkaaGreatDoor
open Go Go.Eng Go.RowKit Go.Tr Go.Dk
set_option maxHeartbeats 8000000 in
theorem zEk (d:Dk) (R:LN) (fr nw:Bool) (ok:ROk d R) (a b:ByteArray) (ha:a.size≤1048576) (hb:b.size≤1048576):HFunS Tryz.prog 34 [.ptr 0 6 0 0,.v (.string a),.v (.string b)] (rst d R fr nw) (fun h st=>h=.v (.int .i64 (eC d a b).1)∧∃ fr',st=rst (eC d a b).2 R fr' nw):=by
 refine pS (N:=101) Tryz.func34 rfl Tryz.ntmps34 Tryz.results34 (by simp) ?_
 have c1:=sL d R a 1 ha
 have c1b:=sL d R b 1 hb
 have c2:=qTr d R b hb ok.l4
 have ka:=oJ d R a ok.l4
 have kb:=oJ d R b ok.l4
 have pa:=pG d R a ok.l4
 have pb:=pG d R b ok.l4
 have va:=qTo a ha
 have vb:=qTo b hb
 have hia:=lF d a
 have hib:=lF d b
 have htb:=ok.tot
 have hmr:iY d a b≤1099511627776:=by unfold iY;split <;> omega
 have cf:=qTs d R b (iY d a b) hb ok.l4 ok.keys ok.t2 ok.look ok.nod (by have:=ok.rl;omega) hmr
 have c4:=qC2 d R fr nw ok.armed ok.steps
 simp only [rst,iX] at c4 ⊢;refine zE ?_;refine zJ (fun K hK=>?_);simp (disch:=omega) only [push_cast,↓iC9,simprocAttr];refine hK _ ?_;clear hK K
 refine zE ?_;refine zJ (fun K hK=>?_);simp (disch:=omega) only [push_cast,↓iC9,simprocAttr]
 refine cK zFs c1 (.cons (fG rfl rfl) (.cons (.v _) (.cons (.v _) .nil))) ?_;with_reducible refine aM ?_;simp (disch:=omega) only [push_cast,↓iC9,simprocAttr]
 refine hK _ ?_;clear hK K;refine zE ?_;refine zE ?_;refine zJ (fun K hK=>?_);simp (disch:=omega) only [push_cast,↓iC9,simprocAttr];refine hK _ ?_;clear hK K
 refine zA ?_
 rcases (Decidable.em (may d a 1=0)).symm with h0|h0
 ·have hr:eC d a b=(may d a 1,d):=by simp [eC,h0]
  rw [hr];refine bE rfl (fun _=>?_) (fun h=>by simp [h0] at h)
  refine zE ?_;refine zJ (fun K hK=>?_);simp (disch:=omega) only [push_cast,↓iC9,simprocAttr];refine hK _ ?_;clear hK K
  refine zA ?_;refine zW ?_;refine zK ?_;simp only [aR,aZ,yH,yE,yK,yJ,aH,zS,zM,Nat.reduceEqDiff,reduceIte,reduceCtorEq];refine cZ [0,1] (by decide) (by decide) (by simp only [push_cast,simprocAttr]) (by simp only [push_cast,simprocAttr]) (by simp only [push_cast,simprocAttr];rfl) (by simp only [push_cast,simprocAttr];rfl) ?_
  exact ⟨rfl,fr,rfl⟩
 refine bE rfl (fun h=>by simp [h0] at h) (fun _=>?_)
 refine yB [0,1,2] [0,1] (by simp only [zZ,zR,zP,zQ,zN,zS,zM,zX,zU,Nat.reduceEqDiff,reduceIte];exact rfl) ?_
 refine zC ?_;refine zE ?_;refine zJ (fun K hK=>?_);simp (disch:=omega) only [push_cast,↓iC9,simprocAttr]
 refine cK zFs c1b (.cons (fG rfl rfl) (.cons (.v _) (.cons (.v _) .nil))) ?_;with_reducible refine aM ?_;simp (disch:=omega) only [push_cast,↓iC9,simprocAttr]
 refine hK _ ?_;clear hK K;refine zE ?_;refine zE ?_;refine zJ (fun K hK=>?_);simp (disch:=omega) only [push_cast,↓iC9,simprocAttr];refine hK _ ?_;clear hK K
 refine zA ?_
 rcases (Decidable.em (may d b 1=0)).symm with h0b|h0b
 ·have hr:eC d a b=(may d b 1,d):=by simp [eC,h0,h0b]
  rw [hr];refine bE rfl (fun _=>?_) (fun h=>by simp [h0b] at h)
  refine zE ?_;refine zJ (fun K hK=>?_);simp (disch:=omega) only [push_cast,↓iC9,simprocAttr];refine hK _ ?_;clear hK K
  refine zA ?_;refine zW ?_;refine zK ?_;simp only [aR,aZ,yH,yE,yK,yJ,aH,zS,zM,Nat.reduceEqDiff,reduceIte,reduceCtorEq];refine cZ [0,1] (by decide) (by decide) (by simp only [push_cast,simprocAttr]) (by simp only [push_cast,simprocAttr]) (by simp only [push_cast,simprocAttr];rfl) (by simp only [push_cast,simprocAttr];rfl) ?_
  exact ⟨rfl,fr,rfl⟩
 refine bE rfl (fun h=>by simp [h0b] at h) (fun _=>?_)
 rw [vG h0b] at c2
 have hre:=zEt h0 h0b
 refine yB [0,1,2] [0,1] (by simp only [zZ,zR,zP,zQ,zN,zS,zM,zX,zU,Nat.reduceEqDiff,reduceIte];exact rfl) ?_
 refine zC ?_;refine zE ?_;refine zE ?_;refine kK (fun _:Unit=>⟨[(0,.ptr 0 6 0 0),(1,.v (.string a)),(2,.v (.string b)),(31,.v (.bool (!has d a || !fF d b)))],[(0,.bx false 68 [.lst fr (fT d.L),.own 1,.v (.int .i64 d.steps),.v (.int .i64 d.stamps),.v (.int .i64 d.armed),.v (.bool d.down)]),(1,.sl nw 126 2 (rms R))]⟩) (fun _=>True) [0,1,2,31] [0,1] ?_ ?_
 ·have kz:=zFb d a
  cases hh:has d a with
 |false =>
   rw [hh] at kz
   have kz:decide (fD d a=0)=true:=kz
   refine zJ (fun K hK=>?_);simp (disch:=omega) only [push_cast,↓iC9,simprocAttr]
   refine cK vM ka (.cons (fG rfl rfl) (.cons (.v _) .nil)) ?_;with_reducible refine aM ?_;simp (disch:=omega) only [push_cast,↓iC9,simprocAttr,kz]
   refine hK _ ?_;clear hK K;exact ⟨(),by simp only [zZ,zR,zP,zQ,zN,zS,zM,zX,zU,Nat.reduceEqDiff,reduceIte];try rfl,trivial⟩
 |true =>
   rw [hh] at kz
   have kz:decide (fD d a=0)=false:=kz
   refine zJ (fun K hK=>?_);simp (disch:=omega) only [push_cast,↓iC9,simprocAttr]
   refine cK vM ka (.cons (fG rfl rfl) (.cons (.v _) .nil)) ?_;with_reducible refine aM ?_;simp (disch:=omega) only [push_cast,↓iC9,simprocAttr,kz]
   refine cK zQz c2 (.cons (fG rfl rfl) (.cons (.v _) .nil)) ?_;with_reducible refine aM ?_;simp (disch:=omega) only [push_cast,↓iC9,simprocAttr]
   refine hK _ ?_;clear hK K;exact ⟨(),by simp only [zZ,zR,zP,zQ,zN,zS,zM,zX,zU,Nat.reduceEqDiff,reduceIte];try rfl,trivial⟩
 intro S' _ hE _;refine zA ?_;refine yB [0,1,2,31] [0,1] hE ?_;clear hE
 by_cases h1:has d a=false∨fF d b=false
 ·rw [if_pos h1] at hre
  have hx:(!has d a || !fF d b)=true:=by rcases h1 with h|h <;> simp [h]
  rw [hre,hx];refine yD rfl ?_;refine zE ?_;refine zJ (fun K hK=>?_);simp (disch:=omega) only [push_cast,↓iC9,simprocAttr];refine hK _ ?_;clear hK K
  refine zA ?_;refine zW ?_;refine zK ?_;simp only [aR,aZ,yH,yE,yK,yJ,aH,zS,zM,Nat.reduceEqDiff,reduceIte,reduceCtorEq];refine cZ [0,1] (by decide) (by decide) (by simp only [push_cast,simprocAttr]) (by simp only [push_cast,simprocAttr]) (by simp only [push_cast,simprocAttr];rfl) (by simp only [push_cast,simprocAttr];rfl) ?_
  exact ⟨rfl,fr,rfl⟩
 rw [if_neg h1] at hre
 have hha:has d a=true:=by
  cases h:has d a with
 |true=>rfl
 |false=>exact absurd (.inl h) h1
 have hub:fF d b=true:=by
  cases h:fF d b with
 |true=>rfl
 |false=>exact absurd (.inr h) h1
 have hx:(!has d a || !fF d b)=false:=by simp [hha,hub]
 rw [hx];refine yC rfl ?_;refine yB [0,1,2] [0,1] (by simp only [zZ,zR,zP,zQ,zN,zS,zM,zX,zU,Nat.reduceEqDiff,reduceIte];exact rfl) ?_
 refine zC ?_;refine zE ?_;refine zE ?_;refine kK (fun _:Unit=>⟨[(0,.ptr 0 6 0 0),(1,.v (.string a)),(2,.v (.string b)),(41,.v (.bool ((aP d a).dir || (aP d b).dir)))],[(0,.bx false 68 [.lst fr (fT d.L),.own 1,.v (.int .i64 d.steps),.v (.int .i64 d.stamps),.v (.int .i64 d.armed),.v (.bool d.down)]),(1,.sl nw 126 2 (rms R))]⟩) (fun _=>True) [0,1,2,41] [0,1] ?_ ?_
 ·have kd:=qDo d a
  have kd2:=qDo d b
  cases hh:(aP d a).dir with
 |true =>
   rw [hh] at kd;refine zJ (fun K hK=>?_);simp (disch:=omega) only [push_cast,↓iC9,simprocAttr]
   refine cK vM ka (.cons (fG rfl rfl) (.cons (.v _) .nil)) ?_;with_reducible refine aM ?_;simp (disch:=omega) only [push_cast,↓iC9,simprocAttr,kd]
   refine hK _ ?_;clear hK K;exact ⟨(),by simp only [zZ,zR,zP,zQ,zN,zS,zM,zX,zU,Nat.reduceEqDiff,reduceIte];try rfl,trivial⟩
 |false =>
   rw [hh] at kd;refine zJ (fun K hK=>?_);simp (disch:=omega) only [push_cast,↓iC9,simprocAttr]
   refine cK vM ka (.cons (fG rfl rfl) (.cons (.v _) .nil)) ?_;with_reducible refine aM ?_;simp (disch:=omega) only [push_cast,↓iC9,simprocAttr,kd]
   refine cK vM kb (.cons (fG rfl rfl) (.cons (.v _) .nil)) ?_;with_reducible refine aM ?_;simp (disch:=omega) only [push_cast,↓iC9,simprocAttr,kd2]
   refine hK _ ?_;clear hK K;exact ⟨(),by simp only [zZ,zR,zP,zQ,zN,zS,zM,zX,zU,Nat.reduceEqDiff,reduceIte];try rfl,trivial⟩
 intro S' _ hE _;refine zA ?_;refine yB [0,1,2,41] [0,1] hE ?_;clear hE
 by_cases h2:(aP d a).dir=true∨(aP d b).dir=true
 ·rw [if_pos h2] at hre
  have hx:((aP d a).dir || (aP d b).dir)=true:=by rcases h2 with h|h <;> simp [h]
  rw [hre,hx];refine yD rfl ?_;refine zE ?_;refine zJ (fun K hK=>?_);simp (disch:=omega) only [push_cast,↓iC9,simprocAttr];refine hK _ ?_;clear hK K
  refine zA ?_;refine zW ?_;refine zK ?_;simp only [aR,aZ,yH,yE,yK,yJ,aH,zS,zM,Nat.reduceEqDiff,reduceIte,reduceCtorEq];refine cZ [0,1] (by decide) (by decide) (by simp only [push_cast,simprocAttr]) (by simp only [push_cast,simprocAttr]) (by simp only [push_cast,simprocAttr];rfl) (by simp only [push_cast,simprocAttr];rfl) ?_
  exact ⟨rfl,fr,rfl⟩
 rw [if_neg h2] at hre
 have hda:(aP d a).dir=false:=by
  cases h:(aP d a).dir with
 |false=>rfl
 |true=>exact absurd (.inl h) h2
 have hdb:(aP d b).dir=false:=by
  cases h:(aP d b).dir with
 |false=>rfl
 |true=>exact absurd (.inr h) h2
 rw [hda,hdb];refine yC rfl ?_;obtain ⟨i,hp⟩:=qBv hha;obtain ⟨hi,e1,e3,-,-⟩:=uJ hp;rw [lB hp] at pa;refine yB [0,1,2] [0,1] (by simp only [zZ,zR,zP,zQ,zN,zS,zM,zX,zU,Nat.reduceEqDiff,reduceIte];exact rfl) ?_
 refine zC ?_;refine zE ?_;refine qUo 9 8 76 50 64 mixed (by kernel_rfl) rfl rfl rfl rfl (by decide) zF4 rfl (by kernel_rfl) (by decide) (fun K hK=>?_);simp (disch:=omega) only [push_cast,↓iC9,simprocAttr,bG,bU,bY hi]
 refine lS qYo pa (.cons (fG rfl rfl) (.cons (.v _) .nil)) ?_;with_reducible refine aM ?_;simp (disch:=omega) only [push_cast,↓iC9,simprocAttr,bG,bU,bY hi]
 refine ⟨[.string d.L[i].1,.bool d.L[i].2.dir,.string d.L[i].2.data,.string d.L[i].2.kept,.bool d.L[i].2.loose,.bool d.L[i].2.anew,.int .i64 d.L[i].2.stamp],rfl,?_⟩;refine aM ?_;simp (disch:=omega) only [push_cast,↓iC9,simprocAttr,fC,dV,eV,dS,fW,fY,fX,iS,eZ,fA,eY,eX,gC,eW,fB,dU,iR];refine hK _ ?_;clear hK K;rw [e1,← e3];refine yB [0,1,2,8] [0,1,64] (by simp only [zZ,zR,zP,zQ,zN,zS,zM,zX,zU,Nat.reduceEqDiff,reduceIte];exact rfl) ?_
 refine zE ?_;refine zJ (fun K hK=>?_);simp (disch:=omega) only [push_cast,↓iC9,simprocAttr];refine hK _ ?_;clear hK K
 refine zE ?_;refine zE ?_;refine zJ (fun K hK=>?_);simp (disch:=omega) only [push_cast,↓iC9,simprocAttr]
 refine cK zFq va (.cons (.v _) .nil) ?_;with_reducible refine aM ?_;simp (disch:=omega) only [push_cast,↓iC9,simprocAttr]
 refine cK zFq vb (.cons (.v _) .nil) ?_;with_reducible refine aM ?_;simp (disch:=omega) only [push_cast,↓iC9,simprocAttr]
 refine hK _ ?_;clear hK K;refine zA ?_;obtain ⟨m1,hm1⟩:∃ m1:Int,m1=if vol a=vol b then 0 else ((aP d a).data.size:Int):=⟨_,rfl⟩
 have hm2:m1 - ((aP d b).data.size:Int)=iY d a b:=by rw [hm1,iY];split <;> omega
 have hmb:0≤m1∧m1≤1073741824:=by rw [hm1];split <;> omega
 refine kK (fun _:Unit=>⟨[(0,.ptr 0 6 0 0),(1,.v (.string a)),(2,.v (.string b)),(8,.ptr 64 7 0 0),(9,.v (.int .i64 m1))],[(0,.bx false 68 [.lst fr (fT d.L),.own 1,.v (.int .i64 d.steps),.v (.int .i64 d.stamps),.v (.int .i64 d.armed),.v (.bool d.down)]),(1,.sl nw 126 2 (rms R)),(64,.bx true 76 [.v (.string a),.v (.bool (aP d a).dir),.v (.string (aP d a).data),.v (.string (aP d a).kept),.v (.bool (aP d a).loose),.v (.bool (aP d a).anew),.v (.int .i64 (aP d a).stamp)])]⟩) (fun _=>True) [0,1,2,8,9] [0,1,64] ?_ ?_
 ·by_cases hv:vol a=vol b
  ·rw [if_pos hv] at hm1;subst hm1;refine bE rfl (fun _=>?_) (fun h=>by simp [hv] at h)
   refine zJ (fun K hK=>?_);simp (disch:=omega) only [push_cast,↓iC9,simprocAttr];refine hK _ ?_;clear hK K
   exact ⟨(),by simp only [zZ,zR,zP,zQ,zN,zS,zM,zX,zU,Nat.reduceEqDiff,reduceIte];try rfl,trivial⟩
  ·rw [if_neg hv] at hm1;subst hm1;refine bE rfl (fun h=>by simp [hv] at h) (fun _=>?_)
   refine zC ?_;exact ⟨(),by simp only [zZ,zR,zP,zQ,zN,zS,zM,zX,zU,Nat.reduceEqDiff,reduceIte];try rfl,trivial⟩
 intro S' _ hE _;refine zE ?_;refine zE ?_;refine yB [0,1,2,8,9] [0,1,64] hE ?_;clear hE;refine zJ (fun K hK=>?_);simp (disch:=omega) only [push_cast,↓iC9,simprocAttr]
 refine cK vM kb (.cons (fG rfl rfl) (.cons (.v _) .nil)) ?_;with_reducible refine aM ?_;simp (disch:=omega) only [push_cast,↓iC9,simprocAttr]
 refine hK _ ?_;clear hK K;refine zA ?_;refine kK (fun _:Unit=>⟨[(0,.ptr 0 6 0 0),(1,.v (.string a)),(2,.v (.string b)),(8,.ptr 64 7 0 0),(9,.v (.int .i64 (iY d a b)))],[(0,.bx false 68 [.lst fr (fT d.L),.own 1,.v (.int .i64 d.steps),.v (.int .i64 d.stamps),.v (.int .i64 d.armed),.v (.bool d.down)]),(1,.sl nw 126 2 (rms R)),(64,.bx true 76 [.v (.string a),.v (.bool (aP d a).dir),.v (.string (aP d a).data),.v (.string (aP d a).kept),.v (.bool (aP d a).loose),.v (.bool (aP d a).anew),.v (.int .i64 (aP d a).stamp)])]⟩) (fun _=>True) [0,1,2,8,9] [0,1,64] ?_ ?_
 ·cases hpb:plc b d.L with
 |none =>
   have hk0:¬ fD d b=2:=by rw [qDn hpb];decide
   have h00:(aP d b).data.size=0:=by rw [qQ5 hpb];rfl
   refine bE rfl (fun h=>by simp [hk0] at h) (fun _=>?_)
   refine zC ?_;exact ⟨(),by simp only [zZ,zR,zP,zQ,zN,zS,zM,zX,zU,Nat.reduceEqDiff,reduceIte];rw [← hm2,h00];simp,trivial⟩
 |some j =>
   obtain ⟨hj,f1,f3,f4,f5⟩:=uJ hpb
   have hk2:fD d b=2:=by rw [f5,← f3,hdb];rfl
   rw [lB hpb] at pb
   have hjs:(d.L[j].2.data.size:Int)≤1073741824:=by rw [← f3];omega
   refine bE rfl (fun _=>?_) (fun h=>by simp [hk2] at h)
   refine kL 13 mixed (by kernel_rfl) (fun K hK=>?_);simp (disch:=omega) only [push_cast,↓iC9,simprocAttr,bG,bU,bY hj]
   refine lS qYo pb (.cons (fG rfl rfl) (.cons (.v _) .nil)) ?_;with_reducible refine aM ?_;simp (disch:=omega) only [push_cast,↓iC9,simprocAttr,bG,bU,bY hj]
   with_reducible refine aM ?_;simp (disch:=omega) only [push_cast,↓iC9,simprocAttr]
   refine hK _ ?_;clear hK K;exact ⟨(),by simp only [zZ,zR,zP,zQ,zN,zS,zM,zX,zU,Nat.reduceEqDiff,reduceIte];rw [← hm2,f3],trivial⟩
 intro S' _ hE _;refine zE ?_;refine zE ?_;refine yB [0,1,2,8,9] [0,1,64] hE ?_;clear hE
 skip
 generalize hmm:iY d a b=mm at *
 refine kK (fun _:Unit=>⟨[(0,.ptr 0 6 0 0),(1,.v (.string a)),(2,.v (.string b)),(8,.ptr 64 7 0 0),(85,.v (.bool (decide (a≠b) && !jY d b mm)))],[(0,.bx false 68 [.lst fr (fT d.L),.own 1,.v (.int .i64 d.steps),.v (.int .i64 d.stamps),.v (.int .i64 d.armed),.v (.bool d.down)]),(1,.sl nw 126 2 (rms R)),(64,.bx true 76 [.v (.string a),.v (.bool (aP d a).dir),.v (.string (aP d a).data),.v (.string (aP d a).kept),.v (.bool (aP d a).loose),.v (.bool (aP d a).anew),.v (.int .i64 (aP d a).stamp)])]⟩) (fun _=>True) [0,1,2,8,85] [0,1,64] ?_ ?_
 ·by_cases hab:a=b
  ·have hd:decide (a=b)=true:=decide_eq_true hab
   have hd2:decide (a≠b)=false:=by simp [hab]
   rw [hd2];refine zJ (fun K hK=>?_);simp (disch:=omega) only [push_cast,↓iC9,simprocAttr,hd];refine hK _ ?_;clear hK K
   exact ⟨(),by simp only [zZ,zR,zP,zQ,zN,zS,zM,zX,zU,Nat.reduceEqDiff,reduceIte];try rfl,trivial⟩
  ·have hd:decide (a=b)=false:=decide_eq_false hab
   have hd2:decide (a≠b)=true:=by simp [hab]
   rw [hd2];refine zJ (fun K hK=>?_);simp (disch:=omega) only [push_cast,↓iC9,simprocAttr,hd]
   refine cK zQy cf (.cons (fG rfl rfl) (.cons (.v _) (.cons (.v _) .nil))) ?_;with_reducible refine aM ?_;simp (disch:=omega) only [push_cast,↓iC9,simprocAttr]
   refine hK _ ?_;clear hK K;exact ⟨(),by simp only [zZ,zR,zP,zQ,zN,zS,zM,zX,zU,Nat.reduceEqDiff,reduceIte];try rfl,trivial⟩
 intro S' _ hE _;refine zA ?_;refine yB [0,1,2,8,85] [0,1,64] hE ?_;clear hE
 by_cases h3:a≠b∧jY d b mm=false
 ·rw [if_pos h3] at hre
  have hx:(decide (a≠b) && !jY d b mm)=true:=by simp [h3.1,h3.2]
  rw [hre,hx];refine yD rfl ?_;refine zE ?_;refine zJ (fun K hK=>?_);simp (disch:=omega) only [push_cast,↓iC9,simprocAttr];refine hK _ ?_;clear hK K
  refine zA ?_;refine zW ?_;refine zK ?_;simp only [aR,aZ,yH,yE,yK,yJ,aH,zS,zM,Nat.reduceEqDiff,reduceIte,reduceCtorEq];refine cZ [0,1] (by decide) (by decide) (by simp only [push_cast,simprocAttr]) (by simp only [push_cast,simprocAttr]) (by simp only [push_cast,simprocAttr];rfl) (by simp only [push_cast,simprocAttr];rfl) ?_
  exact ⟨rfl,fr,rfl⟩
 rw [if_neg h3] at hre
 have hx:(decide (a≠b) && !jY d b mm)=false:=by
  cases hrm:jY d b mm with
 |true=>simp
 |false =>
   have:¬ a≠b:=fun h=>h3 ⟨h,hrm⟩
   simp [this]
 rw [hx];refine yC rfl ?_;refine yB [0,1,2,8] [0,1,64] (by simp only [zZ,zR,zP,zQ,zN,zS,zM,zX,zU,Nat.reduceEqDiff,reduceIte];exact rfl) ?_
 refine zC ?_;refine zE ?_;refine zJ (fun K hK=>?_);simp (disch:=omega) only [push_cast,↓iC9,simprocAttr]
 refine gW 696 [0,1] zLz (c4) rfl (by decide) (by decide) (by simp only [push_cast,simprocAttr];try rfl) (by simp only [push_cast,simprocAttr];try rfl) ?_
 rintro _ _ ⟨rfl,rfl⟩;refine aM ?_;simp (disch:=omega) only [push_cast,↓iC9,simprocAttr];refine hK _ ?_;clear hK K;refine zE ?_;refine zE ?_;refine zJ (fun K hK=>?_);simp (disch:=omega) only [push_cast,↓iC9,simprocAttr];refine hK _ ?_;clear hK K
 refine zA ?_
 rcases (iU d).symm with ⟨h4,h5⟩|⟨h4,h5⟩
 ·rw [if_pos (by rw [h4];decide)] at hre
  rw [hre,h4];refine yC rfl ?_;refine zC ?_;refine zE ?_;refine zJ (fun K hK=>?_);simp (disch:=omega) only [push_cast,↓iC9,simprocAttr];refine hK _ ?_;clear hK K
  refine zA ?_;refine zW ?_;simp only [aR,aZ,yH,yE,yK,yJ,aH,zS,zM,Nat.reduceEqDiff,reduceIte,reduceCtorEq];refine cZ [0,1] (by decide) (by decide) (by simp only [push_cast,simprocAttr]) (by simp only [push_cast,simprocAttr]) (by simp only [push_cast,simprocAttr];rfl) (by simp only [push_cast,simprocAttr];rfl) ?_
  exact ⟨rfl,fr,rfl⟩
 rw [if_neg (by rw [h4];simp)] at hre
 have hL:=(dL d).1
 have hSt:=(dL d).2.2.2.2
 rw [hre,h4]
 have cd:=zA9 (aW d).2 R fr nw a (by rw [hL];exact ok.l4)
 have c6:=pF { (aW d).2 with L:=del a d.L } R true nw b (aP d a) (by show 0≤(aW d).2.stamps∧_;rw [hSt];exact ok.stamps)
 have c5:=qE2 { (aW d).2 with L:=del a d.L,stamps:=(aW d).2.stamps + 1 } R true nw b { aP d a with stamp:=(aW d).2.stamps + 1 } (qCw a ok.rise) (Nat.le_trans (qH5 a d.L) ok.l4)
 simp only [rst,iX] at cd c6 c5;rw [hL] at cd;rw [hL];refine yD rfl ?_;refine yB [0,1,2,7,8] [0,1,64] (by simp only [zZ,zR,zP,zQ,zN,zS,zM,zX,zU,Nat.reduceEqDiff,reduceIte];exact rfl) ?_
 refine zE ?_;refine zJ (fun K hK=>?_);simp (disch:=omega) only [push_cast,↓iC9,simprocAttr]
 refine gW 736 [0,1] zS5 (cd) rfl (by decide) (by decide) (by simp only [push_cast,simprocAttr];try rfl) (by simp only [push_cast,simprocAttr];try rfl) ?_
 rintro _ _ ⟨rfl,rfl⟩;refine aM ?_;simp (disch:=omega) only [push_cast,↓iC9,simprocAttr];refine hK _ ?_;clear hK K;refine yB [0,2,7,8] [0,1,64] (by simp only [zZ,zR,zP,zQ,zN,zS,zM,zX,zU,Nat.reduceEqDiff,reduceIte];exact rfl) ?_
 refine zE ?_;refine zJ (fun K hK=>?_);simp (disch:=omega) only [push_cast,↓iC9,simprocAttr];refine hK _ ?_;clear hK K
 refine yB [0,7,8] [0,1,64] (by simp only [zZ,zR,zP,zQ,zN,zS,zM,zX,zU,Nat.reduceEqDiff,reduceIte];exact rfl) ?_
 refine zJ (fun K hK=>?_);simp (disch:=omega) only [push_cast,↓iC9,simprocAttr]
 refine gW 784 [0,1] zLy (c6) rfl (by decide) (by decide) (by simp only [push_cast,simprocAttr];try rfl) (by simp only [push_cast,simprocAttr];try rfl) ?_
 rintro _ _ ⟨rfl,rfl⟩;refine aM ?_;simp (disch:=omega) only [push_cast,↓iC9,simprocAttr];refine gW 792 [0,1] zFr (c5) rfl (by decide) (by decide) (by simp only [push_cast,simprocAttr];try rfl) (by simp only [push_cast,simprocAttr];try rfl) ?_
 rintro _ _ ⟨rfl,rfl⟩;refine aM ?_;simp (disch:=omega) only [push_cast,↓iC9,simprocAttr];refine hK _ ?_;clear hK K;refine zE ?_;refine zJ (fun K hK=>?_);simp (disch:=omega) only [push_cast,↓iC9,simprocAttr];refine hK _ ?_;clear hK K
 refine zA ?_;refine zW ?_;simp only [aR,aZ,yH,yE,yK,yJ,aH,zS,zM,Nat.reduceEqDiff,reduceIte,reduceCtorEq];refine cZ [0,1] (by decide) (by decide) (by simp only [push_cast,simprocAttr]) (by simp only [push_cast,simprocAttr]) (by simp only [push_cast,simprocAttr];rfl) (by simp only [push_cast,simprocAttr];rfl) ?_
 exact ⟨rfl,true,rfl⟩
end Go.Proofs.YtlihpgmgiehjkaaGreatDoor
