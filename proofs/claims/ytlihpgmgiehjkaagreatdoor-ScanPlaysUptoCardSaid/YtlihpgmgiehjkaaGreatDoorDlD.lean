/-
  The disk's calls: Stamp.
-/
import Derived.Test.YtlihpgmgiehjkaaGreatDoorDkG
import Derived.Test.YtlihpgmgiehjkaaGreatDoorDkF
import Derived.Test.YtlihpgmgiehjkaaGreatDoorDlC
set_option linter.unusedSimpArgs false
set_option linter.unusedVariables false
section
set_option maxRecDepth 20000
namespace Go.Proofs.YtlihpgmgiehjkaaGreatDoor
open Go Go.Eng Go.RowKit Go.Tr Go.Dk
theorem zA8 {d:Dk} {a b:ByteArray} {e:Int} (he:(if may d a 1=0 then may d b 1 else may d a 1)=e) (h:e≠0):eC d a b=(e,d):=by
 simp only [eC,he];rw [if_pos h]
def iY (d:Dk) (a b:ByteArray):Int:=if vol a=vol b then -((aP d b).data.size:Int) else (aP d a).data.size - (aP d b).data.size
theorem zQb {d : Dk} {a b : ByteArray} (h1 : may d a 1 = 0) (h2 : may d b 1 = 0) : eC d a b = if has d a = false ∨ fF d b = false then (11, d) else if (aP d a).dir = true ∨ (aP d b).dir = true then (12, d) else if a ≠ b ∧ jY d b (iY d a b) = false then (13, d) else
   if (aW d).1≠0 then aW d else (0,jJ { (aW d).2 with L:=del a d.L } b (aP d a)):=by
 simp only [eC,h1,h2,if_true,ne_eq,not_true,if_false,iY]
theorem qU1 (L:List (ByteArray × Itm)) (p:ByteArray):(tab Itm.val L).del p.data.toList=tab Itm.val (del p L):=zAw Itm.val L p
set_option maxHeartbeats 4000000 in
theorem zG9 (d:Dk) (B:Int) (hd:d.Ok B) (hB:B≤1099511627776) (p q:ByteArray) (r1 r2:Nat) (hs:p.size≤1048576) (hs2:q.size≤1048576):HFunM Tryz.prog 33 [.ptr 0 6 0 0,.v (.string p),.v (.string q)] [(0,.bx false 64 (d.cells r1 r2))] (d.maps kS r1 r2) (fun h st g=>h=.v (.int .i64 (eC d p q).1)∧st=[(0,.bx false 64 ((eC d p q).2.cells r1 r2))]∧g=(eC d p q).2.maps kS r1 r2):=by
 refine kC (N:=96) Tryz.func33 rfl Tryz.ntmps33 Tryz.results33 (by simp) ?_
 have hm:=qQz d p 1 r1 r2 hs
 have hm2:=qQz d q 1 r1 r2 hs2
 have hu:=qNv d q r1 r2 hs2
 have hto:=hd.size
 have hnn:=qBp d.L
 have hit:=lF d p
 have hit2:=lF d q
 have ht:=qJo d r1 r2 ⟨hd.steps.1,by have:=hd.steps.2;omega⟩ hd.armed
 have hmo:-1099511627776≤iY d p q∧iY d p q≤1099511627776:=by unfold iY;split <;> omega
 have hrm:=qZj d B hd hB q (iY d p q) r1 r2 hs2 hmo
 have hn:d.n < maxLen:=by have:=hd.n;simp only [maxLen];omega
 have hst:=hd.stamps
 obtain ⟨a1,a2,a3,a4,a5⟩:=dL d
 have hse:=qVh { (aW d).2 with L:=del p d.L } q (aP d p) r1 r2 hs2 (by show (aW d).2.n < _;rw [a3];exact hn) (by show 0≤(aW d).2.stamps∧(aW d).2.stamps < _;rw [a5];omega)
 have hv:=zAp p hs
 have hv2:=zAp q hs2
 simp only [bM] at hm hm2 hu ht hrm hse ⊢;rw [cS] at hu hrm hse ⊢;refine aA ?_;refine aC (fun K hK=>?_);simp (disch:=omega) only [push_cast,↓iC9,simprocAttr];refine hK _ ?_;clear hK K
 refine aA ?_;refine aC (fun K hK=>?_);simp (disch:=omega) only [push_cast,↓iC9,simprocAttr]
 refine gW 120 [0] zFu (hm) rfl (by decide) (by decide) (by simp only [push_cast,simprocAttr];try rfl) (by simp only [push_cast,simprocAttr];try rfl) ?_
 rintro _ _ ⟨rfl,rfl⟩;refine aM ?_;simp (disch:=omega) only [push_cast,↓iC9,simprocAttr];refine hK _ ?_;clear hK K;refine aA ?_;refine aA ?_;refine aC (fun K hK=>?_);simp (disch:=omega) only [push_cast,↓iC9,simprocAttr];refine hK _ ?_;clear hK K
 refine aX [0,1,2,7,17] [0] (by simp only [zZ,zR,zP,zQ,zN,zS,zM,zX,zU,Nat.reduceEqDiff,reduceIte];exact rfl) ?_
 rcases (Decidable.em (may d p 1=0)).symm with h0|h0
 ·have hr:=zA8 (d:=d) (a:=p) (b:=q) (e:=may d p 1) (by rw [if_neg h0]) h0
  rw [hr]
  skip
  refine bC rfl (fun h=>by simp [h0] at h) (fun _=>?_)
  refine aT ?_;refine aA ?_;refine aA ?_;refine aC (fun K hK=>?_);simp (disch:=omega) only [push_cast,↓iC9,simprocAttr];refine hK _ ?_;clear hK K
  refine aB ?_;refine bC rfl (fun _=>?_) (fun h=>by simp [h0] at h)
  refine aA ?_;refine aC (fun K hK=>?_);simp (disch:=omega) only [push_cast,↓iC9,simprocAttr];refine hK _ ?_;clear hK K
  refine aB ?_;refine bB ?_;refine bR ?_;simp only [aF,aN,yH,yE,yK,yJ,aH,zS,zM,Nat.reduceEqDiff,reduceIte,reduceCtorEq];refine bV [0] [] (by first|rfl|simp [bsL,MO.bs]) (by decide) (by decide) (by simp only [push_cast,simprocAttr]) (by simp only [push_cast,simprocAttr]) (by simp only [push_cast,simprocAttr];rfl) (by simp only [push_cast,simprocAttr];rfl) ?_
  exact ⟨rfl,rfl,rfl⟩
 skip
 refine bC rfl (fun _=>?_) (fun h=>by simp [h0] at h)
 refine aC (fun K hK=>?_);simp (disch:=omega) only [push_cast,↓iC9,simprocAttr]
 refine gW 160 [0] zFu (hm2) rfl (by decide) (by decide) (by simp only [push_cast,simprocAttr];try rfl) (by simp only [push_cast,simprocAttr];try rfl) ?_
 rintro _ _ ⟨rfl,rfl⟩;refine aM ?_;simp (disch:=omega) only [push_cast,↓iC9,simprocAttr];refine hK _ ?_;clear hK K;refine aA ?_;refine aA ?_;refine aC (fun K hK=>?_);simp (disch:=omega) only [push_cast,↓iC9,simprocAttr];refine hK _ ?_;clear hK K
 refine aX [0,1,2,7,22] [0] (by simp only [zZ,zR,zP,zQ,zN,zS,zM,zX,zU,Nat.reduceEqDiff,reduceIte];exact rfl) ?_
 rcases (Decidable.em (may d q 1=0)).symm with h1|h1
 ·have hr:=zA8 (d:=d) (a:=p) (b:=q) (e:=may d q 1) (by rw [if_pos h0]) h1
  rw [hr]
  skip
  refine bC rfl (fun _=>?_) (fun h=>by simp [h1] at h)
  refine aA ?_;refine aC (fun K hK=>?_);simp (disch:=omega) only [push_cast,↓iC9,simprocAttr];refine hK _ ?_;clear hK K
  refine aB ?_;refine bB ?_;refine bR ?_;simp only [aF,aN,yH,yE,yK,yJ,aH,zS,zM,Nat.reduceEqDiff,reduceIte,reduceCtorEq];refine bV [0] [] (by first|rfl|simp [bsL,MO.bs]) (by decide) (by decide) (by simp only [push_cast,simprocAttr]) (by simp only [push_cast,simprocAttr]) (by simp only [push_cast,simprocAttr];rfl) (by simp only [push_cast,simprocAttr];rfl) ?_
  exact ⟨rfl,rfl,rfl⟩
 have hr0:=zQb h0 h1
 skip
 refine bC rfl (fun h=>by simp [h1] at h) (fun _=>?_)
 refine aT ?_;refine aA ?_;refine bD ?_;refine aG 5 (fun K1 hK1=>?_);simp (disch:=omega) only [push_cast,↓iC9,simprocAttr];refine hK1 _ ?_;(try clear hK1 K1)
 refine fH (i:=0) mtI rfl rfl rfl rfl rfl rfl (mx hs) ?_;refine aG 6 (fun K1 hK1=>?_);simp (disch:=omega) only [push_cast,↓iC9,simprocAttr,aE,aD,gS,nR,gT];refine hK1 _ ?_;(try clear hK1 K1)
 refine aV ?_
 have hxd:(aS d.L p).getD itm0=aP d p:=rfl
 have hxs:(aS d.L p).isSome=has d p:=rfl
 rw [hxd,hxs];refine aX [0,1,2,8,9] [0,64] (by simp only [zZ,zR,zP,zQ,zN,zS,zM,zX,zU,Nat.reduceEqDiff,reduceIte];exact rfl) ?_
 refine aA ?_;refine bD ?_;refine aG 5 (fun K1 hK1=>?_);simp (disch:=omega) only [push_cast,↓iC9,simprocAttr];refine hK1 _ ?_;(try clear hK1 K1)
 refine fH (i:=0) mtI rfl rfl rfl rfl rfl rfl (mx hs2) ?_;refine aG 2 (fun K1 hK1=>?_);simp (disch:=omega) only [push_cast,↓iC9,simprocAttr,aE,aD,gS,gT];refine hK1 _ ?_;(try clear hK1 K1)
 refine aV ?_
 have hxd2:(aS d.L q).getD itm0=aP d q:=rfl
 rw [hxd2];refine aX [0,1,2,8,9,10] [0,64,80] (by simp only [zZ,zR,zP,zQ,zN,zS,zM,zX,zU,Nat.reduceEqDiff,reduceIte];exact rfl) ?_
 refine aA ?_;refine aC (fun K hK=>?_);simp (disch:=omega) only [push_cast,↓iC9,simprocAttr];refine hK _ ?_;clear hK K
 refine aA ?_;refine aA ?_;refine aC (fun K hK=>?_);simp (disch:=omega) only [push_cast,↓iC9,simprocAttr]
 refine cK zL1 hv (.cons (.v _) .nil) ?_;with_reducible refine aM ?_;simp (disch:=omega) only [push_cast,↓iC9,simprocAttr]
 refine cK zL1 hv2 (.cons (.v _) .nil) ?_;with_reducible refine aM ?_;simp (disch:=omega) only [push_cast,↓iC9,simprocAttr]
 refine hK _ ?_;clear hK K;refine aX [0,1,2,8,9,10,11,50] [0,64,80] (by simp only [zZ,zR,zP,zQ,zN,zS,zM,zX,zU,Nat.reduceEqDiff,reduceIte];exact rfl) ?_
 refine qN8 (ι:=Unit) (fun _=>⟨[(0,.ptr 0 6 0 0),(1,.v (.string p)),(2,.v (.string q)),(8,.ptr 64 6 0 0),(9,.v (.bool (has d p))),(10,.ptr 80 6 0 0),(11,.v (.int .i64 (iY d p q)))],[(0,.bx false 64 [.v (.map (some r1)),.v (.map (some r2)),.v (.int .i64 d.steps),.v (.int .i64 d.stamps),.v (.int .i64 d.armed),.v (.bool d.down)]),
   (64,.bx true 97 [.v (.bool (aP d p).dir),.v (.string (aP d p).data),.v (.string (aP d p).kept),.v (.bool (aP d p).loose),.v (.bool (aP d p).anew),.v (.int .i64 (aP d p).stamp)]),
   (80,.bx true 97 [.v (.bool (aP d q).dir),.v (.string (aP d q).data),.v (.string (aP d q).kept),.v (.bool (aP d q).loose),.v (.bool (aP d q).anew),.v (.int .i64 (aP d q).stamp)])]⟩) (fun _=>[.map r1 kS d.n (tab Itm.val d.L),.map r2 kS d.m (tab jL d.R)]) (fun _=>True) [0,1,2,8,9,10,11] [0,64,80] ?_ ?_
 ·rcases (Decidable.em (vol p=vol q)) with h2|h2
  ·have e:iY d p q=0 - ((aP d q).data.size:Int):=by rw [iY,if_pos h2];omega
   rw [e];refine bC rfl (fun _=>?_) (fun h=>by simp [h2] at h)
   refine aC (fun K hK=>?_);simp (disch:=omega) only [push_cast,↓iC9,simprocAttr];refine hK _ ?_;clear hK K
   refine aB ?_;exact ⟨(),rfl,rfl,trivial⟩
  ·have e:iY d p q=(aP d p).data.size - (aP d q).data.size:=by rw [iY,if_neg h2]
   rw [e];refine bC rfl (fun h=>by simp [h2] at h) (fun _=>?_)
   refine aT ?_;refine aB ?_;exact ⟨(),rfl,rfl,trivial⟩
 rintro - -
 -- is it qJi,has it a home
 rcases (Decidable.em (has d p=true∧fF d q=true)).symm with h3|h3
 ·have hr:eC d p q=(11,d):=by
   rw [hr0,if_pos]
   cases e1:has d p
   ·exact .inl rfl
   ·cases e2:fF d q
    ·exact .inr rfl
    ·exact absurd ⟨e1,e2⟩ h3
  rw [hr]
  cases e1:has d p with
 |false =>
   refine aA ?_;refine bL ?_;refine aA ?_;refine aC (fun K hK=>?_);simp (disch:=omega) only [push_cast,↓iC9,simprocAttr];refine hK _ ?_;clear hK K
   refine aB ?_;refine bW rfl ?_;refine aA ?_;refine aC (fun K hK=>?_);simp (disch:=omega) only [push_cast,↓iC9,simprocAttr];refine hK _ ?_;clear hK K
   refine aB ?_;refine bB ?_;refine dK ?_;refine bR ?_;simp only [aF,aN,yH,yE,yK,yJ,aH,zS,zM,Nat.reduceEqDiff,reduceIte,reduceCtorEq];refine bV [0] [] (by first|rfl|simp [bsL,MO.bs]) (by decide) (by decide) (by simp only [push_cast,simprocAttr]) (by simp only [push_cast,simprocAttr]) (by simp only [push_cast,simprocAttr];rfl) (by simp only [push_cast,simprocAttr];rfl) ?_
   exact ⟨rfl,rfl,rfl⟩
 |true =>
   have e2:fF d q=false:=by
    cases e2:fF d q
    ·rfl
    ·exact absurd ⟨e1,e2⟩ h3
   rw [e2] at hu;refine aA ?_;refine bL ?_;refine aA ?_;refine bD ?_;refine aG 5 (fun K1 hK1=>?_);simp (disch:=omega) only [push_cast,↓iC9,simprocAttr];refine hK1 _ ?_;(try clear hK1 K1)
   refine bT 488 [0] zL0 (hu) rfl rfl rfl rfl (by simp only [push_cast,simprocAttr];exact rfl) (by decide) (by decide) (by decide) (by simp only [push_cast,simprocAttr];try rfl) (by simp only [push_cast,simprocAttr];try rfl) ?_
   rintro _ _ _ ⟨rfl,rfl,rfl⟩;refine aG 3 (fun K1 hK1=>?_);simp (disch:=omega) only [push_cast,↓iC9,simprocAttr,aE,aD];refine hK1 _ ?_;(try clear hK1 K1)
   refine aV ?_;refine aB ?_;refine bW rfl ?_;refine aA ?_;refine aC (fun K hK=>?_);simp (disch:=omega) only [push_cast,↓iC9,simprocAttr];refine hK _ ?_;clear hK K
   refine aB ?_;refine bB ?_;refine dK ?_;refine bR ?_;simp only [aF,aN,yH,yE,yK,yJ,aH,zS,zM,Nat.reduceEqDiff,reduceIte,reduceCtorEq];refine bV [0] [] (by first|rfl|simp [bsL,MO.bs]) (by decide) (by decide) (by simp only [push_cast,simprocAttr]) (by simp only [push_cast,simprocAttr]) (by simp only [push_cast,simprocAttr];rfl) (by simp only [push_cast,simprocAttr];rfl) ?_
   exact ⟨rfl,rfl,rfl⟩
 obtain ⟨e1,e2⟩:=h3;rw [e2] at hu;rw [e1];refine aA ?_;refine bL ?_;refine aA ?_;refine bD ?_;refine aG 5 (fun K1 hK1=>?_);simp (disch:=omega) only [push_cast,↓iC9,simprocAttr];refine hK1 _ ?_;(try clear hK1 K1)
 refine bT 488 [0] zL0 (hu) rfl rfl rfl rfl (by simp only [push_cast,simprocAttr];exact rfl) (by decide) (by decide) (by decide) (by simp only [push_cast,simprocAttr];try rfl) (by simp only [push_cast,simprocAttr];try rfl) ?_
 rintro _ _ _ ⟨rfl,rfl,rfl⟩;refine aG 3 (fun K1 hK1=>?_);simp (disch:=omega) only [push_cast,↓iC9,simprocAttr,aE,aD];refine hK1 _ ?_;(try clear hK1 K1)
 refine aV ?_;refine aX [0,1,2,8,10,11,55] [0,64,80] (by simp only [zZ,zR,zP,zQ,zN,zS,zM,zX,zU,Nat.reduceEqDiff,reduceIte];exact rfl) ?_
 skip
 refine bA rfl ?_
 -- folders
 rcases (Decidable.em ((aP d p).dir=true∨(aP d q).dir=true)) with h4|h4
 ·have hr:eC d p q=(12,d):=by
   rw [hr0,if_neg (by simp [e1,e2]),if_pos h4]
  rw [hr];obtain ⟨b1,hb1⟩:∃ b,(aP d p).dir=b:=⟨_,rfl⟩;obtain ⟨b2,hb2⟩:∃ b,(aP d q).dir=b:=⟨_,rfl⟩;rw [hb1,hb2] at h4 ⊢
  cases b1 <;> cases b2 <;> first|(simp at h4;done)|skip
  all_goals
   (repeat first|refine aA ?_|refine aB ?_|refine aT ?_|refine bS ?_|refine bL ?_);refine aC (fun K hK=>?_);simp (disch:=omega) only [push_cast,↓iC9,simprocAttr];refine hK _ ?_;clear hK K
   (repeat first|refine aA ?_|refine aB ?_|refine aT ?_|refine bS ?_|refine bL ?_)
   refine bW rfl ?_
   (repeat first|refine aA ?_|refine aB ?_|refine aT ?_|refine bS ?_|refine bL ?_);refine aC (fun K hK=>?_);simp (disch:=omega) only [push_cast,↓iC9,simprocAttr];refine hK _ ?_;clear hK K
   (repeat first|refine bR ?_|refine cW ?_|refine fN ?_|refine qFe rfl ?_|refine dK ?_|refine bS ?_|refine aA ?_|refine aB ?_|refine aT ?_|refine fR ?_|refine bB ?_)
   simp only [aF,aN,yH,yE,yK,yJ,aH,zS,zM,Nat.reduceEqDiff,reduceIte,reduceCtorEq];refine bV [0] [] (by first|rfl|simp [bsL,MO.bs]) (by decide) (by decide) (by simp only [push_cast,simprocAttr]) (by simp only [push_cast,simprocAttr]) (by simp only [push_cast,simprocAttr];rfl) (by simp only [push_cast,simprocAttr];rfl) ?_
   exact ⟨rfl,rfl,rfl⟩
 have h5:(aP d p).dir=false∧(aP d q).dir=false:=by
  cases hb1:(aP d p).dir <;> cases hb2:(aP d q).dir <;> simp_all
 obtain ⟨f1,f2⟩:=h5;rw [f1,f2];refine aA ?_;refine aC (fun K hK=>?_);simp (disch:=omega) only [push_cast,↓iC9,simprocAttr];refine hK _ ?_;clear hK K
 refine aX [0,1,2,8,10,11,64] [0,64,80] (by simp only [zZ,zR,zP,zQ,zN,zS,zM,zX,zU,Nat.reduceEqDiff,reduceIte];exact rfl) ?_
 skip
 refine bA rfl ?_
 -- jY
 rcases (Decidable.em (p≠q∧jY d q (iY d p q)=false)) with h6|h6
 ·have hr:eC d p q=(13,d):=by
   rw [hr0,if_neg (by simp [e1,e2]),if_neg h4,if_pos h6]
  rw [hr]
  have hne:decide (p=q)=false:=decide_eq_false h6.1
  rw [h6.2] at hrm;refine aA ?_;refine bD ?_;refine aG 7 (fun K1 hK1=>?_);simp (disch:=omega) only [push_cast,↓iC9,simprocAttr,hne];refine hK1 _ ?_;(try clear hK1 K1)
  refine bT 632 [0] zNw (hrm) rfl rfl rfl rfl (by simp only [push_cast,simprocAttr];exact rfl) (by decide) (by decide) (by decide) (by simp only [push_cast,simprocAttr];try rfl) (by simp only [push_cast,simprocAttr];try rfl) ?_
  rintro _ _ _ ⟨rfl,rfl,rfl⟩;refine aG 3 (fun K1 hK1=>?_);simp (disch:=omega) only [push_cast,↓iC9,simprocAttr,aE,aD];refine hK1 _ ?_;(try clear hK1 K1)
  refine aV ?_;refine aB ?_;refine bW rfl ?_;refine aA ?_;refine aC (fun K hK=>?_);simp (disch:=omega) only [push_cast,↓iC9,simprocAttr];refine hK _ ?_;clear hK K
  refine aB ?_;refine bB ?_;refine dK ?_;refine bR ?_;simp only [aF,aN,yH,yE,yK,yJ,aH,zS,zM,Nat.reduceEqDiff,reduceIte,reduceCtorEq];refine bV [0] [] (by first|rfl|simp [bsL,MO.bs]) (by decide) (by decide) (by simp only [push_cast,simprocAttr]) (by simp only [push_cast,simprocAttr]) (by simp only [push_cast,simprocAttr];rfl) (by simp only [push_cast,simprocAttr];rfl) ?_
  exact ⟨rfl,rfl,rfl⟩
 have hr1:eC d p q=if (aW d).1≠0 then aW d else (0,jJ { (aW d).2 with L:=del p d.L } q (aP d p)):=by
  rw [hr0,if_neg (by simp [e1,e2]),if_neg h4,if_neg h6]
 rcases (Decidable.em (p=q)) with h7|h7
 ·have he:decide (p=q)=true:=decide_eq_true h7
  refine aA ?_;refine aC (fun K hK=>?_);simp (disch:=omega) only [push_cast,↓iC9,simprocAttr,he];refine hK _ ?_;clear hK K
  refine aX [0,1,2,8,71] [0,64] (by simp only [zZ,zR,zP,zQ,zN,zS,zM,zX,zU,Nat.reduceEqDiff,reduceIte];exact rfl) ?_
  skip
  refine bA rfl ?_;refine aT ?_;refine aA ?_;refine aA ?_;refine aC (fun K hK=>?_);simp (disch:=omega) only [push_cast,↓iC9,simprocAttr]
  refine gW 664 [0] zFt (ht) rfl (by decide) (by decide) (by simp only [push_cast,simprocAttr];try rfl) (by simp only [push_cast,simprocAttr];try rfl) ?_
  rintro _ _ ⟨rfl,rfl⟩;refine aM ?_;simp (disch:=omega) only [push_cast,↓iC9,simprocAttr];refine hK _ ?_;clear hK K;refine aA ?_;refine aC (fun K hK=>?_);simp (disch:=omega) only [push_cast,↓iC9,simprocAttr];refine hK _ ?_;clear hK K
  refine aX [0,1,2,8,12,85] [0,64] (by simp only [zZ,zR,zP,zQ,zN,zS,zM,zX,zU,Nat.reduceEqDiff,reduceIte];exact rfl) ?_
  rcases (iU d).symm with ⟨h8,h9⟩|⟨h8,h9⟩
  ·have hr:eC d p q=aW d:=by rw [hr1,if_pos (by simp [h8])]
   rw [hr];refine bC rfl (fun _=>?_) (fun h=>by simp [h8] at h)
   refine aA ?_;refine aC (fun K hK=>?_);simp (disch:=omega) only [push_cast,↓iC9,simprocAttr];refine hK _ ?_;clear hK K
   refine aB ?_;refine bB ?_;refine bR ?_;simp only [aF,aN,yH,yE,yK,yJ,aH,zS,zM,Nat.reduceEqDiff,reduceIte,reduceCtorEq];refine bV [0] [] (by first|rfl|simp [bsL,MO.bs]) (by decide) (by decide) (by simp only [push_cast,simprocAttr]) (by simp only [push_cast,simprocAttr]) (by simp only [push_cast,simprocAttr];rfl) (by simp only [push_cast,simprocAttr];rfl) ?_
   exact ⟨rfl,rfl,by rw [lE];rfl⟩
  have hr:eC d p q=(0,jJ { (aW d).2 with L:=del p d.L } q (aP d p)):=by rw [hr1,if_neg (by simp [h8])]
  rw [hr];refine bC rfl (fun h=>by simp [h8] at h) (fun _=>?_)
  refine aT ?_;refine aA ?_;refine bD ?_;refine aG 5 (fun K1 hK1=>?_);simp (disch:=omega) only [push_cast,↓iC9,simprocAttr];refine hK1 _ ?_;(try clear hK1 K1)
  refine qUs (i:=0) mtI rfl rfl rfl rfl rfl rfl (mx hs) ?_;refine aG 0 (fun K1 hK1=>?_);simp (disch:=omega) only [push_cast,↓iC9,simprocAttr,aE,aD];refine hK1 _ ?_;(try clear hK1 K1)
  refine aV ?_;rw [cS] at hse;simp only [a2,a3,a4,← qU1,gT,f1] at hse;refine aA ?_;refine bD ?_;refine aG 3 (fun K1 hK1=>?_);simp (disch:=omega) only [push_cast,↓iC9,simprocAttr];refine hK1 _ ?_;(try clear hK1 K1)
  refine bT 760 [0] zFv (hse) rfl rfl rfl rfl (by simp only [push_cast,simprocAttr];exact rfl) (by decide) (by decide) (by decide) (by simp only [push_cast,simprocAttr];try rfl) (by simp only [push_cast,simprocAttr];try rfl) ?_
  rintro _ _ _ ⟨rfl,rfl,rfl⟩;refine aG 0 (fun K1 hK1=>?_);simp (disch:=omega) only [push_cast,↓iC9,simprocAttr,aE,aD];refine hK1 _ ?_;(try clear hK1 K1)
  refine aV ?_;refine aA ?_;refine aC (fun K hK=>?_);simp (disch:=omega) only [push_cast,↓iC9,simprocAttr];refine hK _ ?_;clear hK K
  refine aB ?_;refine bB ?_;simp only [aF,aN,yH,yE,yK,yJ,aH,zS,zM,Nat.reduceEqDiff,reduceIte,reduceCtorEq];refine bV [0] [] (by first|rfl|simp [bsL,MO.bs]) (by decide) (by decide) (by simp only [push_cast,simprocAttr]) (by simp only [push_cast,simprocAttr]) (by simp only [push_cast,simprocAttr];rfl) (by simp only [push_cast,simprocAttr];rfl) ?_
  exact ⟨rfl,rfl,by simp only [Dk.maps,jJ,a2,a3,a4]⟩
 ·have hne:decide (p=q)=false:=decide_eq_false h7
  have hro:jY d q (iY d p q)=true:=by
   cases e:jY d q (iY d p q)
   ·exact absurd ⟨h7,e⟩ h6
   ·rfl
  rw [hro] at hrm;refine aA ?_;refine bD ?_;refine aG 7 (fun K1 hK1=>?_);simp (disch:=omega) only [push_cast,↓iC9,simprocAttr,hne];refine hK1 _ ?_;(try clear hK1 K1)
  refine bT 632 [0] zNw (hrm) rfl rfl rfl rfl (by simp only [push_cast,simprocAttr];exact rfl) (by decide) (by decide) (by decide) (by simp only [push_cast,simprocAttr];try rfl) (by simp only [push_cast,simprocAttr];try rfl) ?_
  rintro _ _ _ ⟨rfl,rfl,rfl⟩;refine aG 3 (fun K1 hK1=>?_);simp (disch:=omega) only [push_cast,↓iC9,simprocAttr,aE,aD];refine hK1 _ ?_;(try clear hK1 K1)
  refine aV ?_;refine aX [0,1,2,8,71] [0,64] (by simp only [zZ,zR,zP,zQ,zN,zS,zM,zX,zU,Nat.reduceEqDiff,reduceIte];exact rfl) ?_
  skip
  refine bA rfl ?_;refine aT ?_;refine aA ?_;refine aA ?_;refine aC (fun K hK=>?_);simp (disch:=omega) only [push_cast,↓iC9,simprocAttr]
  refine gW 664 [0] zFt (ht) rfl (by decide) (by decide) (by simp only [push_cast,simprocAttr];try rfl) (by simp only [push_cast,simprocAttr];try rfl) ?_
  rintro _ _ ⟨rfl,rfl⟩;refine aM ?_;simp (disch:=omega) only [push_cast,↓iC9,simprocAttr];refine hK _ ?_;clear hK K;refine aA ?_;refine aC (fun K hK=>?_);simp (disch:=omega) only [push_cast,↓iC9,simprocAttr];refine hK _ ?_;clear hK K
  refine aX [0,1,2,8,12,85] [0,64] (by simp only [zZ,zR,zP,zQ,zN,zS,zM,zX,zU,Nat.reduceEqDiff,reduceIte];exact rfl) ?_
  rcases (iU d).symm with ⟨h8,h9⟩|⟨h8,h9⟩
  ·have hr:eC d p q=aW d:=by rw [hr1,if_pos (by simp [h8])]
   rw [hr];refine bC rfl (fun _=>?_) (fun h=>by simp [h8] at h)
   refine aA ?_;refine aC (fun K hK=>?_);simp (disch:=omega) only [push_cast,↓iC9,simprocAttr];refine hK _ ?_;clear hK K
   refine aB ?_;refine bB ?_;refine bR ?_;simp only [aF,aN,yH,yE,yK,yJ,aH,zS,zM,Nat.reduceEqDiff,reduceIte,reduceCtorEq];refine bV [0] [] (by first|rfl|simp [bsL,MO.bs]) (by decide) (by decide) (by simp only [push_cast,simprocAttr]) (by simp only [push_cast,simprocAttr]) (by simp only [push_cast,simprocAttr];rfl) (by simp only [push_cast,simprocAttr];rfl) ?_
   exact ⟨rfl,rfl,by rw [lE];rfl⟩
  have hr:eC d p q=(0,jJ { (aW d).2 with L:=del p d.L } q (aP d p)):=by rw [hr1,if_neg (by simp [h8])]
  rw [hr];refine bC rfl (fun h=>by simp [h8] at h) (fun _=>?_)
  refine aT ?_;refine aA ?_;refine bD ?_;refine aG 5 (fun K1 hK1=>?_);simp (disch:=omega) only [push_cast,↓iC9,simprocAttr];refine hK1 _ ?_;(try clear hK1 K1)
  refine qUs (i:=0) mtI rfl rfl rfl rfl rfl rfl (mx hs) ?_;refine aG 0 (fun K1 hK1=>?_);simp (disch:=omega) only [push_cast,↓iC9,simprocAttr,aE,aD];refine hK1 _ ?_;(try clear hK1 K1)
  refine aV ?_;rw [cS] at hse;simp only [a2,a3,a4,← qU1,gT,f1] at hse;refine aA ?_;refine bD ?_;refine aG 3 (fun K1 hK1=>?_);simp (disch:=omega) only [push_cast,↓iC9,simprocAttr];refine hK1 _ ?_;(try clear hK1 K1)
  refine bT 760 [0] zFv (hse) rfl rfl rfl rfl (by simp only [push_cast,simprocAttr];exact rfl) (by decide) (by decide) (by decide) (by simp only [push_cast,simprocAttr];try rfl) (by simp only [push_cast,simprocAttr];try rfl) ?_
  rintro _ _ _ ⟨rfl,rfl,rfl⟩;refine aG 0 (fun K1 hK1=>?_);simp (disch:=omega) only [push_cast,↓iC9,simprocAttr,aE,aD];refine hK1 _ ?_;(try clear hK1 K1)
  refine aV ?_;refine aA ?_;refine aC (fun K hK=>?_);simp (disch:=omega) only [push_cast,↓iC9,simprocAttr];refine hK _ ?_;clear hK K
  refine aB ?_;refine bB ?_;simp only [aF,aN,yH,yE,yK,yJ,aH,zS,zM,Nat.reduceEqDiff,reduceIte,reduceCtorEq];refine bV [0] [] (by first|rfl|simp [bsL,MO.bs]) (by decide) (by decide) (by simp only [push_cast,simprocAttr]) (by simp only [push_cast,simprocAttr]) (by simp only [push_cast,simprocAttr];rfl) (by simp only [push_cast,simprocAttr];rfl) ?_
  exact ⟨rfl,rfl,by simp only [Dk.maps,jJ,a2,a3,a4]⟩
end Go.Proofs.YtlihpgmgiehjkaaGreatDoor
end
section
set_option maxRecDepth 20000
namespace Go.Proofs.YtlihpgmgiehjkaaGreatDoor
open Go Go.Eng Go.RowKit Go.Tr Go.Dk
theorem zMm (d:Dk) (p:ByteArray) (r1 r2:Nat) (hs:p.size≤1048576):HFunM Tryz.prog 84 [.ptr 0 6 0 0,.v (.string p)] [(0,.bx false 64 (d.cells r1 r2))] (d.maps kS r1 r2) (fun h st g=>h=.v (.int .i64 (cH d p))∧st=[(0,.bx false 64 (d.cells r1 r2))]∧g=d.maps kS r1 r2):=by
 refine kC (N:=14) Tryz.func84 rfl Tryz.ntmps84 Tryz.results84 (by simp) ?_
 simp only [bM];rw [cS];refine aA ?_;refine aC (fun K hK=>?_);simp (disch:=omega) only [push_cast,↓iC9,simprocAttr];refine hK _ ?_;clear hK K
 refine aA ?_;refine aA ?_;refine aC (fun K hK=>?_);simp (disch:=omega) only [push_cast,↓iC9,simprocAttr];refine hK _ ?_;clear hK K
 refine aB ?_;refine bA rfl ?_;refine aT ?_;refine aA ?_;refine bD ?_;refine aG 5 (fun K1 hK1=>?_);simp (disch:=omega) only [push_cast,↓iC9,simprocAttr];refine hK1 _ ?_;(try clear hK1 K1)
 refine fH (i:=0) mtI rfl rfl rfl rfl rfl rfl (mx hs) ?_;refine aG 2 (fun K1 hK1=>?_);simp (disch:=omega) only [push_cast,↓iC9,simprocAttr,aE,aD,gS,gT];refine hK1 _ ?_;(try clear hK1 K1)
 refine aV ?_
 have hxd:(aS d.L p).getD itm0=aP d p:=rfl
 rw [hxd];refine aB ?_;refine bB ?_;simp only [aF,aN,yH,yE,yK,yJ,aH,zS,zM,Nat.reduceEqDiff,reduceIte,reduceCtorEq];refine bV [0] [] (by first|rfl|simp [bsL,MO.bs]) (by decide) (by decide) (by simp only [push_cast,simprocAttr]) (by simp only [push_cast,simprocAttr]) (by simp only [push_cast,simprocAttr];rfl) (by simp only [push_cast,simprocAttr];rfl) ?_
 exact ⟨rfl,rfl,rfl⟩
end Go.Proofs.YtlihpgmgiehjkaaGreatDoor
end
