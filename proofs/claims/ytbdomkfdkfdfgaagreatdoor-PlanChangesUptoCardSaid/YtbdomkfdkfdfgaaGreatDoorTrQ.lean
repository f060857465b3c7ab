/-
  slices.Clone of a tree; slices.Insert at a tree's end.
-/
import Derived.Test.YtbdomkfdkfdfgaaGreatDoorTrM
import Derived.Test.YtbdomkfdkfdfgaaGreatDoorOne
import Derived.Test.YtbdomkfdkfdfgaaGreatDoorGd
set_option linter.unusedSimpArgs false
set_option linter.unusedVariables false
section
set_option maxRecDepth 20000
namespace Go.Proofs.YtbdomkfdkfdfgaaGreatDoor
open Go Go.Eng Go.RowKit Go.Tr
set_option maxHeartbeats 8000000 in
theorem zNc (t:List Ent) (hl:t.length≤140737488355328) (hs:∀ e ∈ t,e.1.size≤1048576):HFun Tryz.prog 110 [.lst false (aL t)] (fun h st=>h=.v (.int .i64 (cQ t))):=by
 refine fJ (N:=62) Tryz.func110 rfl Tryz.ntmps110 Tryz.results110 (by simp) ?_
 unfold cQ;refine zE ?_;refine zJ (fun K hK=>?_);simp (disch:=omega) only [push_cast,↓Int.cast_ofNat_Int,simprocAttr];refine hK _ ?_;clear hK K
 by_cases h200:200 < t.length
 ·rw [if_pos h200];refine zE ?_;refine zE ?_;refine zJ (fun K hK=>?_);simp (disch:=omega) only [push_cast,↓Int.cast_ofNat_Int,simprocAttr,yV];refine hK _ ?_;clear hK K
  refine yD rfl ?_;refine zE ?_;refine zJ (fun K hK=>?_);simp (disch:=omega) only [push_cast,↓Int.cast_ofNat_Int,simprocAttr];refine hK _ ?_;clear hK K
  refine zA ?_;refine zW ?_;refine zK ?_;simp only [yA,yM,yH,yE,aA,aD,yK,yJ,zS,zM,Nat.reduceEqDiff,reduceIte,reduceCtorEq];exact aM rfl
 rw [if_neg h200,← zS5];refine zE ?_;refine zE ?_;refine zJ (fun K hK=>?_);simp (disch:=omega) only [push_cast,↓Int.cast_ofNat_Int,simprocAttr,yV];refine hK _ ?_;clear hK K
 refine yC rfl ?_;refine zC ?_;refine zE ?_;refine zE ?_;refine zJ (fun K hK=>?_);simp (disch:=omega) only [push_cast,↓Int.cast_ofNat_Int,simprocAttr,yV];refine hK _ ?_;clear hK K
 refine zA ?_;refine zD ?_;refine cH (fun i:Nat=>⟨[(0,.lst false (aL t)),(9,.lst false (aL t)),(10,.v (.int .i64 t.length)),(11,.v (.int .i64 i))],[]⟩) (fun i=>i≤t.length∧∀ j,j < i→iX t j=true) (fun i=>t.length - i) [0,9,10,11] [] 0 rfl ⟨Nat.zero_le _,fun j h=>by omega⟩ ?_
 rintro i ⟨hi,ha⟩
 by_cases hlt:i < t.length
 ·have hsz:=hs _ (List.getElem_mem hlt)
  have bad:iX t i=false→zMr t=false:=fun h=>qG9 hlt h
  have c50:HFun Tryz.prog 66 [.v (.string t[i].1),.v (.int .i64 5)] (fun h st=>h=.v (.int .i64 (okN (pOk t[i].1 5)))):=qVl t[i].1 5 hsz (by omega)
  have c17:=zL2 t[i].2
  have hA:uV t i=(pOk t[i].1 5 && (gX t[i].2 && (!decide (t[i].2.1=0) && (decide (i=0) || blt (atE t (i - 1)).1 t[i].1)))):=by rw [uV,iF hlt]
  have hr:rise (t.take i):=qD7 (fun j hj=>by have:=ha j hj;simp only [iX,Bool.and_eq_true] at this;exact this.1) hi
  refine zE ?_;refine zJ (fun K hK=>?_);simp (disch:=omega) only [push_cast,↓Int.cast_ofNat_Int,simprocAttr];refine hK _ ?_;clear hK K
  refine zE ?_;refine yD rfl ?_;refine zC ?_;refine zE ?_;refine zD ?_;refine zE ?_;refine zJ (fun K hK=>?_);simp (disch:=omega) only [push_cast,↓Int.cast_ofNat_Int,simprocAttr,yV,yU,yW hlt];refine hK _ ?_;clear hK K
  have hk0:∀ (m:Nat),(m:Int) + 1 - 1=m:=fun m=>by omega
  cases hp:pOk t[i].1 5 with
 |false =>
   rw [bad (by rw [iX,hA,hp];rfl)]
   rw [hp,zH5] at c50;refine zE ?_;refine zE ?_;refine dY 31 mixed (by kernel_rfl) (fun K hK K1 hK1=>?_);simp (disch:=omega) only [push_cast,↓Int.cast_ofNat_Int,simprocAttr,yV,yU,hk0]
   refine qE5 qYg c50 (.cons (.v _) (.cons (.v _) .nil)) ?_;with_reducible refine aC ?_;simp (disch:=omega) only [push_cast,↓Int.cast_ofNat_Int,simprocAttr,yV,yU,hk0]
   refine hK1 _ ?_;(try clear hK1 K1);with_reducible refine aC ?_;simp (disch:=omega) only [push_cast,↓Int.cast_ofNat_Int,simprocAttr,hk0]
   refine hK _ ?_;clear hK K;refine zA ?_;refine yD rfl ?_;refine zE ?_;refine zJ (fun K hK=>?_);simp (disch:=omega) only [push_cast,↓Int.cast_ofNat_Int,simprocAttr];refine hK _ ?_;clear hK K
   refine zA ?_;refine zW ?_;refine zK ?_;refine zL ?_;refine zK ?_;refine zK ?_;refine zL ?_;refine zK ?_;simp only [yA,yM,yH,yE,aA,aD,yK,yJ,zS,zM,Nat.reduceEqDiff,reduceIte,reduceCtorEq];exact aM rfl
 |true =>
  rw [hp,zH4] at c50
  cases hw:gX t[i].2 with
 |false =>
   rw [bad (by rw [iX,hA,hp,hw];rfl)]
   rw [hw] at c17;refine zE ?_;refine zE ?_;refine dY 31 mixed (by kernel_rfl) (fun K hK K1 hK1=>?_);simp (disch:=omega) only [push_cast,↓Int.cast_ofNat_Int,simprocAttr,yV,yU,hk0]
   refine qE5 qYg c50 (.cons (.v _) (.cons (.v _) .nil)) ?_;with_reducible refine aC ?_;simp (disch:=omega) only [push_cast,↓Int.cast_ofNat_Int,simprocAttr,yV,yU,hk0]
   refine qE5 zK4 c17 (.cons (eY (n:=t[i].2)) .nil) ?_;with_reducible refine aC ?_;simp (disch:=omega) only [push_cast,↓Int.cast_ofNat_Int,simprocAttr,yV,yU,hk0]
   refine hK1 _ ?_;(try clear hK1 K1);with_reducible refine aC ?_;simp (disch:=omega) only [push_cast,↓Int.cast_ofNat_Int,simprocAttr,hk0]
   refine hK _ ?_;clear hK K;refine zA ?_;refine yD rfl ?_;refine zE ?_;refine zJ (fun K hK=>?_);simp (disch:=omega) only [push_cast,↓Int.cast_ofNat_Int,simprocAttr];refine hK _ ?_;clear hK K
   refine zA ?_;refine zW ?_;refine zK ?_;refine zL ?_;refine zK ?_;refine zK ?_;refine zL ?_;refine zK ?_;simp only [yA,yM,yH,yE,aA,aD,yK,yJ,zS,zM,Nat.reduceEqDiff,reduceIte,reduceCtorEq];exact aM rfl
 |true =>
  rw [hw] at c17
  by_cases hk:t[i].2.1=0
  ·have hkd:decide (t[i].2.1=0)=true:=decide_eq_true hk
   rw [bad (by rw [iX,hA,hp,hw,hkd];rfl)]
   refine zE ?_;refine zE ?_;refine dY 31 mixed (by kernel_rfl) (fun K hK K1 hK1=>?_);simp (disch:=omega) only [push_cast,↓Int.cast_ofNat_Int,simprocAttr,yV,yU,hk0]
   refine qE5 qYg c50 (.cons (.v _) (.cons (.v _) .nil)) ?_;with_reducible refine aC ?_;simp (disch:=omega) only [push_cast,↓Int.cast_ofNat_Int,simprocAttr,yV,yU,hk0]
   refine qE5 zK4 c17 (.cons (eY (n:=t[i].2)) .nil) ?_;with_reducible refine aC ?_;simp (disch:=omega) only [push_cast,↓Int.cast_ofNat_Int,simprocAttr,yV,yU,hk0]
   refine hK1 _ ?_;(try clear hK1 K1);with_reducible refine aC ?_;simp (disch:=omega) only [push_cast,↓Int.cast_ofNat_Int,simprocAttr,hk0]
   refine hK _ ?_;clear hK K;refine zA ?_;refine yD rfl ?_;refine zE ?_;refine zJ (fun K hK=>?_);simp (disch:=omega) only [push_cast,↓Int.cast_ofNat_Int,simprocAttr];refine hK _ ?_;clear hK K
   refine zA ?_;refine zW ?_;refine zK ?_;refine zL ?_;refine zK ?_;refine zK ?_;refine zL ?_;refine zK ?_;simp only [yA,yM,yH,yE,aA,aD,yK,yJ,zS,zM,Nat.reduceEqDiff,reduceIte,reduceCtorEq];exact aM rfl
  have hkd:decide (t[i].2.1=0)=false:=decide_eq_false hk
  rw [hp,hw,hkd] at hA;simp only [Bool.true_and,Bool.not_false] at hA
  cases hpv:(decide (i=0) || blt (atE t (i - 1)).1 t[i].1) with
 |false =>
   rw [bad (by rw [iX,hA,hpv];rfl)]
   simp only [Bool.or_eq_false_iff,decide_eq_false_iff_not] at hpv;obtain ⟨m,rfl⟩:∃ m,i=m + 1:=⟨i - 1,by omega⟩
   have hm:m < t.length:=by omega
   have hb:Op.bytesLess t[m].1.toList t[m + 1].1.toList=false:=by
    have:=hpv.2
    rw [Nat.add_sub_cancel,iF hm] at this;exact this
   refine zE ?_;refine zE ?_;refine dY 31 mixed (by kernel_rfl) (fun K hK K1 hK1=>?_);simp (disch:=omega) only [push_cast,↓Int.cast_ofNat_Int,simprocAttr,yV,yU,hk0,yW hm,hb]
   refine qE5 qYg c50 (.cons (.v _) (.cons (.v _) .nil)) ?_;with_reducible refine aC ?_;simp (disch:=omega) only [push_cast,↓Int.cast_ofNat_Int,simprocAttr,yV,yU,hk0,yW hm,hb]
   refine qE5 zK4 c17 (.cons (eY (n:=t[m + 1].2)) .nil) ?_;with_reducible refine aC ?_;simp (disch:=omega) only [push_cast,↓Int.cast_ofNat_Int,simprocAttr,yV,yU,hk0,yW hm,hb]
   refine hK1 _ ?_;(try clear hK1 K1);with_reducible refine aC ?_;simp (disch:=omega) only [push_cast,↓Int.cast_ofNat_Int,simprocAttr,hk0,yW hm,hb]
   refine hK _ ?_;clear hK K;refine zA ?_;refine yD rfl ?_;refine zE ?_;refine zJ (fun K hK=>?_);simp (disch:=omega) only [push_cast,↓Int.cast_ofNat_Int,simprocAttr];refine hK _ ?_;clear hK K
   refine zA ?_;refine zW ?_;refine zK ?_;refine zL ?_;refine zK ?_;refine zK ?_;refine zL ?_;refine zK ?_;simp only [yA,yM,yH,yE,aA,aD,yK,yJ,zS,zM,Nat.reduceEqDiff,reduceIte,reduceCtorEq];exact aM rfl
 |true =>
  rw [hpv] at hA;refine zE ?_;refine zE ?_;refine qHy (fun _:Unit=>⟨[(0,.lst false (aL t)),(3,.v (.int .i64 i)),(4,.ptr 32 3 0 0),(9,.lst false (aL t)),(10,.v (.int .i64 t.length)),(11,.v (.int .i64 i)),(46,.v (.bool false))],[(32,.bx true 67 [.v (.string t[i].1),.v (.int .i64 t[i].2.1),.v (.string t[i].2.2)])]⟩) (fun _=>True) [0,3,4,9,10,11,46] [32] ?_ ?_
  ·rcases Nat.eq_zero_or_pos i with rfl|hpos
   ·skip
    refine dY 31 mixed (by kernel_rfl) (fun K hK K1 hK1=>?_);simp (disch:=omega) only [push_cast,↓Int.cast_ofNat_Int,simprocAttr,yV,yU,hk0]
    refine qE5 qYg c50 (.cons (.v _) (.cons (.v _) .nil)) ?_;with_reducible refine aC ?_;simp (disch:=omega) only [push_cast,↓Int.cast_ofNat_Int,simprocAttr,yV,yU,hk0]
    refine qE5 zK4 c17 (.cons (eY (n:=t[0].2)) .nil) ?_;with_reducible refine aC ?_;simp (disch:=omega) only [push_cast,↓Int.cast_ofNat_Int,simprocAttr,yV,yU,hk0]
    refine hK1 _ ?_;(try clear hK1 K1);with_reducible refine aC ?_;simp (disch:=omega) only [push_cast,↓Int.cast_ofNat_Int,simprocAttr,hk0]
    refine hK _ ?_;clear hK K;exact ⟨(),by simp only [zZ,zR,zP,zQ,zN,zS,zM,zX,zU,Nat.reduceEqDiff,reduceIte];rfl,trivial⟩
   ·obtain ⟨m,rfl⟩:∃ m,i=m + 1:=⟨i - 1,by omega⟩
    have hm:m < t.length:=by omega
    have hb:Op.bytesLess t[m].1.toList t[m + 1].1.toList=true:=by
     simp only [Bool.or_eq_true,decide_eq_true_eq] at hpv
     rcases hpv with h|h
     ·omega
     ·rw [Nat.add_sub_cancel,iF hm] at h;exact h
    refine dY 31 mixed (by kernel_rfl) (fun K hK K1 hK1=>?_);simp (disch:=omega) only [push_cast,↓Int.cast_ofNat_Int,simprocAttr,yV,yU,hk0,yW hm,hb]
    refine qE5 qYg c50 (.cons (.v _) (.cons (.v _) .nil)) ?_;with_reducible refine aC ?_;simp (disch:=omega) only [push_cast,↓Int.cast_ofNat_Int,simprocAttr,yV,yU,hk0,yW hm,hb]
    refine qE5 zK4 c17 (.cons (eY (n:=t[m + 1].2)) .nil) ?_;with_reducible refine aC ?_;simp (disch:=omega) only [push_cast,↓Int.cast_ofNat_Int,simprocAttr,yV,yU,hk0,yW hm,hb]
    refine hK1 _ ?_;(try clear hK1 K1);with_reducible refine aC ?_;simp (disch:=omega) only [push_cast,↓Int.cast_ofNat_Int,simprocAttr,hk0,yW hm,hb]
    refine hK _ ?_;clear hK K;exact ⟨(),by simp only [zZ,zR,zP,zQ,zN,zS,zM,zX,zU,Nat.reduceEqDiff,reduceIte];rfl,trivial⟩
  intro S' _ hE _;refine zA ?_;refine yB [0,3,4,9,10,11,46] [32] hE ?_;clear hE;refine yC rfl ?_;refine zC ?_;refine zE ?_
  have cp:=zHx t[i].1 hsz
  have cg:=oQ (t.take i) (par t[i].1) hr (by rw [List.length_take];omega)
  have hP:qCl (t.take i) (atE t i)=(decide (par t[i].1={ data:=#[] }) || decide ((aF (t.take i) (par t[i].1)).1=1)):=by rw [qCl,iF hlt]
  have hR:iX t i=qCl (t.take i) (atE t i):=by rw [iX,hA,Bool.true_and]
  refine zJ (fun K hK=>?_);simp (disch:=omega) only [push_cast,↓Int.cast_ofNat_Int,simprocAttr]
  refine cP zVc cp (.cons (.v _) .nil) ?_;with_reducible refine aC ?_;simp (disch:=omega) only [push_cast,↓Int.cast_ofNat_Int,simprocAttr]
  refine hK _ ?_;clear hK K
  cases he:decide (par t[i].1={ data:=#[] }) with
 |true =>
   have hgood:iX t i=true:=by rw [hR,hP,he];rfl
   refine zE ?_;refine zJ (fun K hK=>?_);simp (disch:=omega) only [push_cast,↓Int.cast_ofNat_Int,simprocAttr,he];refine hK _ ?_;clear hK K
   refine yC rfl ?_;refine zC ?_;refine zB ?_;refine zA ?_;refine zJ (fun K hK=>?_);simp (disch:=omega) only [push_cast,↓Int.cast_ofNat_Int,simprocAttr];refine hK _ ?_;clear hK K
   refine zA ?_;exact ⟨i + 1,rfl,⟨hlt,fun j hj=>if h:j=i then h ▸ hgood else ha j (by omega)⟩,by omega⟩
 |false =>
   have hk1:∀ b,decide ((aF (t.take i) (par t[i].1)).1=1)=b→iX t i=b:=fun b hb=>by rw [hR,hP,he,hb];rfl
   generalize hg:aF (t.take i) (par t[i].1)=n at cg hk1;obtain ⟨k,d⟩:=n;dsimp only at hk1
   by_cases hk1':k=1
   ·have hgood:=hk1 true (decide_eq_true hk1')
    refine zE ?_;refine zJ (fun K hK=>?_);simp (disch:=omega) only [push_cast,↓Int.cast_ofNat_Int,simprocAttr,he,yV,yU,xE,List.drop_zero]
    refine hat 456 uW cg (.cons (aT (yT _)) (.cons (.v _) .nil)) ?_;rintro _ _ ⟨rfl,rfl⟩;with_reducible refine aC ?_;simp (disch:=omega) only [push_cast,↓Int.cast_ofNat_Int,simprocAttr,he]
    refine hK _ ?_;clear hK K;refine yC rfl ?_;refine zC ?_;refine zB ?_;refine zA ?_;refine zJ (fun K hK=>?_);simp (disch:=omega) only [push_cast,↓Int.cast_ofNat_Int,simprocAttr];refine hK _ ?_;clear hK K
    refine zA ?_;exact ⟨i + 1,rfl,⟨hlt,fun j hj=>if h:j=i then h ▸ hgood else ha j (by omega)⟩,by omega⟩
   ·rw [bad (hk1 false (decide_eq_false hk1'))];refine zE ?_;refine zJ (fun K hK=>?_);simp (disch:=omega) only [push_cast,↓Int.cast_ofNat_Int,simprocAttr,he,yV,yU,xE,List.drop_zero]
    refine hat 456 uW cg (.cons (aT (yT _)) (.cons (.v _) .nil)) ?_;rintro _ _ ⟨rfl,rfl⟩;with_reducible refine aC ?_;simp (disch:=omega) only [push_cast,↓Int.cast_ofNat_Int,simprocAttr,he]
    refine hK _ ?_;clear hK K;refine yD rfl ?_;refine zE ?_;refine zJ (fun K hK=>?_);simp (disch:=omega) only [push_cast,↓Int.cast_ofNat_Int,simprocAttr];refine hK _ ?_;clear hK K
    refine zA ?_;refine zW ?_;refine zL ?_;refine zK ?_;refine zK ?_;refine zL ?_;refine zK ?_;simp only [yA,yM,yH,yE,aA,aD,yK,yJ,zS,zM,Nat.reduceEqDiff,reduceIte,reduceCtorEq];exact aM rfl
 ·have hne:i=t.length:=by omega
  subst hne
  have hok:zMr t=true:=gW.2 ha
  rw [hok];refine zE ?_;refine zJ (fun K hK=>?_);simp (disch:=omega) only [push_cast,↓Int.cast_ofNat_Int,simprocAttr];refine hK _ ?_;clear hK K
  refine zE ?_;refine yC rfl ?_;refine zT ?_;refine zG ?_;refine zG ?_;refine zH ?_;refine zE ?_;refine zJ (fun K hK=>?_);simp (disch:=omega) only [push_cast,↓Int.cast_ofNat_Int,simprocAttr];refine hK _ ?_;clear hK K
  refine zA ?_;refine zW ?_;simp only [yA,yM,yH,yE,aA,aD,yK,yJ,zS,zM,Nat.reduceEqDiff,reduceIte,reduceCtorEq];exact aM rfl
end Go.Proofs.YtbdomkfdkfdfgaaGreatDoor
end
section
namespace Go.Eng
open Go Go.RowKit
theorem zNj {P:Program} {N:Nat} {Q:fH} {S:HS} {id a d1 d2:Nat} {t u ty1 ty2:TypeId} {p1 p2:String} {af1 af2:Array Edge} {fr:Bool} {ys:List (List FV)}
  (ha:hlk S.env a=some (.lst fr ys)) (h1:eU N (some d1)=true) (h2:eU N (some d2)=true) (hu:(aW P t).isSome=true)
  (h:∀ b:Bool,(b=true→ys=[])→Q .normal ⟨(d2,.v (.bool b)) :: (d1,.lst fr ys) :: S.env,S.st⟩) :
  HW P N (.region id #[⟨some d1,.move (.tmp a),ty1,p1,af1,none⟩,⟨some d2,.binOp .eql t (.tmp d1) (.const (.slice none 0 0)) u,ty2,p2,af2,none⟩] false) Q S:=fun c l w I=>by
 obtain ⟨ρ,xs,G⟩:=I;obtain ⟨v,hv,hr⟩:=G.env a _ ha
 have hr0:=hr
 cases hr with
|lst hF =>
 cases hF with
|lst sz vals hn hc hm hnil hsz hadd h1' hr' =>
 rename_i ad n cap;refine qYr (ops:=[⟨some d1,.move (.tmp a),ty1,p1,af1,none⟩,⟨some d2,.binOp .eql t (.tmp d1) (.const (.slice none 0 0)) u,ty2,p2,af2,none⟩]) fun K hK=>?_
 simp only [zNg,zRw,gd,qPq,aR,qHk,qTt,ev,hv,stp,lk,if_true,pS];refine ⟨gP h1,trivial,gP h2,hu,hK _ _ ?_⟩
 have I1:Inv c (S.set (some d1) (.lst fr ys)) (lk (stp (some d1) (.slice ad n cap) l)) w:=InvV.set ⟨ρ,xs,G,hr0⟩ (some d1)
 obtain ⟨ρ2,xs2,G2⟩:=I1
 have I2:=InvV.set (l:=stp (some d1) (.slice ad n cap) l) (h:=.v (.bool ad.isNone)) (v:=.bool ad.isNone) ⟨ρ2,xs2,G2,.v _⟩ (some d2)
 refine ⟨_,I2,h ad.isNone fun e=>?_⟩
 cases ad with
|some _=>cases e
|none =>
  have:=hnil rfl
  exact List.eq_nil_of_length_eq_zero (by omega)
end Go.Eng
end
section
set_option maxRecDepth 20000
namespace Go.Proofs.YtbdomkfdkfdfgaaGreatDoor
open Go Go.Eng Go.RowKit Go.Tr
set_option maxHeartbeats 2000000 in
theorem qUn (t:List Ent) (hl:t.length≤1048576):HFun Tryz.prog 29 [.lst false (aL t)] (fun h st=>h=.own 0∧st=[(0,fW t)]):=by
 refine fJ (N:=8) Tryz.func29 rfl Tryz.ntmps29 Tryz.results29 (by simp) ?_
 refine zE ?_;refine zJ (fun K hK=>?_);simp (disch:=omega) only [push_cast,↓Int.cast_ofNat_Int,simprocAttr];refine hK _ ?_;clear hK K
 refine zE ?_;refine zE ?_;refine zNj rfl rfl rfl (by rw [zQt];rfl) (fun b hb=>?_)
 refine zA ?_;dsimp only;refine xR rfl (fun hb2=>?_) (fun hb2=>?_)
 ·have ht:t=[]:=by
   have:=hb hb2
   cases t with
  |nil=>rfl
  |cons a r=>simp [aL] at this
  subst ht;refine zE ?_;refine zJ (fun K hK=>?_);simp (disch:=omega) only [push_cast,↓Int.cast_ofNat_Int,simprocAttr];refine hK _ ?_;clear hK K
  refine qR 2 9000 67 3 rfl (by simp only [lR,qS,qT,fE,eE,eW,dZ,iM,fC,gV,fB,fA,gC,fD,eZ,eD,fX,fZ,fY,iL,iZ,gU,Nat.reduceBEq,Nat.reduceEqDiff,reduceIte,cond_true,cond_false,List.map_cons,List.map_nil];exact rfl) ?_
  refine zW ?_;refine zK ?_;simp only [yA,yM,yH,yE,aA,aD,yK,yJ,zS,zM,Nat.reduceEqDiff,reduceIte,reduceCtorEq];exact rC rfl (fG []) ⟨rfl,rfl⟩
 ·refine zC ?_;refine zE ?_;refine zJ (fun K hK=>?_);simp (disch:=omega) only [push_cast,↓Int.cast_ofNat_Int,simprocAttr,yV,yU];(repeat refine ⟨by first|omega|decide|((repeat' apply And.intro) <;> first|omega|decide),?_⟩);refine hK _ ?_;clear hK K
  refine zA ?_;refine zW ?_;simp only [yA,yM,yH,yE,aA,aD,yK,yJ,zS,zM,Nat.reduceEqDiff,reduceIte,reduceCtorEq];exact rC rfl (fG _) ⟨rfl,rfl⟩
structure PutEnd (t:List Ent) (p:ByteArray) (n:Int × ByteArray):Prop where
 ok:pOk p 5=true
 whole:gX n=true
 some:n.1≠0
 free:eF t p=false
 up:par p={ data:=#[] }∨(aF t (par p)).1=1
 dir:n.1=1∨(t.filter fun e=>eK e.1 p).length≤1
 zQ0:t.length < 200
 last:bG t p=t.length
 rise:rise t
 size:p.size≤1048576∧∀ e ∈ t,e.1.size≤1048576
end Go.Proofs.YtbdomkfdkfdfgaaGreatDoor
end
