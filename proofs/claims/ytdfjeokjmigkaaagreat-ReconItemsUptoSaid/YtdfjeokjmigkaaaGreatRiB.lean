/-
  ReconItems: the document's open, said and Items, walked.
-/
import Derived.Test.YtdfjeokjmigkaaaGreatRiA
import Derived.Test.YtdfjeokjmigkaaaGreatDiffM
import Derived.Test.YtdfjeokjmigkaaaGreatDiffD
import Derived.Test.YtdfjeokjmigkaaaGreatMrD
import Derived.Test.YtdfjeokjmigkaaaGreatTsR
import Derived.Test.YtdfjeokjmigkaaaGreatTsB
set_option linter.unusedSimpArgs false
set_option linter.unusedVariables false
set_option maxRecDepth 20000
namespace Go.Rc
open Go Go.Eng Go.RowKit Go.Tr Go.Dk
def xQ (t:List Ent):Nat→Option ByteArray
|0=>none
|i + 1=>(t[i]?).map fun e=>e.1
theorem qTx {t:List Ent} {i:Nat} (h:i < t.length):xQ t (i + 1)=some t[i].1:=by rw [xQ,List.getElem?_eq_getElem h];rfl
theorem zDh (mg:(Int × ByteArray)→(Int × ByteArray)→(Int × ByteArray)→Bool) (A H S:List Ent) (p:ByteArray):0≤lZ mg A H S p∧lZ mg A H S p≤5:=by
 unfold lZ
 (repeat' split) <;> omega
end Go.Rc
namespace Go.Proofs.YtdfjeokjmigkaaaGreat
open Go Go.Eng Go.RowKit Go.Tr Go.Dk Go.Rc Go.DiffM
theorem zRu (a h s:Int × ByteArray) (ha:a.2.size≤4096) (hh:h.2.size≤4096) (hs:s.2.size≤4096):∃ n,HFun Tryz.prog 18 [fE a,fE h,fE s] (fun r st=>r=.tup [fE n,.v (.bool (mgR a h s))]∧st=[]) :=
 ⟨_,qK8 a h s _ _ _ (qLe (nV a) h.2 s.2 (Nat.le_trans (qFg ha) (by decide)) (Nat.le_trans hh (by decide)) (Nat.le_trans hs (by decide)))⟩
set_option maxHeartbeats 4000000 in
theorem zU8 {H S:List Ent} (hH:TB H) (hS:TB S):∀ (n:Nat) (p:ByteArray),p.size≤n→p.size≤1048576→HFun Tryz.prog 30 [.lst false (aQ H),.lst false (aQ S),.v (.string p)] (fun h st=>h=.v (.bool (opn H S p))):=by
 intro n
 induction n with
|zero =>
  intro p hn hp;refine eF (N:=39) Tryz.func30 rfl Tryz.ntmps30 Tryz.results30 (by simp) ?_
  have hp0:p={ data:=#[] }:=ByteArray.size_eq_zero_iff.1 (by omega)
  have h0:par p={ data:=#[] }:=by rw [hp0];rfl
  have cp:=qHd p hp
  rw [qRq h0];rw [h0] at cp;refine zE ?_;refine zJ (fun K hK=>?_);simp (disch:=omega) only [push_cast,↓Int.cast_ofNat_Int,simprocAttr];refine hK _ ?_
  refine zE ?_;refine zJ (fun K hK=>?_);simp (disch:=omega) only [push_cast,↓Int.cast_ofNat_Int,simprocAttr]
  refine aW qVx cp (.cons (.v _) .nil) ?_;with_reducible refine aB ?_;simp (disch:=omega) only [push_cast,↓Int.cast_ofNat_Int,simprocAttr]
  refine hK _ ?_;refine zE ?_;refine zE ?_;refine zJ (fun K hK=>?_);simp (disch:=omega) only [push_cast,↓Int.cast_ofNat_Int,simprocAttr];refine hK _ ?_
  refine zA ?_;refine yD rfl ?_;refine zE ?_;refine zJ (fun K hK=>?_);simp (disch:=omega) only [push_cast,↓Int.cast_ofNat_Int,simprocAttr];refine hK _ ?_
  refine zA ?_;refine zW ?_;refine zK ?_;simp only [yA,yM,yH,yE,aA,aC,yK,yJ,zS,zM,Nat.reduceEqDiff,reduceIte,reduceCtorEq];exact aL rfl
|succ n ih =>
  intro p hn hp;refine eF (N:=39) Tryz.func30 rfl Tryz.ntmps30 Tryz.results30 (by simp) ?_
  have cp:=qHd p hp
  cases e0:decide (par p={ data:=#[] }) with
 |true =>
   have h0:par p={ data:=#[] }:=of_decide_eq_true e0
   rw [qRq h0];refine zE ?_;refine zJ (fun K hK=>?_);simp (disch:=omega) only [push_cast,↓Int.cast_ofNat_Int,simprocAttr];refine hK _ ?_
   refine zE ?_;refine zJ (fun K hK=>?_);simp (disch:=omega) only [push_cast,↓Int.cast_ofNat_Int,simprocAttr]
   refine aW qVx cp (.cons (.v _) .nil) ?_;with_reducible refine aB ?_;simp (disch:=omega) only [push_cast,↓Int.cast_ofNat_Int,simprocAttr]
   refine hK _ ?_;refine zE ?_;refine zE ?_;refine zJ (fun K hK=>?_);simp (disch:=omega) only [push_cast,↓Int.cast_ofNat_Int,simprocAttr,e0];(repeat refine ⟨by first|omega|decide|((repeat' apply And.intro) <;> first|omega|decide),?_⟩);refine hK _ ?_
   refine zA ?_;refine yD rfl ?_;refine zE ?_;refine zJ (fun K hK=>?_);simp (disch:=omega) only [push_cast,↓Int.cast_ofNat_Int,simprocAttr];refine hK _ ?_
   refine zA ?_;refine zW ?_;refine zK ?_;simp only [yA,yM,yH,yE,aA,aC,yK,yJ,zS,zM,Nat.reduceEqDiff,reduceIte,reduceCtorEq];exact aL rfl
 |false =>
  have h0:¬ par p={ data:=#[] }:=of_decide_eq_false e0
  have hsz:=qLl h0
  rw [qX4 h0];generalize par p=q at cp e0 h0 hsz ⊢
  have co:=ih q (by omega) (by omega)
  have g1:=qHf H q (by have:=hH.len;omega)
  have g2:=qHf S q (by have:=hS.len;omega)
  have s1:=qK7 H q (by have:=hH.len;omega) hH.sz (by omega)
  have s2:=qK7 S q (by have:=hS.len;omega) hS.sz (by omega)
  have f1:(eV H q).length≤1000:=Nat.le_trans (List.length_filter_le ..) hH.len
  have cs:=qFm (eV H q) (eV S q) (by omega)
  change HFun Tryz.prog 23 _ (fun h st=>h=.own 0∧st=[(0,Tr.rowE (eV H q))]) at s1
  change HFun Tryz.prog 23 _ (fun h st=>h=.own 0∧st=[(0,Tr.rowE (eV S q))]) at s2
  generalize eV H q=HH at *
  generalize eV S q=SS at *
  generalize eH H q=nh at *
  generalize eH S q=ns at *
  obtain ⟨kh,dh⟩:=nh;obtain ⟨ks,ds⟩:=ns;dsimp only;refine zE ?_;refine zJ (fun K hK=>?_);simp (disch:=omega) only [push_cast,↓Int.cast_ofNat_Int,simprocAttr];refine hK _ ?_
  refine zE ?_;refine zJ (fun K hK=>?_);simp (disch:=omega) only [push_cast,↓Int.cast_ofNat_Int,simprocAttr]
  refine aW qVx cp (.cons (.v _) .nil) ?_;with_reducible refine aB ?_;simp (disch:=omega) only [push_cast,↓Int.cast_ofNat_Int,simprocAttr]
  refine hK _ ?_;refine zE ?_;refine zE ?_;refine zJ (fun K hK=>?_);simp (disch:=omega) only [push_cast,↓Int.cast_ofNat_Int,simprocAttr,e0];(repeat refine ⟨by first|omega|decide|((repeat' apply And.intro) <;> first|omega|decide),?_⟩);refine hK _ ?_
  refine zA ?_;refine yC rfl ?_;refine zC ?_;refine zE ?_;refine zE ?_
  cases o1:opn H S q with
 |false =>
   rw [o1] at co;refine zJ (fun K hK=>?_);simp (disch:=omega) only [push_cast,↓Int.cast_ofNat_Int,simprocAttr]
   refine aW zGk co (.cons (aH (yT _)) (.cons (aH (yT _)) (.cons (.v _) .nil))) ?_;with_reducible refine aB ?_;simp (disch:=omega) only [push_cast,↓Int.cast_ofNat_Int,simprocAttr]
   refine hK _ ?_;refine zA ?_;refine yD rfl ?_;refine zE ?_;refine zJ (fun K hK=>?_);simp (disch:=omega) only [push_cast,↓Int.cast_ofNat_Int,simprocAttr];refine hK _ ?_
   refine zA ?_;refine zW ?_;refine zK ?_;simp only [yA,yM,yH,yE,aA,aC,yK,yJ,zS,zM,Nat.reduceEqDiff,reduceIte,reduceCtorEq];exact aL rfl
 |true =>
  rw [o1] at co
  cases o2:decide (kh=1) with
 |false =>
   refine zJ (fun K hK=>?_);simp (disch:=omega) only [push_cast,↓Int.cast_ofNat_Int,simprocAttr]
   refine aW zGk co (.cons (aH (yT _)) (.cons (aH (yT _)) (.cons (.v _) .nil))) ?_;with_reducible refine aB ?_;simp (disch:=omega) only [push_cast,↓Int.cast_ofNat_Int,simprocAttr]
   refine hat 160 qNy g1 (.cons (aH (yT _)) (.cons (.v _) .nil)) ?_;rintro _ _ ⟨rfl,rfl⟩;with_reducible refine aB ?_;simp (disch:=omega) only [push_cast,↓Int.cast_ofNat_Int,simprocAttr,o2]
   refine hK _ ?_;refine zA ?_;refine yD rfl ?_;refine zE ?_;refine zJ (fun K hK=>?_);simp (disch:=omega) only [push_cast,↓Int.cast_ofNat_Int,simprocAttr];refine hK _ ?_
   refine zA ?_;refine zW ?_;refine zK ?_;simp only [yA,yM,yH,yE,aA,aC,yK,yJ,zS,zM,Nat.reduceEqDiff,reduceIte,reduceCtorEq];exact aL rfl
 |true =>
  have e2:=of_decide_eq_true o2
  subst e2
  cases o3:decide (ks=1) with
 |false =>
   refine zJ (fun K hK=>?_);simp (disch:=omega) only [push_cast,↓Int.cast_ofNat_Int,simprocAttr]
   refine aW zGk co (.cons (aH (yT _)) (.cons (aH (yT _)) (.cons (.v _) .nil))) ?_;with_reducible refine aB ?_;simp (disch:=omega) only [push_cast,↓Int.cast_ofNat_Int,simprocAttr]
   refine hat 160 qNy g1 (.cons (aH (yT _)) (.cons (.v _) .nil)) ?_;rintro _ _ ⟨rfl,rfl⟩;with_reducible refine aB ?_;simp (disch:=omega) only [push_cast,↓Int.cast_ofNat_Int,simprocAttr]
   refine hat 216 qNy g2 (.cons (aH (yT _)) (.cons (.v _) .nil)) ?_;rintro _ _ ⟨rfl,rfl⟩;with_reducible refine aB ?_;simp (disch:=omega) only [push_cast,↓Int.cast_ofNat_Int,simprocAttr,o3]
   refine hK _ ?_;refine zA ?_;refine yD rfl ?_;refine zE ?_;refine zJ (fun K hK=>?_);simp (disch:=omega) only [push_cast,↓Int.cast_ofNat_Int,simprocAttr];refine hK _ ?_
   refine zA ?_;refine zW ?_;refine zK ?_;simp only [yA,yM,yH,yE,aA,aC,yK,yJ,zS,zM,Nat.reduceEqDiff,reduceIte,reduceCtorEq];exact aL rfl
 |true =>
  have e3:=of_decide_eq_true o3
  subst e3;refine zJ (fun K hK=>?_);simp (disch:=omega) only [push_cast,↓Int.cast_ofNat_Int,simprocAttr]
  refine aW zGk co (.cons (aH (yT _)) (.cons (aH (yT _)) (.cons (.v _) .nil))) ?_;with_reducible refine aB ?_;simp (disch:=omega) only [push_cast,↓Int.cast_ofNat_Int,simprocAttr]
  refine hat 160 qNy g1 (.cons (aH (yT _)) (.cons (.v _) .nil)) ?_;rintro _ _ ⟨rfl,rfl⟩;with_reducible refine aB ?_;simp (disch:=omega) only [push_cast,↓Int.cast_ofNat_Int,simprocAttr]
  refine hat 216 qNy g2 (.cons (aH (yT _)) (.cons (.v _) .nil)) ?_;rintro _ _ ⟨rfl,rfl⟩;with_reducible refine aB ?_;simp (disch:=omega) only [push_cast,↓Int.cast_ofNat_Int,simprocAttr]
  refine hK _ ?_;refine zA ?_;refine yC rfl ?_;refine zC ?_;refine zE ?_;refine zJ (fun K hK=>?_);simp (disch:=omega) only [push_cast,↓Int.cast_ofNat_Int,simprocAttr]
  refine hat 264 zL5 s1 (.cons (aH (yT _)) (.cons (.v _) .nil)) ?_;rintro _ _ ⟨rfl,rfl⟩;with_reducible refine aB ?_;simp (disch:=omega) only [push_cast,↓Int.cast_ofNat_Int,simprocAttr]
  refine hat 288 zL5 s2 (.cons (aH (yT _)) (.cons (.v _) .nil)) ?_;rintro _ _ ⟨rfl,rfl⟩;with_reducible refine aB ?_;simp (disch:=omega) only [push_cast,↓Int.cast_ofNat_Int,simprocAttr]
  refine aW qNz cs (.cons (jK (yT _) rfl) (.cons (jK (yT _) rfl) .nil)) ?_;with_reducible refine aB ?_;simp (disch:=omega) only [push_cast,↓Int.cast_ofNat_Int,simprocAttr]
  refine hK _ ?_;refine zA ?_;refine zW ?_;simp only [yA,yM,yH,yE,aA,aC,yK,yJ,zS,zM,Nat.reduceEqDiff,reduceIte,reduceCtorEq];exact aL rfl
set_option maxHeartbeats 8000000 in
theorem zRs {A H S:List Ent} (hA:TB A) (hH:TB H) (hS:TB S) (p:ByteArray) (hp:p.size≤1048576):HFun Tryz.prog 31 [.lst false (aQ A),.lst false (aQ H),.lst false (aQ S),.v (.string p)] (fun h st=>h=.v (.int .i64 (lZ mgR A H S p))):=by
 refine eF (N:=66) Tryz.func31 rfl Tryz.ntmps31 Tryz.results31 (by simp) ?_
 have gA:=qHf A p (by have:=hA.len;omega)
 have gH:=qHf H p (by have:=hH.len;omega)
 have gS:=qHf S p (by have:=hS.len;omega)
 have sA:=qK7 A p (by have:=hA.len;omega) hA.sz hp
 have sH:=qK7 H p (by have:=hH.len;omega) hH.sz hp
 have sS:=qK7 S p (by have:=hS.len;omega) hS.sz hp
 obtain ⟨nn,cm⟩:=zRu (eH A p) (eH H p) (eH S p) (qAo hA p) (qAo hH p) (qAo hS p)
 have fH:(eV H p).length≤1000:=Nat.le_trans (List.length_filter_le ..) hH.len
 have fS:(eV S p).length≤1000:=Nat.le_trans (List.length_filter_le ..) hS.len
 have c1:=qFm (eV H p) (eV S p) (by omega)
 have c2:=qFm (eV H p) (eV A p) (by omega)
 have c3:=qFm (eV S p) (eV A p) (by omega)
 change HFun Tryz.prog 23 _ (fun h st=>h=.own 0∧st=[(0,Tr.rowE (eV A p))]) at sA
 change HFun Tryz.prog 23 _ (fun h st=>h=.own 0∧st=[(0,Tr.rowE (eV H p))]) at sH
 change HFun Tryz.prog 23 _ (fun h st=>h=.own 0∧st=[(0,Tr.rowE (eV S p))]) at sS
 unfold lZ;generalize eV A p=AA at *
 generalize eV H p=HH at *
 generalize eV S p=SS at *
 generalize mgR (eH A p) (eH H p) (eH S p)=b at cm ⊢;generalize eH A p=na at *
 generalize eH H p=nh at *
 generalize eH S p=ns at *
 obtain ⟨ka,da⟩:=na;obtain ⟨kh,dh⟩:=nh;obtain ⟨ks,ds⟩:=ns;obtain ⟨kn,dn⟩:=nn;dsimp only at cm ⊢;refine zE ?_;refine zJ (fun K hK=>?_);simp (disch:=omega) only [push_cast,↓Int.cast_ofNat_Int,simprocAttr];refine hK _ ?_
 refine zE ?_;refine zJ (fun K hK=>?_);simp (disch:=omega) only [push_cast,↓Int.cast_ofNat_Int,simprocAttr]
 refine hat 152 zL5 sA (.cons (aH (yT _)) (.cons (.v _) .nil)) ?_;rintro _ _ ⟨rfl,rfl⟩;with_reducible refine aB ?_;simp (disch:=omega) only [push_cast,↓Int.cast_ofNat_Int,simprocAttr]
 refine hat 176 zL5 sH (.cons (aH (yT _)) (.cons (.v _) .nil)) ?_;rintro _ _ ⟨rfl,rfl⟩;with_reducible refine aB ?_;simp (disch:=omega) only [push_cast,↓Int.cast_ofNat_Int,simprocAttr]
 refine hat 200 zL5 sS (.cons (aH (yT _)) (.cons (.v _) .nil)) ?_;rintro _ _ ⟨rfl,rfl⟩;with_reducible refine aB ?_;simp (disch:=omega) only [push_cast,↓Int.cast_ofNat_Int,simprocAttr]
 refine hK _ ?_;refine zE ?_;refine zJ (fun K hK=>?_);simp (disch:=omega) only [push_cast,↓Int.cast_ofNat_Int,simprocAttr]
 refine hat 224 qNy gA (.cons (aH (yT _)) (.cons (.v _) .nil)) ?_;rintro _ _ ⟨rfl,rfl⟩;with_reducible refine aB ?_;simp (disch:=omega) only [push_cast,↓Int.cast_ofNat_Int,simprocAttr]
 refine hat 248 qNy gH (.cons (aH (yT _)) (.cons (.v _) .nil)) ?_;rintro _ _ ⟨rfl,rfl⟩;with_reducible refine aB ?_;simp (disch:=omega) only [push_cast,↓Int.cast_ofNat_Int,simprocAttr]
 refine hat 272 qNy gS (.cons (aH (yT _)) (.cons (.v _) .nil)) ?_;rintro _ _ ⟨rfl,rfl⟩;with_reducible refine aB ?_;simp (disch:=omega) only [push_cast,↓Int.cast_ofNat_Int,simprocAttr]
 refine hK _ ?_;refine yB [8,9,10,11,12,13,14] [96,104,112,152,176,200] (by simp only [zZ,zR,zP,zQ,zN,zS,zM,zX,zU,Nat.reduceEqDiff,reduceIte];exact rfl) ?_
 by_cases d1:HH=SS
 ·rw [if_pos d1];rw [decide_eq_true d1] at c1;subst d1;refine zE ?_;refine zE ?_;refine zJ (fun K hK=>?_);simp (disch:=omega) only [push_cast,↓Int.cast_ofNat_Int,simprocAttr]
  refine aW qNz c1 (.cons (jK (yT _) rfl) (.cons (jK (yT _) rfl) .nil)) ?_;with_reducible refine aB ?_;simp (disch:=omega) only [push_cast,↓Int.cast_ofNat_Int,simprocAttr]
  refine hK _ ?_;refine zA ?_;refine yD rfl ?_
  by_cases d2:AA=HH
  ·rw [if_pos d2];rw [decide_eq_true d2.symm] at c2;refine zE ?_;refine zE ?_;refine zJ (fun K hK=>?_);simp (disch:=omega) only [push_cast,↓Int.cast_ofNat_Int,simprocAttr]
   refine aW qNz c2 (.cons (jK (yT _) rfl) (.cons (jK (yT _) rfl) .nil)) ?_;with_reducible refine aB ?_;simp (disch:=omega) only [push_cast,↓Int.cast_ofNat_Int,simprocAttr]
   refine hK _ ?_;refine zA ?_;refine yD rfl ?_;refine zE ?_;refine zJ (fun K hK=>?_);simp (disch:=omega) only [push_cast,↓Int.cast_ofNat_Int,simprocAttr];refine hK _ ?_
   refine zA ?_;refine zW ?_;refine zK ?_;refine zK ?_;simp only [yA,yM,yH,yE,aA,aC,yK,yJ,zS,zM,Nat.reduceEqDiff,reduceIte,reduceCtorEq];exact aL rfl
  ·rw [if_neg d2];rw [decide_eq_false (Ne.symm d2)] at c2;refine zE ?_;refine zE ?_;refine zJ (fun K hK=>?_);simp (disch:=omega) only [push_cast,↓Int.cast_ofNat_Int,simprocAttr]
   refine aW qNz c2 (.cons (jK (yT _) rfl) (.cons (jK (yT _) rfl) .nil)) ?_;with_reducible refine aB ?_;simp (disch:=omega) only [push_cast,↓Int.cast_ofNat_Int,simprocAttr]
   refine hK _ ?_;refine zA ?_;refine yC rfl ?_;refine zC ?_;refine zE ?_;refine zJ (fun K hK=>?_);simp (disch:=omega) only [push_cast,↓Int.cast_ofNat_Int,simprocAttr];refine hK _ ?_
   refine zA ?_;refine zW ?_;refine zK ?_;simp only [yA,yM,yH,yE,aA,aC,yK,yJ,zS,zM,Nat.reduceEqDiff,reduceIte,reduceCtorEq];exact aL rfl
 rw [if_neg d1];rw [decide_eq_false d1] at c1;refine zE ?_;refine zE ?_;refine zJ (fun K hK=>?_);simp (disch:=omega) only [push_cast,↓Int.cast_ofNat_Int,simprocAttr]
 refine aW qNz c1 (.cons (jK (yT _) rfl) (.cons (jK (yT _) rfl) .nil)) ?_;with_reducible refine aB ?_;simp (disch:=omega) only [push_cast,↓Int.cast_ofNat_Int,simprocAttr]
 refine hK _ ?_;refine zA ?_;refine yC rfl ?_;refine zC ?_;refine zE ?_;refine zE ?_
 by_cases k1:kh=1∧ks=1
 ·rw [if_pos k1];obtain ⟨rfl,rfl⟩:=k1;refine zJ (fun K hK=>?_);simp (disch:=omega) only [push_cast,↓Int.cast_ofNat_Int,simprocAttr];(repeat refine ⟨by first|omega|decide|((repeat' apply And.intro) <;> first|omega|decide),?_⟩);refine hK _ ?_
  refine zA ?_;refine yD rfl ?_
  by_cases k2:ka=1
  ·rw [if_pos k2];subst k2;refine zE ?_;refine zE ?_;refine zJ (fun K hK=>?_);simp (disch:=omega) only [push_cast,↓Int.cast_ofNat_Int,simprocAttr];(repeat refine ⟨by first|omega|decide|((repeat' apply And.intro) <;> first|omega|decide),?_⟩);refine hK _ ?_
   refine zA ?_;refine yD rfl ?_;refine zE ?_;refine zJ (fun K hK=>?_);simp (disch:=omega) only [push_cast,↓Int.cast_ofNat_Int,simprocAttr];refine hK _ ?_
   refine zA ?_;refine zW ?_;refine zK ?_;refine zK ?_;simp only [yA,yM,yH,yE,aA,aC,yK,yJ,zS,zM,Nat.reduceEqDiff,reduceIte,reduceCtorEq];exact aL rfl
  ·rw [if_neg k2]
   have k3:decide (ka=1)=false:=decide_eq_false k2
   refine zE ?_;refine zE ?_;refine zJ (fun K hK=>?_);simp (disch:=omega) only [push_cast,↓Int.cast_ofNat_Int,simprocAttr,k3];(repeat refine ⟨by first|omega|decide|((repeat' apply And.intro) <;> first|omega|decide),?_⟩);refine hK _ ?_
   refine zA ?_;refine yC rfl ?_;refine zC ?_;refine zE ?_;refine zJ (fun K hK=>?_);simp (disch:=omega) only [push_cast,↓Int.cast_ofNat_Int,simprocAttr];refine hK _ ?_
   refine zA ?_;refine zW ?_;refine zK ?_;simp only [yA,yM,yH,yE,aA,aC,yK,yJ,zS,zM,Nat.reduceEqDiff,reduceIte,reduceCtorEq];exact aL rfl
 rw [if_neg k1]
 skip
 refine qEd (fun _:Unit=>⟨[(8,.v (.int .i64 0)),(9,.own 152),(10,.own 176),(11,.own 200),(12,.ptr 96 2 0 0),(13,.ptr 104 2 0 0),(14,.ptr 112 2 0 0),(48,.v (.bool false))],[(96,.bx true 33 [.v (.int .i64 ka),.v (.string da)]),(104,.bx true 33 [.v (.int .i64 kh),.v (.string dh)]),(112,.bx true 33 [.v (.int .i64 ks),.v (.string ds)]),(152,Tr.rowE AA),(176,Tr.rowE HH),(200,Tr.rowE SS)]⟩) (fun _=>True) [8,9,10,11,12,13,14,48] [96,104,112,152,176,200] ?_ ?_
 ·by_cases k2:kh=1
  ·subst k2
   have k3:decide (ks=1)=false:=decide_eq_false fun z=>k1 ⟨rfl,z⟩
   refine zJ (fun K hK=>?_);simp (disch:=omega) only [push_cast,↓Int.cast_ofNat_Int,simprocAttr,k3];(repeat refine ⟨by first|omega|decide|((repeat' apply And.intro) <;> first|omega|decide),?_⟩);refine hK _ ?_
   exact ⟨(),by simp only [zZ,zR,zP,zQ,zN,zS,zM,zX,zU,Nat.reduceEqDiff,reduceIte];try rfl,trivial⟩
  ·have k3:decide (kh=1)=false:=decide_eq_false k2
   refine zJ (fun K hK=>?_);simp (disch:=omega) only [push_cast,↓Int.cast_ofNat_Int,simprocAttr,k3];(repeat refine ⟨by first|omega|decide|((repeat' apply And.intro) <;> first|omega|decide),?_⟩);refine hK _ ?_
   exact ⟨(),by simp only [zZ,zR,zP,zQ,zN,zS,zM,zX,zU,Nat.reduceEqDiff,reduceIte];try rfl,trivial⟩
 intro S' _ hE2 _;refine zA ?_;refine yB [8,9,10,11,12,13,14,48] [96,104,112,152,176,200] hE2 ?_;clear hE2;refine yC rfl ?_;refine zC ?_;refine zE ?_;refine zE ?_
 by_cases d2:HH=AA
 ·rw [if_pos d2];rw [decide_eq_true d2] at c2;refine zJ (fun K hK=>?_);simp (disch:=omega) only [push_cast,↓Int.cast_ofNat_Int,simprocAttr]
  refine aW qNz c2 (.cons (jK (yT _) rfl) (.cons (jK (yT _) rfl) .nil)) ?_;with_reducible refine aB ?_;simp (disch:=omega) only [push_cast,↓Int.cast_ofNat_Int,simprocAttr]
  refine hK _ ?_;refine zA ?_;refine yD rfl ?_;refine zE ?_;refine zJ (fun K hK=>?_);simp (disch:=omega) only [push_cast,↓Int.cast_ofNat_Int,simprocAttr];refine hK _ ?_
  refine zA ?_;refine zW ?_;refine zK ?_;simp only [yA,yM,yH,yE,aA,aC,yK,yJ,zS,zM,Nat.reduceEqDiff,reduceIte,reduceCtorEq];exact aL rfl
 rw [if_neg d2];rw [decide_eq_false d2] at c2;refine zJ (fun K hK=>?_);simp (disch:=omega) only [push_cast,↓Int.cast_ofNat_Int,simprocAttr]
 refine aW qNz c2 (.cons (jK (yT _) rfl) (.cons (jK (yT _) rfl) .nil)) ?_;with_reducible refine aB ?_;simp (disch:=omega) only [push_cast,↓Int.cast_ofNat_Int,simprocAttr]
 refine hK _ ?_;refine zA ?_;refine yC rfl ?_;refine zC ?_;refine zE ?_;refine zE ?_
 by_cases d3:SS=AA
 ·rw [if_pos d3];rw [decide_eq_true d3] at c3;refine zJ (fun K hK=>?_);simp (disch:=omega) only [push_cast,↓Int.cast_ofNat_Int,simprocAttr]
  refine aW qNz c3 (.cons (jK (yT _) rfl) (.cons (jK (yT _) rfl) .nil)) ?_;with_reducible refine aB ?_;simp (disch:=omega) only [push_cast,↓Int.cast_ofNat_Int,simprocAttr]
  refine hK _ ?_;refine zA ?_;refine yD rfl ?_;refine zE ?_;refine zJ (fun K hK=>?_);simp (disch:=omega) only [push_cast,↓Int.cast_ofNat_Int,simprocAttr];refine hK _ ?_
  refine zA ?_;refine zW ?_;refine zK ?_;simp only [yA,yM,yH,yE,aA,aC,yK,yJ,zS,zM,Nat.reduceEqDiff,reduceIte,reduceCtorEq];exact aL rfl
 rw [if_neg d3];rw [decide_eq_false d3] at c3;refine zJ (fun K hK=>?_);simp (disch:=omega) only [push_cast,↓Int.cast_ofNat_Int,simprocAttr]
 refine aW qNz c3 (.cons (jK (yT _) rfl) (.cons (jK (yT _) rfl) .nil)) ?_;with_reducible refine aB ?_;simp (disch:=omega) only [push_cast,↓Int.cast_ofNat_Int,simprocAttr]
 refine hK _ ?_;refine zA ?_;refine yC rfl ?_;refine zC ?_;refine zE ?_;refine yB [8,12,13,14] [96,104,112] (by simp only [zZ,zR,zP,zQ,zN,zS,zM,zX,zU,Nat.reduceEqDiff,reduceIte];exact rfl) ?_
 refine zJ (fun K hK=>?_);simp (disch:=omega) only [push_cast,↓Int.cast_ofNat_Int,simprocAttr]
 refine hat 496 zV3 cm (.cons (aR (ka,da)) (.cons (aR (kh,dh)) (.cons (aR (ks,ds)) .nil))) ?_;rintro _ _ ⟨rfl,rfl⟩;with_reducible refine aB ?_;simp (disch:=omega) only [push_cast,↓Int.cast_ofNat_Int,simprocAttr]
 refine hK _ ?_
 cases b with
|true =>
  refine zE ?_;refine zE ?_;refine zJ (fun K hK=>?_);simp (disch:=omega) only [push_cast,↓Int.cast_ofNat_Int,simprocAttr];refine hK _ ?_
  refine zA ?_;refine yD rfl ?_;refine zE ?_;refine zJ (fun K hK=>?_);simp (disch:=omega) only [push_cast,↓Int.cast_ofNat_Int,simprocAttr];refine hK _ ?_
  refine zA ?_;refine zW ?_;refine zK ?_;simp only [yA,yM,yH,yE,aA,aC,yK,yJ,zS,zM,Nat.reduceEqDiff,reduceIte,reduceCtorEq];exact aL rfl
|false =>
  refine zE ?_;refine zE ?_;refine zJ (fun K hK=>?_);simp (disch:=omega) only [push_cast,↓Int.cast_ofNat_Int,simprocAttr];refine hK _ ?_
  refine zA ?_;refine yC rfl ?_;refine zC ?_;refine zE ?_;refine zJ (fun K hK=>?_);simp (disch:=omega) only [push_cast,↓Int.cast_ofNat_Int,simprocAttr];refine hK _ ?_
  refine zA ?_;refine zW ?_;simp only [yA,yM,yH,yE,aA,aC,yK,yJ,zS,zM,Nat.reduceEqDiff,reduceIte,reduceCtorEq];exact aL rfl
set_option maxHeartbeats 8000000 in
theorem qXj {A H S:List Ent} (hA:TB A) (hH:TB H) (hS:TB S):HFun Tryz.prog 13 [.lst false (aQ A),.lst false (aQ H),.lst false (aQ S)] (fun h st=>h=.own 0∧st=[(0,.sl true 31 2 (itl (zHv mgR A H S)))]):=by
 refine eF (N:=65) Tryz.func13 rfl Tryz.ntmps13 Tryz.results13 (by simp) ?_
 have lA:=hA.len
 have lH:=hH.len
 have lS:=hS.len
 have cs:=zRo (A ++ H ++ S) (by rw [List.length_append,List.length_append];omega)
 have al:(qKy (A ++ H ++ S)).length=A.length + H.length + S.length:=by rw [(qEw (A ++ H ++ S)).length_eq,List.length_append,List.length_append]
 have asz:∀ e ∈ qKy (A ++ H ++ S),e.1.size≤1048576:=fun e he=>by
  have he:=(qEw (A ++ H ++ S)).mem_iff.1 he
  rcases List.mem_append.1 he with he|he
  ·rcases List.mem_append.1 he with he|he
   ·exact hA.sz e he
   ·exact hH.sz e he
  ·exact hS.sz e he
 unfold zHv;generalize qKy (A ++ H ++ S)=X at *
 obtain ⟨f,hf⟩:∃ f,zNc mgR A H S=f:=⟨_,rfl⟩;rw [hf];obtain ⟨g,hg⟩:∃ g:ByteArray→ByteArray × Int,(fun p=>(p,lZ mgR A H S p))=g:=⟨_,rfl⟩
 rw [hg];refine zE ?_;refine zJ (fun K hK=>?_);simp (disch:=omega) only [push_cast,↓Int.cast_ofNat_Int,simprocAttr];refine hK _ ?_
 refine zE ?_;refine zJ (fun K hK=>?_);simp (disch:=omega) only [push_cast,↓Int.cast_ofNat_Int,simprocAttr,yV,yU,qMp];refine hK _ ?_
 refine zE ?_;refine zJ (fun K hK=>?_);simp (disch:=omega) only [push_cast,↓Int.cast_ofNat_Int,simprocAttr]
 refine hat 160 zYl cs (.cons (jK (yT _) rfl) .nil) ?_;rintro _ _ ⟨rfl,rfl⟩;with_reducible refine aB ?_;simp (disch:=omega) only [push_cast,↓Int.cast_ofNat_Int,simprocAttr]
 refine hK _ ?_;refine zE ?_;refine zJ (fun K hK=>?_);simp (disch:=omega) only [push_cast,↓Int.cast_ofNat_Int,simprocAttr];refine hK _ ?_
 refine zE ?_;refine zE ?_;refine zJ (fun K hK=>?_);simp (disch:=omega) only [push_cast,↓Int.cast_ofNat_Int,simprocAttr];refine hK _ ?_
 refine zA ?_;refine zD ?_;refine qE 8 9000 31 2 rfl (by simp only [oK,tJ,tK,gQ,fN,gG,fF,kG,gN,jD,gM,gK,iQ,gP,gJ,fM,iL,iN,iM,kF,kP,jC,Nat.reduceBEq,Nat.reduceEqDiff,reduceIte,cond_true,cond_false,List.map_cons,List.map_nil];exact rfl) ?_
 refine bR (fun x:Nat × LN=>⟨[(0,.lst false (aQ A)),(1,.lst false (aQ H)),(2,.lst false (aQ S)),(7,.own 160),(8,.own 9000),(9,.v (.int .i64 (x.1:Int)))],[(9000,.sl true 31 2 (itl x.2)),(160,Tr.rowE X)]⟩) (fun x=>x.1≤X.length∧x.2.length≤x.1∧x.2 ++ (qBx f (xQ X x.1) (X.drop x.1)).map g=(qBx f none X).map g) (fun x=>X.length - x.1) [0,1,2,7,8,9] [9000,160] (0,[]) (by simp only [zZ,zR,zP,zQ,zN,zS,zM,zX,zU,Nat.reduceEqDiff,reduceIte];try rfl) ⟨Nat.zero_le _,Nat.le_refl _,rfl⟩ ?_
 rintro ⟨i,out⟩ ⟨hi,hol,ho⟩;dsimp only at hi hol ho ⊢
 by_cases hlt:i < X.length
 ·rw [List.drop_eq_getElem_cons hlt,qBx] at ho
  have hnx:=qTx hlt
  have hxs:=asz _ (List.getElem_mem hlt)
  have co:=zU8 hH hS _ X[i].1 (Nat.le_refl _) hxs
  have cd:=zRs hA hH hS X[i].1 hxs
  have hsg:=zDh mgR A H S X[i].1
  have hfx:f X[i].1=(opn H S X[i].1 && !decide (lZ mgR A H S X[i].1=0)):=by rw [← hf];rfl
  have hgx:g X[i].1=(X[i].1,lZ mgR A H S X[i].1):=by rw [← hg]
  generalize opn H S X[i].1=o at co hfx;generalize lZ mgR A H S X[i].1=n at cd hfx hgx hsg
  have hk0:∀ (m:Nat),(m:Int) + 1 - 1=m:=fun m=>by omega
  refine zE ?_;refine zE ?_;refine zJ (fun K hK=>?_);simp (disch:=omega) only [push_cast,↓Int.cast_ofNat_Int,simprocAttr,yV];refine hK _ ?_
  refine zA ?_;refine yD rfl ?_;refine zC ?_;refine zE ?_;refine zD ?_;refine zE ?_;refine zJ (fun K hK=>?_);simp (disch:=omega) only [push_cast,↓Int.cast_ofNat_Int,simprocAttr,yV,yU,yW hlt];refine hK _ ?_
  refine zE ?_;refine zE ?_;refine qEd (fun _:Unit=>⟨[(0,.lst false (aQ A)),(1,.lst false (aQ H)),(2,.lst false (aQ S)),(7,.own 160),(8,.own 9000),(9,.v (.int .i64 (i:Int))),(10,.v (.string X[i].1)),(50,.v (.bool (!decide (xQ X i≠some X[i].1∧o=true))))],[(9000,.sl true 31 2 (itl out)),(160,Tr.rowE X)]⟩) (fun _=>True) [0,1,2,7,8,9,10,50] [9000,160] ?_ ?_
  ·rcases Nat.eq_zero_or_pos i with rfl|hpos
   ·have hq:(!decide (xQ X 0≠some X[0].1∧o=true))=!o:=by cases o <;> simp [xQ]
    rw [hq];refine zJ (fun K hK=>?_);simp (disch:=omega) only [push_cast,↓Int.cast_ofNat_Int,simprocAttr,yV,yU,yW hlt,hk0]
    refine aW zGk co (.cons (aH (yT _)) (.cons (aH (yT _)) (.cons (.v _) .nil))) ?_;with_reducible refine aB ?_;simp (disch:=omega) only [push_cast,↓Int.cast_ofNat_Int,simprocAttr]
    refine hK _ ?_;exact ⟨(),by simp only [zZ,zR,zP,zQ,zN,zS,zM,zX,zU,Nat.reduceEqDiff,reduceIte];try rfl,trivial⟩
   ·obtain ⟨m,rfl⟩:∃ m,i=m + 1:=⟨i - 1,by omega⟩
    have hm:m < X.length:=by omega
    have hpm:xQ X (m + 1)=some X[m].1:=qTx hm
    by_cases hq:X[m].1=X[m + 1].1
    ·have hqd:decide (X[m].1=X[m + 1].1)=true:=decide_eq_true hq
     have hq2:(!decide (xQ X (m + 1)≠some X[m + 1].1∧o=true))=true:=by rw [hpm,hq];simp
     rw [hq2];refine zJ (fun K hK=>?_);simp (disch:=omega) only [push_cast,↓Int.cast_ofNat_Int,simprocAttr,yV,yU,yW hlt,hk0,yW hm,hqd];refine hK _ ?_
     exact ⟨(),by simp only [zZ,zR,zP,zQ,zN,zS,zM,zX,zU,Nat.reduceEqDiff,reduceIte];try rfl,trivial⟩
    ·have hqd:decide (X[m].1=X[m + 1].1)=false:=decide_eq_false hq
     have hq2:(!decide (xQ X (m + 1)≠some X[m + 1].1∧o=true))=!o:=by rw [hpm];cases o <;> simp [hq]
     rw [hq2];refine zJ (fun K hK=>?_);simp (disch:=omega) only [push_cast,↓Int.cast_ofNat_Int,simprocAttr,yV,yU,yW hlt,hk0,yW hm,hqd]
     refine aW zGk co (.cons (aH (yT _)) (.cons (aH (yT _)) (.cons (.v _) .nil))) ?_;with_reducible refine aB ?_;simp (disch:=omega) only [push_cast,↓Int.cast_ofNat_Int,simprocAttr]
     refine hK _ ?_;exact ⟨(),by simp only [zZ,zR,zP,zQ,zN,zS,zM,zX,zU,Nat.reduceEqDiff,reduceIte];try rfl,trivial⟩
  intro S' _ hE2 _;refine zA ?_;refine yB [0,1,2,7,8,9,10,50] [9000,160] hE2 ?_;clear hE2
  by_cases hc:xQ X i≠some X[i].1∧o=true
  ·rw [decide_eq_true hc];refine yC rfl ?_;refine zC ?_;refine zE ?_;refine zJ (fun K hK=>?_);simp (disch:=omega) only [push_cast,↓Int.cast_ofNat_Int,simprocAttr]
   refine aW zYk cd (.cons (aH (yT _)) (.cons (aH (yT _)) (.cons (aH (yT _)) (.cons (.v _) .nil)))) ?_;with_reducible refine aB ?_;simp (disch:=omega) only [push_cast,↓Int.cast_ofNat_Int,simprocAttr]
   refine hK _ ?_
   by_cases hn:n=0
   ·have hcc:¬ (xQ X i≠some X[i].1∧f X[i].1=true):=fun h=>by rw [hfx,hn] at h;simp at h
    rw [if_neg hcc] at ho
    have dn:decide (0 < n)=false:=decide_eq_false (by omega)
    refine zE ?_;refine zJ (fun K hK=>?_);simp (disch:=omega) only [push_cast,↓Int.cast_ofNat_Int,simprocAttr,dn];(repeat refine ⟨by first|omega|decide|((repeat' apply And.intro) <;> first|omega|decide),?_⟩);refine hK _ ?_
    refine zA ?_;refine yC rfl ?_;refine zC ?_;refine zB ?_;refine zA ?_;refine zJ (fun K hK=>?_);simp (disch:=omega) only [push_cast,↓Int.cast_ofNat_Int,simprocAttr];refine hK _ ?_
    refine zA ?_;refine ⟨(i + 1,out),by simp only [zZ,zR,zP,zQ,zN,zS,zM,zX,zU,Nat.reduceEqDiff,reduceIte];try rfl,⟨hlt,by dsimp only;omega,?_⟩,by dsimp only;omega⟩
    dsimp only;rw [hnx];exact ho
   ·have hcc:xQ X i≠some X[i].1∧f X[i].1=true:=⟨hc.1,by rw [hfx,hc.2,decide_eq_false hn];rfl⟩
    rw [if_pos hcc,List.map_cons,hgx] at ho
    have dn:decide (0 < n)=true:=decide_eq_true (by omega)
    have e2:itl out ++ [[FV.v (.string X[i].1),.v (.int .i64 n)]]=itl (out ++ [(X[i].1,n)]):=qUo out _ _
    refine zE ?_;refine zJ (fun K hK=>?_);simp (disch:=omega) only [push_cast,↓Int.cast_ofNat_Int,simprocAttr,dn];(repeat refine ⟨by first|omega|decide|((repeat' apply And.intro) <;> first|omega|decide),?_⟩);refine hK _ ?_
    refine zA ?_;refine yD rfl ?_;refine zJ (fun K hK=>?_);simp (disch:=omega) only [push_cast,↓Int.cast_ofNat_Int,simprocAttr,qC,qDt,e2];(repeat refine ⟨by first|omega|decide|((repeat' apply And.intro) <;> first|omega|decide),?_⟩);refine hK _ ?_
    refine zB ?_;refine zA ?_;refine zJ (fun K hK=>?_);simp (disch:=omega) only [push_cast,↓Int.cast_ofNat_Int,simprocAttr];refine hK _ ?_
    refine zA ?_;refine ⟨(i + 1,out ++ [(X[i].1,n)]),by simp only [zZ,zR,zP,zQ,zN,zS,zM,zX,zU,Nat.reduceEqDiff,reduceIte];try rfl,⟨hlt,by dsimp only;simp;omega,?_⟩,by dsimp only;omega⟩
    dsimp only;rw [hnx,← ho];simp
  ·rw [decide_eq_false hc];refine yD rfl ?_
   have hcc:¬ (xQ X i≠some X[i].1∧f X[i].1=true):=fun h=>hc ⟨h.1,by have:=h.2;rw [hfx] at this;simp only [Bool.and_eq_true] at this;exact this.1⟩
   rw [if_neg hcc] at ho;refine zT ?_;refine zG ?_;refine zH ?_;refine zA ?_;refine zJ (fun K hK=>?_);simp (disch:=omega) only [push_cast,↓Int.cast_ofNat_Int,simprocAttr];refine hK _ ?_
   refine zA ?_;refine ⟨(i + 1,out),by simp only [zZ,zR,zP,zQ,zN,zS,zM,zX,zU,Nat.reduceEqDiff,reduceIte];try rfl,⟨hlt,by dsimp only;omega,?_⟩,by dsimp only;omega⟩
   dsimp only;rw [hnx];exact ho
 ·rw [List.drop_of_length_le (by omega),qBx,List.map_nil,List.append_nil] at ho
  rw [ho];refine zE ?_;refine zE ?_;refine zJ (fun K hK=>?_);simp (disch:=omega) only [push_cast,↓Int.cast_ofNat_Int,simprocAttr,yV];refine hK _ ?_
  refine zA ?_;refine yC rfl ?_;refine zT ?_;refine zG ?_;refine zG ?_;refine zH ?_;refine zE ?_;refine zJ (fun K hK=>?_);simp (disch:=omega) only [push_cast,↓Int.cast_ofNat_Int,simprocAttr];refine hK _ ?_
  refine zA ?_;refine zW ?_;simp only [yA,yM,yH,yE,aA,aC,yK,yJ,zS,zM,Nat.reduceEqDiff,reduceIte,reduceCtorEq];exact lW rfl (qP4 _) ⟨rfl,rfl⟩
end Go.Proofs.YtdfjeokjmigkaaaGreat
