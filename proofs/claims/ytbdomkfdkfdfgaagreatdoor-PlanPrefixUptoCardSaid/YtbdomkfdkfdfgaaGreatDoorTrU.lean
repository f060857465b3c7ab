/-
  Plain: where two trees differ.
-/
import Derived.Test.YtbdomkfdkfdfgaaGreatDoorTrL
import Derived.Test.YtbdomkfdkfdfgaaGreatDoorTrC
set_option linter.unusedSimpArgs false
set_option linter.unusedVariables false
section
set_option maxRecDepth 20000
namespace Go.Tr
open Go
def atE (t:List Ent) (i:Nat):Ent:=t.getD i (ByteArray.empty,0,ByteArray.empty)
theorem kW {t:List Ent} {i:Nat} (h:i < t.length):atE t i=t[i]:=by simp [atE,List.getD_eq_getElem?_getD,h]
def qAz (t:List Ent) (i:Nat):Bool:=pOk (atE t i).1 5 && (fY (atE t i).2 && (!decide ((atE t i).2.1=0) && (decide (i=0) || blt (atE t (i - 1)).1 (atE t i).1)))
def qE2 (u:List Ent) (e:Ent):Bool:=decide (par e.1={ data:=#[] }) || decide ((aN u (par e.1)).1=1)
def qAo (t:List Ent) (i:Nat):Bool:=qAz t i && qE2 t (atE t i)
def qDy (t:List Ent) (i:Nat):Bool:=qAz t i && qE2 (t.take i) (atE t i)
def okR (t:List Ent):Bool:=(List.range t.length).all (qAo t)
def zPt (t:List Ent):Bool:=(List.range t.length).all (qDy t)
def dD (t:List Ent):Int:=if 200 < t.length then 4 else bif okR t then 0 else 3
theorem kN {n:Nat} {f:Nat→Bool}:(List.range n).all f=true↔∀ i,i < n→f i=true:=by simp [List.all_eq_true]
theorem qKf {n i:Nat} {f:Nat→Bool} (hi:i < n) (h:f i=false):(List.range n).all f=false:=by
 rw [Bool.eq_false_iff];intro ha;rw [kN.1 ha i hi] at h;cases h
theorem zHj {t:List Ent} (h:∀ i,0 < i→(hi:i < t.length)→blt (t[i - 1]'(by omega)).1 t[i].1=true):rise t:=by
 refine List.pairwise_iff_getElem.2 ?_
 have:∀ (d i:Nat) (h1:i + d + 1 < t.length),blt (t[i]'(by omega)).1 (t[i + d + 1]'h1).1=true:=by
  intro d
  induction d with
 |zero=>intro i h1;exact h (i + 1) (by omega) h1
 |succ d ih =>
   intro i h1
   have a:=ih i (by omega)
   have b:=h (i + d + 1 + 1) (by omega) h1
   exact kK a b
 intro i j hi hj hij
 have:=this (j - i - 1) i (by omega)
 simpa [show i + (j - i - 1) + 1=j by omega] using this
theorem zKa {t:List Ent} {i:Nat} (h:qAz t i=true) (h0:0 < i) (hi:i < t.length):blt (t[i - 1]'(by omega)).1 t[i].1=true:=by
 simp only [qAz,Bool.and_eq_true,Bool.or_eq_true,decide_eq_true_eq] at h
 rcases h.2.2.2 with h|h
 ·omega
 ·rwa [kW hi,kW (by omega)] at h
theorem qG2 {t:List Ent} {i:Nat} (h:∀ j,j < i→qAz t j=true) (hi:i≤t.length):rise (t.take i):=zHj fun j h0 hj=>by
 rw [List.length_take] at hj
 have:=zKa (h j (by omega)) h0 (by omega)
 simpa using this
theorem zPk {t:List Ent} {i:Nat} (h:qAz t i=true) (hi:i < t.length):t[i].1≠ByteArray.empty:=by
 simp only [qAz,Bool.and_eq_true] at h;rw [kW hi] at h;exact qHb h.1
theorem zH7 {t:List Ent} (h:rise t) {i:Nat} (hi:i < t.length) {q:ByteArray} (hq:blt q t[i].1=true):aN t q=aN (t.take i) q:=by
 have hd:t=t.take i ++ t.drop i:=(List.take_append_drop i t).symm
 have hn:((t.drop i).find? fun e=>decide (e.1=q))=none:=by
  rw [List.find?_eq_none];intro e he;obtain ⟨k,hk,rfl⟩:=List.getElem_of_mem he;rw [List.length_drop] at hk;rw [List.getElem_drop,decide_eq_true_iff];intro e
  rcases Nat.eq_zero_or_pos k with rfl|hp
  ·simp only [Nat.add_zero] at e;rw [e,fD] at hq;cases hq
  ·have:=mX h (i:=i) (j:=i + k) (by omega) (by omega)
   rw [e] at this;rw [kL this] at hq;cases hq
 unfold aN
 conv=>lhs;rw [hd,List.find?_append,hn]
 simp
theorem zHi {t:List Ent} (h:rise t) {i:Nat} (hi:i < t.length) (hn:t[i].1≠ByteArray.empty):qE2 t (atE t i)=qE2 (t.take i) (atE t i):=by
 rw [qE2,qE2,kW hi,zH7 h hi (zEb hn)]
theorem zVa (t:List Ent):zPt t=okR t:=by
 rw [Bool.eq_iff_iff,zPt,okR,kN,kN]
 have key:(∀ i,i < t.length→qAz t i=true)→∀ i,i < t.length→qDy t i=qAo t i:=fun ha i hi=>by
  have hr:=qG2 ha (Nat.le_refl _)
  rw [List.take_length] at hr;rw [qDy,qAo,zHi hr hi (zPk (ha i hi) hi)]
 constructor
 ·intro h
  have ha:∀ i,i < t.length→qAz t i=true:=fun i hi=>by
   have:=h i hi;simp only [qDy,Bool.and_eq_true] at this;exact this.1
  exact fun i hi=>by rw [← key ha i hi];exact h i hi
 ·intro h
  have ha:∀ i,i < t.length→qAz t i=true:=fun i hi=>by
   have:=h i hi;simp only [qAo,Bool.and_eq_true] at this;exact this.1
  exact fun i hi=>by rw [key ha i hi];exact h i hi
theorem qFl {t:List Ent} (h:okR t=true):rise t:=by
 have:=qG2 (t:=t) (i:=t.length) (fun j hj=>by
  have:=kN.1 h j hj;simp only [qAo,Bool.and_eq_true] at this;exact this.1) (Nat.le_refl _)
 rwa [List.take_length] at this
theorem xF {t:List Ent} (h:dD t=0):t.length≤200∧okR t=true:=by
 unfold dD at h;split at h
 ·cases h
 ·refine ⟨by omega,?_⟩
  cases e:okR t
  ·rw [e] at h;cases h
  ·rfl
end Go.Tr
namespace Go.Proofs.YtbdomkfdkfdfgaaGreatDoor
open Go Go.Eng Go.RowKit Go.Tr
theorem qXu:okN true=0:=rfl
theorem qXv:okN false=10:=rfl
set_option maxHeartbeats 8000000 in
theorem qE8 (t:List Ent) (hl:t.length≤140737488355328) (hs:∀ e ∈ t,e.1.size≤1048576):HFun Tryz.prog 17 [.lst false (aG t)] (fun h st=>h=.v (.int .i64 (dD t))):=by
 refine eX (N:=66) Tryz.func17 rfl Tryz.ntmps17 Tryz.results17 (by simp) ?_
 unfold dD;refine zE ?_;refine zJ (fun K hK=>?_);simp (disch:=omega) only [push_cast,↓Int.cast_ofNat_Int,simprocAttr];refine hK _ ?_;clear hK K
 by_cases h200:200 < t.length
 ·rw [if_pos h200];refine zE ?_;refine zE ?_;refine zJ (fun K hK=>?_);simp (disch:=omega) only [push_cast,↓Int.cast_ofNat_Int,simprocAttr,yV];refine hK _ ?_;clear hK K
  refine yD rfl ?_;refine zE ?_;refine zJ (fun K hK=>?_);simp (disch:=omega) only [push_cast,↓Int.cast_ofNat_Int,simprocAttr];refine hK _ ?_;clear hK K
  refine zA ?_;refine zW ?_;refine zK ?_;simp only [yA,yM,yH,yE,aA,aC,yK,yJ,zS,zM,Nat.reduceEqDiff,reduceIte,reduceCtorEq];exact aJ rfl
 rw [if_neg h200];refine zE ?_;refine zE ?_;refine zJ (fun K hK=>?_);simp (disch:=omega) only [push_cast,↓Int.cast_ofNat_Int,simprocAttr,yV];refine hK _ ?_;clear hK K
 refine yC rfl ?_;refine zC ?_;refine zE ?_;refine zE ?_;refine zJ (fun K hK=>?_);simp (disch:=omega) only [push_cast,↓Int.cast_ofNat_Int,simprocAttr];refine hK _ ?_;clear hK K
 refine zA ?_;refine zD ?_;refine cP (fun i:Nat=>⟨[(0,.lst false (aG t)),(3,.v (.int .i64 i))],[]⟩) (fun i=>i≤t.length∧∀ j,j < i→qAo t j=true) (fun i=>t.length - i) [0,3] [] 0 rfl ⟨Nat.zero_le _,fun j h=>by omega⟩ ?_
 rintro i ⟨hi,ha⟩
 by_cases hlt:i < t.length
 ·have hsz:=hs _ (List.getElem_mem hlt)
  have bad:qAo t i=false→okR t=false:=fun h=>qKf hlt h
  have c34:HFun Tryz.prog 37 [.v (.string t[i].1),.v (.int .i64 5)] (fun h st=>h=.v (.int .i64 (okN (pOk t[i].1 5)))):=qSb t[i].1 5 hsz (by omega)
  have c18:=qW7 t[i].2
  have hA:qAz t i=(pOk t[i].1 5 && (fY t[i].2 && (!decide (t[i].2.1=0) && (decide (i=0) || blt (atE t (i - 1)).1 t[i].1)))):=by rw [qAz,kW hlt]
  refine zE ?_;refine zE ?_;refine zJ (fun K hK=>?_);simp (disch:=omega) only [push_cast,↓Int.cast_ofNat_Int,simprocAttr,yV];refine hK _ ?_;clear hK K
  refine zA ?_;refine yD rfl ?_;refine zC ?_;refine zE ?_;refine zD ?_;refine zE ?_;refine zJ (fun K hK=>?_);simp (disch:=omega) only [push_cast,↓Int.cast_ofNat_Int,simprocAttr,yV,yU,yW hlt];refine hK _ ?_;clear hK K
  have hk0:∀ (m:Nat),(m:Int) + 1 - 1=m:=fun m=>by omega
  cases hp:pOk t[i].1 5 with
 |false =>
   rw [bad (by rw [qAo,hA,hp];rfl)]
   rw [hp,qXv] at c34;refine zE ?_;refine zE ?_;refine zJ (fun K hK=>?_);simp (disch:=omega) only [push_cast,↓Int.cast_ofNat_Int,simprocAttr]
   refine bE zAk c34 (.cons (.v _) (.cons (.v _) .nil)) ?_;with_reducible refine aB ?_;simp (disch:=omega) only [push_cast,↓Int.cast_ofNat_Int,simprocAttr]
   refine hK _ ?_;clear hK K;refine zA ?_;refine yD rfl ?_;refine zE ?_;refine zJ (fun K hK=>?_);simp (disch:=omega) only [push_cast,↓Int.cast_ofNat_Int,simprocAttr];refine hK _ ?_;clear hK K
   refine zA ?_;refine zW ?_;refine zK ?_;refine zL ?_;refine zK ?_;refine zK ?_;refine zL ?_;refine zK ?_;simp only [yA,yM,yH,yE,aA,aC,yK,yJ,zS,zM,Nat.reduceEqDiff,reduceIte,reduceCtorEq];exact aJ rfl
 |true =>
  rw [hp,qXu] at c34
  cases hw:fY t[i].2 with
 |false =>
   rw [bad (by rw [qAo,hA,hp,hw];rfl)]
   rw [hw] at c18;refine zE ?_;refine zE ?_;refine zJ (fun K hK=>?_);simp (disch:=omega) only [push_cast,↓Int.cast_ofNat_Int,simprocAttr]
   refine bE zAk c34 (.cons (.v _) (.cons (.v _) .nil)) ?_;with_reducible refine aB ?_;simp (disch:=omega) only [push_cast,↓Int.cast_ofNat_Int,simprocAttr,yV,yU,yW hlt]
   refine bE zCt c18 (.cons (dE (n:=t[i].2)) .nil) ?_;with_reducible refine aB ?_;simp (disch:=omega) only [push_cast,↓Int.cast_ofNat_Int,simprocAttr]
   refine hK _ ?_;clear hK K;refine zA ?_;refine yD rfl ?_;refine zE ?_;refine zJ (fun K hK=>?_);simp (disch:=omega) only [push_cast,↓Int.cast_ofNat_Int,simprocAttr];refine hK _ ?_;clear hK K
   refine zA ?_;refine zW ?_;refine zK ?_;refine zL ?_;refine zK ?_;refine zK ?_;refine zL ?_;refine zK ?_;simp only [yA,yM,yH,yE,aA,aC,yK,yJ,zS,zM,Nat.reduceEqDiff,reduceIte,reduceCtorEq];exact aJ rfl
 |true =>
  rw [hw] at c18
  by_cases hk:t[i].2.1=0
  ·have hkd:decide (t[i].2.1=0)=true:=decide_eq_true hk
   rw [bad (by rw [qAo,hA,hp,hw,hkd];rfl)]
   refine zE ?_;refine zE ?_;refine zJ (fun K hK=>?_);simp (disch:=omega) only [push_cast,↓Int.cast_ofNat_Int,simprocAttr]
   refine bE zAk c34 (.cons (.v _) (.cons (.v _) .nil)) ?_;with_reducible refine aB ?_;simp (disch:=omega) only [push_cast,↓Int.cast_ofNat_Int,simprocAttr,yV,yU,yW hlt]
   refine bE zCt c18 (.cons (dE (n:=t[i].2)) .nil) ?_;with_reducible refine aB ?_;simp (disch:=omega) only [push_cast,↓Int.cast_ofNat_Int,simprocAttr,yV,yU,yW hlt]
   refine hK _ ?_;clear hK K;refine zA ?_;refine yD rfl ?_;refine zE ?_;refine zJ (fun K hK=>?_);simp (disch:=omega) only [push_cast,↓Int.cast_ofNat_Int,simprocAttr];refine hK _ ?_;clear hK K
   refine zA ?_;refine zW ?_;refine zK ?_;refine zL ?_;refine zK ?_;refine zK ?_;refine zL ?_;refine zK ?_;simp only [yA,yM,yH,yE,aA,aC,yK,yJ,zS,zM,Nat.reduceEqDiff,reduceIte,reduceCtorEq];exact aJ rfl
  have hkd:decide (t[i].2.1=0)=false:=decide_eq_false hk
  rw [hp,hw,hkd] at hA;simp only [Bool.true_and,Bool.not_false] at hA
  cases hpv:(decide (i=0) || blt (atE t (i - 1)).1 t[i].1) with
 |false =>
   rw [bad (by rw [qAo,hA,hpv];rfl)]
   simp only [Bool.or_eq_false_iff,decide_eq_false_iff_not] at hpv;obtain ⟨m,rfl⟩:∃ m,i=m + 1:=⟨i - 1,by omega⟩
   have hm:m < t.length:=by omega
   have hb:Op.bytesLess t[m].1.toList t[m + 1].1.toList=false:=by
    have:=hpv.2
    rw [Nat.add_sub_cancel,kW hm] at this;exact this
   refine zE ?_;refine zE ?_;refine zJ (fun K hK=>?_);simp (disch:=omega) only [push_cast,↓Int.cast_ofNat_Int,simprocAttr,hk0]
   refine bE zAk c34 (.cons (.v _) (.cons (.v _) .nil)) ?_;with_reducible refine aB ?_;simp (disch:=omega) only [push_cast,↓Int.cast_ofNat_Int,simprocAttr,yV,yU,yW hlt,hk0]
   refine bE zCt c18 (.cons (dE (n:=t[m + 1].2)) .nil) ?_;with_reducible refine aB ?_;simp (disch:=omega) only [push_cast,↓Int.cast_ofNat_Int,simprocAttr,yV,yU,yW hlt,hk0,yW hm,hb]
   refine hK _ ?_;clear hK K;refine zA ?_;refine yD rfl ?_;refine zE ?_;refine zJ (fun K hK=>?_);simp (disch:=omega) only [push_cast,↓Int.cast_ofNat_Int,simprocAttr];refine hK _ ?_;clear hK K
   refine zA ?_;refine zW ?_;refine zK ?_;refine zL ?_;refine zK ?_;refine zK ?_;refine zL ?_;refine zK ?_;simp only [yA,yM,yH,yE,aA,aC,yK,yJ,zS,zM,Nat.reduceEqDiff,reduceIte,reduceCtorEq];exact aJ rfl
 |true =>
  rw [hpv] at hA;refine zE ?_;refine zE ?_;refine uU (fun _:Unit=>⟨[(0,.lst false (aG t)),(3,.v (.int .i64 i)),(4,.v (.string t[i].1)),(54,.v (.bool false))],[]⟩) (fun _=>True) [0,3,4,54] [] ?_ ?_
  ·rcases Nat.eq_zero_or_pos i with rfl|hpos
   ·refine zJ (fun K hK=>?_);simp (disch:=omega) only [push_cast,↓Int.cast_ofNat_Int,simprocAttr,hk0]
    refine bE zAk c34 (.cons (.v _) (.cons (.v _) .nil)) ?_;with_reducible refine aB ?_;simp (disch:=omega) only [push_cast,↓Int.cast_ofNat_Int,simprocAttr,yV,yU,yW hlt,hk0]
    refine bE zCt c18 (.cons (dE (n:=t[0].2)) .nil) ?_;with_reducible refine aB ?_;simp (disch:=omega) only [push_cast,↓Int.cast_ofNat_Int,simprocAttr,yV,yU,yW hlt,hk0]
    refine hK _ ?_;clear hK K;exact ⟨(),by simp only [zZ,zR,zP,zQ,zN,zS,zM,zX,zU,Nat.reduceEqDiff,reduceIte];rfl,trivial⟩
   ·obtain ⟨m,rfl⟩:∃ m,i=m + 1:=⟨i - 1,by omega⟩
    have hm:m < t.length:=by omega
    have hb:Op.bytesLess t[m].1.toList t[m + 1].1.toList=true:=by
     simp only [Bool.or_eq_true,decide_eq_true_eq] at hpv
     rcases hpv with h|h
     ·omega
     ·rw [Nat.add_sub_cancel,kW hm] at h;exact h
    refine zJ (fun K hK=>?_);simp (disch:=omega) only [push_cast,↓Int.cast_ofNat_Int,simprocAttr,hk0]
    refine bE zAk c34 (.cons (.v _) (.cons (.v _) .nil)) ?_;with_reducible refine aB ?_;simp (disch:=omega) only [push_cast,↓Int.cast_ofNat_Int,simprocAttr,yV,yU,yW hlt,hk0]
    refine bE zCt c18 (.cons (dE (n:=t[m + 1].2)) .nil) ?_;with_reducible refine aB ?_;simp (disch:=omega) only [push_cast,↓Int.cast_ofNat_Int,simprocAttr,yV,yU,yW hlt,hk0,yW hm,hb]
    refine hK _ ?_;clear hK K;exact ⟨(),by simp only [zZ,zR,zP,zQ,zN,zS,zM,zX,zU,Nat.reduceEqDiff,reduceIte];rfl,trivial⟩
  intro S' _ hE _;refine zA ?_;refine yB [0,3,4,54] [] hE ?_;clear hE;refine yC rfl ?_;refine zC ?_;refine zE ?_
  have cp:=qSc t[i].1 hsz
  have cg:=qA1 t (par t[i].1) hl
  have hP:qE2 t (atE t i)=(decide (par t[i].1={ data:=#[] }) || decide ((aN t (par t[i].1)).1=1)):=by rw [qE2,kW hlt]
  have hR:qAo t i=qE2 t (atE t i):=by rw [qAo,hA,Bool.true_and]
  cases he:decide (par t[i].1={ data:=#[] }) with
 |true =>
   have hgood:qAo t i=true:=by rw [hR,hP,he];rfl
   refine zJ (fun K hK=>?_);simp (disch:=omega) only [push_cast,↓Int.cast_ofNat_Int,simprocAttr]
   refine bE zJh cp (.cons (.v _) .nil) ?_;with_reducible refine aB ?_;simp (disch:=omega) only [push_cast,↓Int.cast_ofNat_Int,simprocAttr,he]
   refine hK _ ?_;clear hK K;refine yC rfl ?_;refine zC ?_;refine zB ?_;refine zA ?_;refine zJ (fun K hK=>?_);simp (disch:=omega) only [push_cast,↓Int.cast_ofNat_Int,simprocAttr];refine hK _ ?_;clear hK K
   refine zA ?_;exact ⟨i + 1,rfl,⟨hlt,fun j hj=>if h:j=i then h ▸ hgood else ha j (by omega)⟩,by omega⟩
 |false =>
   have hk1:∀ b,decide ((aN t (par t[i].1)).1=1)=b→qAo t i=b:=fun b hb=>by rw [hR,hP,he,hb];rfl
   generalize hg:aN t (par t[i].1)=n at cg hk1;obtain ⟨k,d⟩:=n;dsimp only at hk1
   by_cases hk1':k=1
   ·have hgood:=hk1 true (decide_eq_true hk1')
    refine zJ (fun K hK=>?_);simp (disch:=omega) only [push_cast,↓Int.cast_ofNat_Int,simprocAttr]
    refine bE zJh cp (.cons (.v _) .nil) ?_;with_reducible refine aB ?_;simp (disch:=omega) only [push_cast,↓Int.cast_ofNat_Int,simprocAttr,he]
    refine bE zJh cp (.cons (.v _) .nil) ?_;with_reducible refine aB ?_;simp (disch:=omega) only [push_cast,↓Int.cast_ofNat_Int,simprocAttr,he]
    refine hat 496 qKk cg (.cons (aL (yT _)) (.cons (.v _) .nil)) ?_;rintro _ _ ⟨rfl,rfl⟩;with_reducible refine aB ?_;simp (disch:=omega) only [push_cast,↓Int.cast_ofNat_Int,simprocAttr,he]
    refine hK _ ?_;clear hK K;refine yC rfl ?_;refine zC ?_;refine zB ?_;refine zA ?_;refine zJ (fun K hK=>?_);simp (disch:=omega) only [push_cast,↓Int.cast_ofNat_Int,simprocAttr];refine hK _ ?_;clear hK K
    refine zA ?_;exact ⟨i + 1,rfl,⟨hlt,fun j hj=>if h:j=i then h ▸ hgood else ha j (by omega)⟩,by omega⟩
   ·rw [bad (hk1 false (decide_eq_false hk1'))];refine zJ (fun K hK=>?_);simp (disch:=omega) only [push_cast,↓Int.cast_ofNat_Int,simprocAttr]
    refine bE zJh cp (.cons (.v _) .nil) ?_;with_reducible refine aB ?_;simp (disch:=omega) only [push_cast,↓Int.cast_ofNat_Int,simprocAttr,he]
    refine bE zJh cp (.cons (.v _) .nil) ?_;with_reducible refine aB ?_;simp (disch:=omega) only [push_cast,↓Int.cast_ofNat_Int,simprocAttr,he]
    refine hat 496 qKk cg (.cons (aL (yT _)) (.cons (.v _) .nil)) ?_;rintro _ _ ⟨rfl,rfl⟩;with_reducible refine aB ?_;simp (disch:=omega) only [push_cast,↓Int.cast_ofNat_Int,simprocAttr,he]
    refine hK _ ?_;clear hK K;refine yD rfl ?_;refine zE ?_;refine zJ (fun K hK=>?_);simp (disch:=omega) only [push_cast,↓Int.cast_ofNat_Int,simprocAttr];refine hK _ ?_;clear hK K
    refine zA ?_;refine zW ?_;refine zL ?_;refine zK ?_;refine zK ?_;refine zL ?_;refine zK ?_;simp only [yA,yM,yH,yE,aA,aC,yK,yJ,zS,zM,Nat.reduceEqDiff,reduceIte,reduceCtorEq];exact aJ rfl
 ·have hne:i=t.length:=by omega
  subst hne
  have hok:okR t=true:=kN.2 ha
  rw [hok];refine zE ?_;refine zE ?_;refine zJ (fun K hK=>?_);simp (disch:=omega) only [push_cast,↓Int.cast_ofNat_Int,simprocAttr,yV];refine hK _ ?_;clear hK K
  refine zA ?_;refine yC rfl ?_;refine zT ?_;refine zG ?_;refine zG ?_;refine zH ?_;refine zE ?_;refine zJ (fun K hK=>?_);simp (disch:=omega) only [push_cast,↓Int.cast_ofNat_Int,simprocAttr];refine hK _ ?_;clear hK K
  refine zA ?_;refine zW ?_;simp only [yA,yM,yH,yE,aA,aC,yK,yJ,zS,zM,Nat.reduceEqDiff,reduceIte,reduceCtorEq];exact aJ rfl
end Go.Proofs.YtbdomkfdkfdfgaaGreatDoor
end
section
namespace Go.Tr
open Go
def iS:List Ent→List Ent→List ByteArray
|[],[]=>[]
|x :: a,[]=>x.1 :: iS a []
|[],y :: b=>y.1 :: iS [] b
|x :: a,y :: b=>if blt x.1 y.1 then x.1 :: iS a (y :: b) else if blt y.1 x.1 then y.1 :: iS (x :: a) b else if x.2=y.2 then iS a b else x.1 :: iS a b
termination_by a b=>a.length + b.length
theorem zNc:iS [] []=[]:=by rw [iS]
theorem zAh (x:Ent) (a:List Ent):iS (x :: a) []=x.1 :: iS a []:=by rw [iS]
theorem zAd (y:Ent) (b:List Ent):iS [] (y :: b)=y.1 :: iS [] b:=by rw [iS]
theorem zAe {x y:Ent} {a b:List Ent} (h:blt x.1 y.1=true):iS (x :: a) (y :: b)=x.1 :: iS a (y :: b):=by rw [iS,if_pos h]
theorem zAf {x y:Ent} {a b:List Ent} (h:blt y.1 x.1=true):iS (x :: a) (y :: b)=y.1 :: iS (x :: a) b:=by rw [iS,if_neg (by rw [kL h];simp),if_pos h]
theorem zAg {x y:Ent} {a b:List Ent} (h:x.1=y.1):iS (x :: a) (y :: b)=if x.2=y.2 then iS a b else x.1 :: iS a b:=by rw [iS,h,fD];simp
theorem qS4 {Q:List Ent→List Ent→Prop} (nn:Q [] []) (cn:∀ x a,Q a []→Q (x :: a) []) (nc:∀ y b,Q [] b→Q [] (y :: b))
  (lt:∀ x a y b,blt x.1 y.1=true→Q a (y :: b)→Q (x :: a) (y :: b)) (gt:∀ x a y b,blt y.1 x.1=true→Q (x :: a) b→Q (x :: a) (y :: b)) (eq:∀ x a y b,x.1=y.1→Q a b→Q (x :: a) (y :: b)):∀ a b,Q a b:=by
 have:∀ n a b,a.length + b.length≤n→Q a b:=by
  intro n
  induction n with
 |zero =>
   intro a b h
   cases a with
  |nil=>cases b with
   |nil=>exact nn
   |cons y b=>simp at h
  |cons x a=>simp at h
 |succ n ih =>
   intro a b h
   cases a with
  |nil=>cases b with
   |nil=>exact nn
   |cons y b=>exact nc y b (ih _ _ (by simp at h ⊢;omega))
  |cons x a=>cases b with
   |nil=>exact cn x a (ih _ _ (by simp at h ⊢;omega))
   |cons y b =>
     rcases uS x.1 y.1 with h1|h1|h1
     ·exact lt x a y b h1 (ih _ _ (by simp at h ⊢;omega))
     ·exact eq x a y b h1 (ih _ _ (by simp at h ⊢;omega))
     ·exact gt x a y b h1 (ih _ _ (by simp at h ⊢;omega))
 exact fun a b=>this _ a b (Nat.le_refl _)
def above (p:ByteArray) (t:List Ent):Prop:=∀ e ∈ t,blt p e.1=true
theorem nX {x:Ent} {t:List Ent}:rise (x :: t)↔above x.1 t∧rise t:=List.pairwise_cons
theorem qQ5 {p:ByteArray} {x:Ent} {t:List Ent} (h:blt p x.1=true) (h':above x.1 t):above p (x :: t):=fun e he=>by
 rcases List.mem_cons.1 he with rfl|he
 ·exact h
 ·exact kK h (h' e he)
theorem zCq:∀ a b,iS a b=[]→a=b:=by
 refine qS4 (fun _=>rfl) (fun x a _ h=>?_) (fun y b _ h=>?_) (fun x a y b h _ h2=>?_) (fun x a y b h _ h2=>?_) (fun x a y b h ih h2=>?_)
 ·rw [zAh] at h;cases h
 ·rw [zAd] at h;cases h
 ·rw [zAe h] at h2;cases h2
 ·rw [zAf h] at h2;cases h2
 ·rw [zAg h] at h2;split at h2
  ·rename_i e;rw [ih h2,Prod.ext h e]
  ·cases h2
theorem mP (x:Ent) (t:List Ent) (p:ByteArray):aN (x :: t) p=if x.1=p then x.2 else aN t p:=by
 unfold aN;rw [List.find?_cons]
 by_cases h:x.1=p
 ·rw [decide_eq_true h,if_pos h];rfl
 ·rw [decide_eq_false h,if_neg h]
theorem xZ {t:List Ent} {p:ByteArray} (h:above p t):aN t p=mF:=by
 refine qCs ?_;unfold aU;rw [List.any_eq_false];intro e he
 have:=yZ (h e he)
 simpa using fun e'=>this e'.symm
def kinds (t:List Ent):Prop:=∀ e ∈ t,e.2≠mF
theorem oC {x:Ent} {t:List Ent} (h:kinds (x :: t)):x.2≠mF∧kinds t:=⟨h x (by simp),fun e he=>h e (by simp [he])⟩
theorem zJc (p:ByteArray):∀ a b,rise a→rise b→kinds a→kinds b→(p ∈ iS a b↔aN a p≠aN b p):=by
 have nilab:∀ p,above p []:=fun p e he=>by simp at he
 have g0:aN [] p=mF:=rfl
 refine qS4 (fun _ _ _ _=>by rw [zNc];simp) (fun x a ih ra rb ka kb=>?_) (fun y b ih ra rb ka kb=>?_) (fun x a y b h ih ra rb ka kb=>?_) (fun x a y b h ih ra rb ka kb=>?_) (fun x a y b h ih ra rb ka kb=>?_)
 ·rw [nX] at ra;obtain ⟨k1,k2⟩:=oC ka;rw [zAh,List.mem_cons,mP,ih ra.2 rb k2 kb]
  by_cases e:x.1=p
  ·rw [if_pos e,g0];exact ⟨fun _=>k1,fun _=>.inl e.symm⟩
  ·rw [if_neg e];exact ⟨fun h=>h.resolve_left fun e'=>e e'.symm,.inr⟩
 ·rw [nX] at rb;obtain ⟨k1,k2⟩:=oC kb;rw [zAd,List.mem_cons,mP,ih ra rb.2 ka k2]
  by_cases e:y.1=p
  ·rw [if_pos e,g0];exact ⟨fun _ h=>k1 h.symm,fun _=>.inl e.symm⟩
  ·rw [if_neg e];exact ⟨fun h=>h.resolve_left fun e'=>e e'.symm,.inr⟩
 ·have rb':=nX.1 rb
  rw [nX] at ra;obtain ⟨k1,k2⟩:=oC ka;rw [zAe h,List.mem_cons,mP,ih ra.2 rb k2 kb]
  by_cases e:x.1=p
  ·subst e;rw [if_pos rfl,xZ (qQ5 h rb'.1)];exact ⟨fun _=>k1,fun _=>.inl rfl⟩
  ·rw [if_neg e];exact ⟨fun h=>h.resolve_left fun e'=>e e'.symm,.inr⟩
 ·have ra':=nX.1 ra
  rw [nX] at rb;obtain ⟨k1,k2⟩:=oC kb;rw [zAf h,List.mem_cons,mP y,ih ra rb.2 ka k2]
  by_cases e:y.1=p
  ·subst e;rw [if_pos rfl,xZ (qQ5 h ra'.1)];exact ⟨fun _ h=>k1 h.symm,fun _=>.inl rfl⟩
  ·rw [if_neg e];exact ⟨fun h=>h.resolve_left fun e'=>e e'.symm,.inr⟩
 ·rw [nX] at ra rb;obtain ⟨k1,k2⟩:=oC ka;obtain ⟨k3,k4⟩:=oC kb
  have ih:=ih ra.2 rb.2 k2 k4
  rw [zAg h,mP,mP,← h]
  by_cases e:x.1=p
  ·subst e;rw [if_pos rfl,if_pos rfl];rw [xZ ra.1,xZ (h ▸ rb.1)] at ih
   by_cases e2:x.2=y.2
   ·rw [if_pos e2];exact ⟨fun h=>absurd rfl (ih.1 h),fun h=>absurd e2 h⟩
   ·rw [if_neg e2];exact ⟨fun _=>e2,fun _=>by simp⟩
  ·rw [if_neg e,if_neg e]
   by_cases e2:x.2=y.2
   ·rw [if_pos e2];exact ih
   ·rw [if_neg e2,List.mem_cons,ih];exact ⟨fun h=>h.resolve_left fun e'=>e e'.symm,.inr⟩
end Go.Tr
end
