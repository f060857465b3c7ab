/-
  Which lists are trees: the document's Check, tree.Check.
-/
import Derived.Test.YtbdomkfdkfdfgaaGreatDoorTrL
set_option linter.unusedSimpArgs false
set_option linter.unusedVariables false
set_option maxRecDepth 20000
namespace Go.Tr
open Go
def atE (t:List Ent) (i:Nat):Ent:=t.getD i (ByteArray.empty,0,ByteArray.empty)
theorem iF {t:List Ent} {i:Nat} (h:i < t.length):atE t i=t[i]:=by simp [atE,List.getD_eq_getElem?_getD,h]
def uV (t:List Ent) (i:Nat):Bool:=pOk (atE t i).1 5 && (gX (atE t i).2 && (!decide ((atE t i).2.1=0) && (decide (i=0) || blt (atE t (i - 1)).1 (atE t i).1)))
def qCl (u:List Ent) (e:Ent):Bool:=decide (par e.1={ data:=#[] }) || decide ((aF u (par e.1)).1=1)
def tN (t:List Ent) (i:Nat):Bool:=uV t i && qCl t (atE t i)
def iX (t:List Ent) (i:Nat):Bool:=uV t i && qCl (t.take i) (atE t i)
def okR (t:List Ent):Bool:=(List.range t.length).all (tN t)
def zMr (t:List Ent):Bool:=(List.range t.length).all (iX t)
def cQ (t:List Ent):Int:=if 200 < t.length then 4 else bif okR t then 0 else 3
theorem gW {n:Nat} {f:Nat→Bool}:(List.range n).all f=true↔∀ i,i < n→f i=true:=by simp [List.all_eq_true]
theorem qG9 {n i:Nat} {f:Nat→Bool} (hi:i < n) (h:f i=false):(List.range n).all f=false:=by
 rw [Bool.eq_false_iff];intro ha;rw [gW.1 ha i hi] at h;cases h
theorem zE5 {t:List Ent} (h:∀ i,0 < i→(hi:i < t.length)→blt (t[i - 1]'(by omega)).1 t[i].1=true):rise t:=by
 refine List.pairwise_iff_getElem.2 ?_
 have:∀ (d i:Nat) (h1:i + d + 1 < t.length),blt (t[i]'(by omega)).1 (t[i + d + 1]'h1).1=true:=by
  intro d
  induction d with
 |zero=>intro i h1;exact h (i + 1) (by omega) h1
 |succ d ih =>
   intro i h1
   have a:=ih i (by omega)
   have b:=h (i + d + 1 + 1) (by omega) h1
   exact iP a b
 intro i j hi hj hij
 have:=this (j - i - 1) i (by omega)
 simpa [show i + (j - i - 1) + 1=j by omega] using this
theorem zG0 {t:List Ent} {i:Nat} (h:uV t i=true) (h0:0 < i) (hi:i < t.length):blt (t[i - 1]'(by omega)).1 t[i].1=true:=by
 simp only [uV,Bool.and_eq_true,Bool.or_eq_true,decide_eq_true_eq] at h
 rcases h.2.2.2 with h|h
 ·omega
 ·rwa [iF hi,iF (by omega)] at h
theorem qD7 {t:List Ent} {i:Nat} (h:∀ j,j < i→uV t j=true) (hi:i≤t.length):rise (t.take i):=zE5 fun j h0 hj=>by
 rw [List.length_take] at hj
 have:=zG0 (h j (by omega)) h0 (by omega)
 simpa using this
theorem zMh {t:List Ent} {i:Nat} (h:uV t i=true) (hi:i < t.length):t[i].1≠ByteArray.empty:=by
 simp only [uV,Bool.and_eq_true] at h;rw [iF hi] at h;exact qTv h.1
theorem zFx {t:List Ent} (h:rise t) {i:Nat} (hi:i < t.length) {q:ByteArray} (hq:blt q t[i].1=true):aF t q=aF (t.take i) q:=by
 have hd:t=t.take i ++ t.drop i:=(List.take_append_drop i t).symm
 have hn:((t.drop i).find? fun e=>decide (e.1=q))=none:=by
  rw [List.find?_eq_none];intro e he;obtain ⟨k,hk,rfl⟩:=List.getElem_of_mem he;rw [List.length_drop] at hk;rw [List.getElem_drop,decide_eq_true_iff];intro e
  rcases Nat.eq_zero_or_pos k with rfl|hp
  ·simp only [Nat.add_zero] at e;rw [e,fP] at hq;cases hq
  ·have:=kC h (i:=i) (j:=i + k) (by omega) (by omega)
   rw [e] at this;rw [iQ this] at hq;cases hq
 unfold aF
 conv=>lhs;rw [hd,List.find?_append,hn]
 simp
theorem zE4 {t:List Ent} (h:rise t) {i:Nat} (hi:i < t.length) (hn:t[i].1≠ByteArray.empty):qCl t (atE t i)=qCl (t.take i) (atE t i):=by
 rw [qCl,qCl,iF hi,zFx h hi (zB0 hn)]
theorem zS5 (t:List Ent):zMr t=okR t:=by
 rw [Bool.eq_iff_iff,zMr,okR,gW,gW]
 have key:(∀ i,i < t.length→uV t i=true)→∀ i,i < t.length→iX t i=tN t i:=fun ha i hi=>by
  have hr:=qD7 ha (Nat.le_refl _)
  rw [List.take_length] at hr;rw [iX,tN,zE4 hr hi (zMh (ha i hi) hi)]
 constructor
 ·intro h
  have ha:∀ i,i < t.length→uV t i=true:=fun i hi=>by
   have:=h i hi;simp only [iX,Bool.and_eq_true] at this;exact this.1
  exact fun i hi=>by rw [← key ha i hi];exact h i hi
 ·intro h
  have ha:∀ i,i < t.length→uV t i=true:=fun i hi=>by
   have:=h i hi;simp only [tN,Bool.and_eq_true] at this;exact this.1
  exact fun i hi=>by rw [key ha i hi];exact h i hi
theorem lY {t:List Ent} (h:okR t=true):rise t:=by
 have:=qD7 (t:=t) (i:=t.length) (fun j hj=>by
  have:=gW.1 h j hj;simp only [tN,Bool.and_eq_true] at this;exact this.1) (Nat.le_refl _)
 rwa [List.take_length] at this
theorem sW {t:List Ent} (h:cQ t=0):t.length≤200∧okR t=true:=by
 unfold cQ at h;split at h
 ·cases h
 ·refine ⟨by omega,?_⟩
  cases e:okR t
  ·rw [e] at h;cases h
  ·rfl
end Go.Tr
namespace Go.Proofs.YtbdomkfdkfdfgaaGreatDoor
open Go Go.Eng Go.RowKit Go.Tr
theorem zH4:okN true=0:=rfl
theorem zH5:okN false=10:=rfl
set_option maxHeartbeats 8000000 in
theorem qVh (t:List Ent) (hl:t.length≤140737488355328) (hs:∀ e ∈ t,e.1.size≤1048576):HFun Tryz.prog 17 [.lst false (aL t)] (fun h st=>h=.v (.int .i64 (cQ t))):=by
 refine fJ (N:=66) Tryz.func17 rfl Tryz.ntmps17 Tryz.results17 (by simp) ?_
 unfold cQ;refine zE ?_;refine zJ (fun K hK=>?_);simp (disch:=omega) only [push_cast,↓Int.cast_ofNat_Int,simprocAttr];refine hK _ ?_;clear hK K
 by_cases h200:200 < t.length
 ·rw [if_pos h200];refine zE ?_;refine zE ?_;refine zJ (fun K hK=>?_);simp (disch:=omega) only [push_cast,↓Int.cast_ofNat_Int,simprocAttr,yV];refine hK _ ?_;clear hK K
  refine yD rfl ?_;refine zE ?_;refine zJ (fun K hK=>?_);simp (disch:=omega) only [push_cast,↓Int.cast_ofNat_Int,simprocAttr];refine hK _ ?_;clear hK K
  refine zA ?_;refine zW ?_;refine zK ?_;simp only [yA,yM,yH,yE,aA,aD,yK,yJ,zS,zM,Nat.reduceEqDiff,reduceIte,reduceCtorEq];exact aM rfl
 rw [if_neg h200];refine zE ?_;refine zE ?_;refine zJ (fun K hK=>?_);simp (disch:=omega) only [push_cast,↓Int.cast_ofNat_Int,simprocAttr,yV];refine hK _ ?_;clear hK K
 refine yC rfl ?_;refine zC ?_;refine zE ?_;refine zE ?_;refine zJ (fun K hK=>?_);simp (disch:=omega) only [push_cast,↓Int.cast_ofNat_Int,simprocAttr];refine hK _ ?_;clear hK K
 refine zA ?_;refine zD ?_;refine cH (fun i:Nat=>⟨[(0,.lst false (aL t)),(3,.v (.int .i64 i))],[]⟩) (fun i=>i≤t.length∧∀ j,j < i→tN t j=true) (fun i=>t.length - i) [0,3] [] 0 rfl ⟨Nat.zero_le _,fun j h=>by omega⟩ ?_
 rintro i ⟨hi,ha⟩
 by_cases hlt:i < t.length
 ·have hsz:=hs _ (List.getElem_mem hlt)
  have bad:tN t i=false→okR t=false:=fun h=>qG9 hlt h
  have c34:HFun Tryz.prog 37 [.v (.string t[i].1),.v (.int .i64 5)] (fun h st=>h=.v (.int .i64 (okN (pOk t[i].1 5)))):=zE2 t[i].1 5 hsz (by omega)
  have c18:=zGw t[i].2
  have hA:uV t i=(pOk t[i].1 5 && (gX t[i].2 && (!decide (t[i].2.1=0) && (decide (i=0) || blt (atE t (i - 1)).1 t[i].1)))):=by rw [uV,iF hlt]
  refine zE ?_;refine zE ?_;refine zJ (fun K hK=>?_);simp (disch:=omega) only [push_cast,↓Int.cast_ofNat_Int,simprocAttr,yV];refine hK _ ?_;clear hK K
  refine zA ?_;refine yD rfl ?_;refine zC ?_;refine zE ?_;refine zD ?_;refine zE ?_;refine zJ (fun K hK=>?_);simp (disch:=omega) only [push_cast,↓Int.cast_ofNat_Int,simprocAttr,yV,yU,yW hlt];refine hK _ ?_;clear hK K
  have hk0:∀ (m:Nat),(m:Int) + 1 - 1=m:=fun m=>by omega
  cases hp:pOk t[i].1 5 with
 |false =>
   rw [bad (by rw [tN,hA,hp];rfl)]
   rw [hp,zH5] at c34;refine zE ?_;refine zE ?_;refine zJ (fun K hK=>?_);simp (disch:=omega) only [push_cast,↓Int.cast_ofNat_Int,simprocAttr]
   refine cP zF7 c34 (.cons (.v _) (.cons (.v _) .nil)) ?_;with_reducible refine aC ?_;simp (disch:=omega) only [push_cast,↓Int.cast_ofNat_Int,simprocAttr]
   refine hK _ ?_;clear hK K;refine zA ?_;refine yD rfl ?_;refine zE ?_;refine zJ (fun K hK=>?_);simp (disch:=omega) only [push_cast,↓Int.cast_ofNat_Int,simprocAttr];refine hK _ ?_;clear hK K
   refine zA ?_;refine zW ?_;refine zK ?_;refine zL ?_;refine zK ?_;refine zK ?_;refine zL ?_;refine zK ?_;simp only [yA,yM,yH,yE,aA,aD,yK,yJ,zS,zM,Nat.reduceEqDiff,reduceIte,reduceCtorEq];exact aM rfl
 |true =>
  rw [hp,zH4] at c34
  cases hw:gX t[i].2 with
 |false =>
   rw [bad (by rw [tN,hA,hp,hw];rfl)]
   rw [hw] at c18;refine zE ?_;refine zE ?_;refine zJ (fun K hK=>?_);simp (disch:=omega) only [push_cast,↓Int.cast_ofNat_Int,simprocAttr]
   refine cP zF7 c34 (.cons (.v _) (.cons (.v _) .nil)) ?_;with_reducible refine aC ?_;simp (disch:=omega) only [push_cast,↓Int.cast_ofNat_Int,simprocAttr,yV,yU,yW hlt]
   refine cP zK7 c18 (.cons (eY (n:=t[i].2)) .nil) ?_;with_reducible refine aC ?_;simp (disch:=omega) only [push_cast,↓Int.cast_ofNat_Int,simprocAttr]
   refine hK _ ?_;clear hK K;refine zA ?_;refine yD rfl ?_;refine zE ?_;refine zJ (fun K hK=>?_);simp (disch:=omega) only [push_cast,↓Int.cast_ofNat_Int,simprocAttr];refine hK _ ?_;clear hK K
   refine zA ?_;refine zW ?_;refine zK ?_;refine zL ?_;refine zK ?_;refine zK ?_;refine zL ?_;refine zK ?_;simp only [yA,yM,yH,yE,aA,aD,yK,yJ,zS,zM,Nat.reduceEqDiff,reduceIte,reduceCtorEq];exact aM rfl
 |true =>
  rw [hw] at c18
  by_cases hk:t[i].2.1=0
  ·have hkd:decide (t[i].2.1=0)=true:=decide_eq_true hk
   rw [bad (by rw [tN,hA,hp,hw,hkd];rfl)]
   refine zE ?_;refine zE ?_;refine zJ (fun K hK=>?_);simp (disch:=omega) only [push_cast,↓Int.cast_ofNat_Int,simprocAttr]
   refine cP zF7 c34 (.cons (.v _) (.cons (.v _) .nil)) ?_;with_reducible refine aC ?_;simp (disch:=omega) only [push_cast,↓Int.cast_ofNat_Int,simprocAttr,yV,yU,yW hlt]
   refine cP zK7 c18 (.cons (eY (n:=t[i].2)) .nil) ?_;with_reducible refine aC ?_;simp (disch:=omega) only [push_cast,↓Int.cast_ofNat_Int,simprocAttr,yV,yU,yW hlt]
   refine hK _ ?_;clear hK K;refine zA ?_;refine yD rfl ?_;refine zE ?_;refine zJ (fun K hK=>?_);simp (disch:=omega) only [push_cast,↓Int.cast_ofNat_Int,simprocAttr];refine hK _ ?_;clear hK K
   refine zA ?_;refine zW ?_;refine zK ?_;refine zL ?_;refine zK ?_;refine zK ?_;refine zL ?_;refine zK ?_;simp only [yA,yM,yH,yE,aA,aD,yK,yJ,zS,zM,Nat.reduceEqDiff,reduceIte,reduceCtorEq];exact aM rfl
  have hkd:decide (t[i].2.1=0)=false:=decide_eq_false hk
  rw [hp,hw,hkd] at hA;simp only [Bool.true_and,Bool.not_false] at hA
  cases hpv:(decide (i=0) || blt (atE t (i - 1)).1 t[i].1) with
 |false =>
   rw [bad (by rw [tN,hA,hpv];rfl)]
   simp only [Bool.or_eq_false_iff,decide_eq_false_iff_not] at hpv;obtain ⟨m,rfl⟩:∃ m,i=m + 1:=⟨i - 1,by omega⟩
   have hm:m < t.length:=by omega
   have hb:Op.bytesLess t[m].1.toList t[m + 1].1.toList=false:=by
    have:=hpv.2
    rw [Nat.add_sub_cancel,iF hm] at this;exact this
   refine zE ?_;refine zE ?_;refine zJ (fun K hK=>?_);simp (disch:=omega) only [push_cast,↓Int.cast_ofNat_Int,simprocAttr,hk0]
   refine cP zF7 c34 (.cons (.v _) (.cons (.v _) .nil)) ?_;with_reducible refine aC ?_;simp (disch:=omega) only [push_cast,↓Int.cast_ofNat_Int,simprocAttr,yV,yU,yW hlt,hk0]
   refine cP zK7 c18 (.cons (eY (n:=t[m + 1].2)) .nil) ?_;with_reducible refine aC ?_;simp (disch:=omega) only [push_cast,↓Int.cast_ofNat_Int,simprocAttr,yV,yU,yW hlt,hk0,yW hm,hb]
   refine hK _ ?_;clear hK K;refine zA ?_;refine yD rfl ?_;refine zE ?_;refine zJ (fun K hK=>?_);simp (disch:=omega) only [push_cast,↓Int.cast_ofNat_Int,simprocAttr];refine hK _ ?_;clear hK K
   refine zA ?_;refine zW ?_;refine zK ?_;refine zL ?_;refine zK ?_;refine zK ?_;refine zL ?_;refine zK ?_;simp only [yA,yM,yH,yE,aA,aD,yK,yJ,zS,zM,Nat.reduceEqDiff,reduceIte,reduceCtorEq];exact aM rfl
 |true =>
  rw [hpv] at hA;refine zE ?_;refine zE ?_;refine qHy (fun _:Unit=>⟨[(0,.lst false (aL t)),(3,.v (.int .i64 i)),(4,.v (.string t[i].1)),(54,.v (.bool false))],[]⟩) (fun _=>True) [0,3,4,54] [] ?_ ?_
  ·rcases Nat.eq_zero_or_pos i with rfl|hpos
   ·refine zJ (fun K hK=>?_);simp (disch:=omega) only [push_cast,↓Int.cast_ofNat_Int,simprocAttr,hk0]
    refine cP zF7 c34 (.cons (.v _) (.cons (.v _) .nil)) ?_;with_reducible refine aC ?_;simp (disch:=omega) only [push_cast,↓Int.cast_ofNat_Int,simprocAttr,yV,yU,yW hlt,hk0]
    refine cP zK7 c18 (.cons (eY (n:=t[0].2)) .nil) ?_;with_reducible refine aC ?_;simp (disch:=omega) only [push_cast,↓Int.cast_ofNat_Int,simprocAttr,yV,yU,yW hlt,hk0]
    refine hK _ ?_;clear hK K;exact ⟨(),by simp only [zZ,zR,zP,zQ,zN,zS,zM,zX,zU,Nat.reduceEqDiff,reduceIte];rfl,trivial⟩
   ·obtain ⟨m,rfl⟩:∃ m,i=m + 1:=⟨i - 1,by omega⟩
    have hm:m < t.length:=by omega
    have hb:Op.bytesLess t[m].1.toList t[m + 1].1.toList=true:=by
     simp only [Bool.or_eq_true,decide_eq_true_eq] at hpv
     rcases hpv with h|h
     ·omega
     ·rw [Nat.add_sub_cancel,iF hm] at h;exact h
    refine zJ (fun K hK=>?_);simp (disch:=omega) only [push_cast,↓Int.cast_ofNat_Int,simprocAttr,hk0]
    refine cP zF7 c34 (.cons (.v _) (.cons (.v _) .nil)) ?_;with_reducible refine aC ?_;simp (disch:=omega) only [push_cast,↓Int.cast_ofNat_Int,simprocAttr,yV,yU,yW hlt,hk0]
    refine cP zK7 c18 (.cons (eY (n:=t[m + 1].2)) .nil) ?_;with_reducible refine aC ?_;simp (disch:=omega) only [push_cast,↓Int.cast_ofNat_Int,simprocAttr,yV,yU,yW hlt,hk0,yW hm,hb]
    refine hK _ ?_;clear hK K;exact ⟨(),by simp only [zZ,zR,zP,zQ,zN,zS,zM,zX,zU,Nat.reduceEqDiff,reduceIte];rfl,trivial⟩
  intro S' _ hE _;refine zA ?_;refine yB [0,3,4,54] [] hE ?_;clear hE;refine yC rfl ?_;refine zC ?_;refine zE ?_
  have cp:=zE3 t[i].1 hsz
  have cg:=qAs t (par t[i].1) hl
  have hP:qCl t (atE t i)=(decide (par t[i].1={ data:=#[] }) || decide ((aF t (par t[i].1)).1=1)):=by rw [qCl,iF hlt]
  have hR:tN t i=qCl t (atE t i):=by rw [tN,hA,Bool.true_and]
  cases he:decide (par t[i].1={ data:=#[] }) with
 |true =>
   have hgood:tN t i=true:=by rw [hR,hP,he];rfl
   refine zJ (fun K hK=>?_);simp (disch:=omega) only [push_cast,↓Int.cast_ofNat_Int,simprocAttr]
   refine cP zK6 cp (.cons (.v _) .nil) ?_;with_reducible refine aC ?_;simp (disch:=omega) only [push_cast,↓Int.cast_ofNat_Int,simprocAttr,he]
   refine hK _ ?_;clear hK K;refine yC rfl ?_;refine zC ?_;refine zB ?_;refine zA ?_;refine zJ (fun K hK=>?_);simp (disch:=omega) only [push_cast,↓Int.cast_ofNat_Int,simprocAttr];refine hK _ ?_;clear hK K
   refine zA ?_;exact ⟨i + 1,rfl,⟨hlt,fun j hj=>if h:j=i then h ▸ hgood else ha j (by omega)⟩,by omega⟩
 |false =>
   have hk1:∀ b,decide ((aF t (par t[i].1)).1=1)=b→tN t i=b:=fun b hb=>by rw [hR,hP,he,hb];rfl
   generalize hg:aF t (par t[i].1)=n at cg hk1;obtain ⟨k,d⟩:=n;dsimp only at hk1
   by_cases hk1':k=1
   ·have hgood:=hk1 true (decide_eq_true hk1')
    refine zJ (fun K hK=>?_);simp (disch:=omega) only [push_cast,↓Int.cast_ofNat_Int,simprocAttr]
    refine cP zK6 cp (.cons (.v _) .nil) ?_;with_reducible refine aC ?_;simp (disch:=omega) only [push_cast,↓Int.cast_ofNat_Int,simprocAttr,he]
    refine cP zK6 cp (.cons (.v _) .nil) ?_;with_reducible refine aC ?_;simp (disch:=omega) only [push_cast,↓Int.cast_ofNat_Int,simprocAttr,he]
    refine hat 496 qYh cg (.cons (aT (yT _)) (.cons (.v _) .nil)) ?_;rintro _ _ ⟨rfl,rfl⟩;with_reducible refine aC ?_;simp (disch:=omega) only [push_cast,↓Int.cast_ofNat_Int,simprocAttr,he]
    refine hK _ ?_;clear hK K;refine yC rfl ?_;refine zC ?_;refine zB ?_;refine zA ?_;refine zJ (fun K hK=>?_);simp (disch:=omega) only [push_cast,↓Int.cast_ofNat_Int,simprocAttr];refine hK _ ?_;clear hK K
    refine zA ?_;exact ⟨i + 1,rfl,⟨hlt,fun j hj=>if h:j=i then h ▸ hgood else ha j (by omega)⟩,by omega⟩
   ·rw [bad (hk1 false (decide_eq_false hk1'))];refine zJ (fun K hK=>?_);simp (disch:=omega) only [push_cast,↓Int.cast_ofNat_Int,simprocAttr]
    refine cP zK6 cp (.cons (.v _) .nil) ?_;with_reducible refine aC ?_;simp (disch:=omega) only [push_cast,↓Int.cast_ofNat_Int,simprocAttr,he]
    refine cP zK6 cp (.cons (.v _) .nil) ?_;with_reducible refine aC ?_;simp (disch:=omega) only [push_cast,↓Int.cast_ofNat_Int,simprocAttr,he]
    refine hat 496 qYh cg (.cons (aT (yT _)) (.cons (.v _) .nil)) ?_;rintro _ _ ⟨rfl,rfl⟩;with_reducible refine aC ?_;simp (disch:=omega) only [push_cast,↓Int.cast_ofNat_Int,simprocAttr,he]
    refine hK _ ?_;clear hK K;refine yD rfl ?_;refine zE ?_;refine zJ (fun K hK=>?_);simp (disch:=omega) only [push_cast,↓Int.cast_ofNat_Int,simprocAttr];refine hK _ ?_;clear hK K
    refine zA ?_;refine zW ?_;refine zL ?_;refine zK ?_;refine zK ?_;refine zL ?_;refine zK ?_;simp only [yA,yM,yH,yE,aA,aD,yK,yJ,zS,zM,Nat.reduceEqDiff,reduceIte,reduceCtorEq];exact aM rfl
 ·have hne:i=t.length:=by omega
  subst hne
  have hok:okR t=true:=gW.2 ha
  rw [hok];refine zE ?_;refine zE ?_;refine zJ (fun K hK=>?_);simp (disch:=omega) only [push_cast,↓Int.cast_ofNat_Int,simprocAttr,yV];refine hK _ ?_;clear hK K
  refine zA ?_;refine yC rfl ?_;refine zT ?_;refine zG ?_;refine zG ?_;refine zH ?_;refine zE ?_;refine zJ (fun K hK=>?_);simp (disch:=omega) only [push_cast,↓Int.cast_ofNat_Int,simprocAttr];refine hK _ ?_;clear hK K
  refine zA ?_;refine zW ?_;simp only [yA,yM,yH,yE,aA,aD,yK,yJ,zS,zM,Nat.reduceEqDiff,reduceIte,reduceCtorEq];exact aM rfl
end Go.Proofs.YtbdomkfdkfdfgaaGreatDoor
