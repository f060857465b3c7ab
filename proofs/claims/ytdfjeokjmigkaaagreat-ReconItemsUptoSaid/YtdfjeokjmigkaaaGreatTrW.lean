/-
  A call that answers a node, in a drawn region; what a tree's Check says.
-/
import Derived.Test.YtdfjeokjmigkaaaGreatTrU
set_option linter.unusedSimpArgs false
set_option linter.unusedVariables false
section
set_option maxRecDepth 20000
namespace Go.Tr
open Go
def atE (t:List Ent) (i:Nat):Ent:=t.getD i (ByteArray.empty,0,ByteArray.empty)
theorem qBt {t:List Ent} {i:Nat} (h:i < t.length):atE t i=t[i]:=by simp [atE,List.getD_eq_getElem?_getD,h]
def qRf (t:List Ent) (i:Nat):Bool:=pOk (atE t i).1 5 && (sR (atE t i).2 && (!decide ((atE t i).2.1=0) && (decide (i=0) || blt (atE t (i - 1)).1 (atE t i).1)))
def qHe (u:List Ent) (e:Ent):Bool:=decide (par e.1={ data:=#[] }) || decide ((eH u (par e.1)).1=1)
def qEy (t:List Ent) (i:Nat):Bool:=qRf t i && qHe t (atE t i)
def qXe (t:List Ent) (i:Nat):Bool:=qRf t i && qHe (t.take i) (atE t i)
def okR (t:List Ent):Bool:=(List.range t.length).all (qEy t)
def pW (t:List Ent):Int:=if 200 < t.length then 4 else bif okR t then 0 else 3
theorem sN {n:Nat} {f:Nat→Bool}:(List.range n).all f=true↔∀ i,i < n→f i=true:=by simp [List.all_eq_true]
theorem qV8 {n i:Nat} {f:Nat→Bool} (hi:i < n) (h:f i=false):(List.range n).all f=false:=by
 rw [Bool.eq_false_iff];intro ha;rw [sN.1 ha i hi] at h;cases h
theorem zDo {t:List Ent} (h:∀ i,0 < i→(hi:i < t.length)→blt (t[i - 1]'(by omega)).1 t[i].1=true):rise t:=by
 refine List.pairwise_iff_getElem.2 ?_
 have:∀ (d i:Nat) (h1:i + d + 1 < t.length),blt (t[i]'(by omega)).1 (t[i + d + 1]'h1).1=true:=by
  intro d
  induction d with
 |zero=>intro i h1;exact h (i + 1) (by omega) h1
 |succ d ih =>
   intro i h1
   have a:=ih i (by omega)
   have b:=h (i + d + 1 + 1) (by omega) h1
   exact pX a b
 intro i j hi hj hij
 have:=this (j - i - 1) i (by omega)
 simpa [show i + (j - i - 1) + 1=j by omega] using this
theorem zHr {t:List Ent} {i:Nat} (h:qRf t i=true) (h0:0 < i) (hi:i < t.length):blt (t[i - 1]'(by omega)).1 t[i].1=true:=by
 simp only [qRf,Bool.and_eq_true,Bool.or_eq_true,decide_eq_true_eq] at h
 rcases h.2.2.2 with h|h
 ·omega
 ·rwa [qBt hi,qBt (by omega)] at h
theorem zDn {t:List Ent} {i:Nat} (h:∀ j,j < i→qRf t j=true) (hi:i≤t.length):rise (t.take i):=zDo fun j h0 hj=>by
 rw [List.length_take] at hj
 have:=zHr (h j (by omega)) h0 (by omega)
 simpa using this
theorem zJk {t:List Ent} (h:okR t=true):rise t:=by
 have:=zDn (t:=t) (i:=t.length) (fun j hj=>by
  have:=sN.1 h j hj;simp only [qEy,Bool.and_eq_true] at this;exact this.1) (Nat.le_refl _)
 rwa [List.take_length] at this
theorem lL {t:List Ent} (h:pW t=0):t.length≤200∧okR t=true:=by
 unfold pW at h;split at h
 ·cases h
 ·refine ⟨by omega,?_⟩
  cases e:okR t
  ·rw [e] at h;cases h
  ·rfl
end Go.Tr
namespace Go.Proofs.YtdfjeokjmigkaaaGreat
open Go Go.Eng Go.RowKit Go.Tr
theorem zU9:okN true=0:=rfl
theorem zVa:okN false=10:=rfl
set_option maxHeartbeats 8000000 in
theorem qLf (t:List Ent) (hl:t.length≤140737488355328) (hs:∀ e ∈ t,e.1.size≤1048576):HFun Tryz.prog 27 [.lst false (aQ t)] (fun h st=>h=.v (.int .i64 (pW t))):=by
 refine eF (N:=66) Tryz.func27 rfl Tryz.ntmps27 Tryz.results27 (by simp) ?_
 unfold pW;refine zE ?_;refine zJ (fun K hK=>?_);simp (disch:=omega) only [push_cast,↓Int.cast_ofNat_Int,simprocAttr];refine hK _ ?_
 by_cases h200:200 < t.length
 ·rw [if_pos h200];refine zE ?_;refine zE ?_;refine zJ (fun K hK=>?_);simp (disch:=omega) only [push_cast,↓Int.cast_ofNat_Int,simprocAttr,yV];refine hK _ ?_
  refine yD rfl ?_;refine zE ?_;refine zJ (fun K hK=>?_);simp (disch:=omega) only [push_cast,↓Int.cast_ofNat_Int,simprocAttr];refine hK _ ?_
  refine zA ?_;refine zW ?_;refine zK ?_;simp only [yA,yM,yH,yE,aA,aC,yK,yJ,zS,zM,Nat.reduceEqDiff,reduceIte,reduceCtorEq];exact aL rfl
 rw [if_neg h200];refine zE ?_;refine zE ?_;refine zJ (fun K hK=>?_);simp (disch:=omega) only [push_cast,↓Int.cast_ofNat_Int,simprocAttr,yV];refine hK _ ?_
 refine yC rfl ?_;refine zC ?_;refine zE ?_;refine zE ?_;refine zJ (fun K hK=>?_);simp (disch:=omega) only [push_cast,↓Int.cast_ofNat_Int,simprocAttr];refine hK _ ?_
 refine zA ?_;refine zD ?_;refine bR (fun i:Nat=>⟨[(0,.lst false (aQ t)),(3,.v (.int .i64 i))],[]⟩) (fun i=>i≤t.length∧∀ j,j < i→qEy t j=true) (fun i=>t.length - i) [0,3] [] 0 rfl ⟨Nat.zero_le _,fun j h=>by omega⟩ ?_
 rintro i ⟨hi,ha⟩
 by_cases hlt:i < t.length
 ·have hsz:=hs _ (List.getElem_mem hlt)
  have bad:qEy t i=false→okR t=false:=fun h=>qV8 hlt h
  have c34:HFun Tryz.prog 22 [.v (.string t[i].1),.v (.int .i64 5)] (fun h st=>h=.v (.int .i64 (okN (pOk t[i].1 5)))):=zDk t[i].1 5 hsz (by omega)
  have c18:=qFl t[i].2
  have hA:qRf t i=(pOk t[i].1 5 && (sR t[i].2 && (!decide (t[i].2.1=0) && (decide (i=0) || blt (atE t (i - 1)).1 t[i].1)))):=by rw [qRf,qBt hlt]
  refine zE ?_;refine zE ?_;refine zJ (fun K hK=>?_);simp (disch:=omega) only [push_cast,↓Int.cast_ofNat_Int,simprocAttr,yV];refine hK _ ?_
  refine zA ?_;refine yD rfl ?_;refine zC ?_;refine zE ?_;refine zD ?_;refine zE ?_;refine zJ (fun K hK=>?_);simp (disch:=omega) only [push_cast,↓Int.cast_ofNat_Int,simprocAttr,yV,yU,yW hlt];refine hK _ ?_
  have hk0:∀ (m:Nat),(m:Int) + 1 - 1=m:=fun m=>by omega
  cases hp:pOk t[i].1 5 with
 |false =>
   rw [bad (by rw [qEy,hA,hp];rfl)]
   rw [hp,zVa] at c34;refine zE ?_;refine zE ?_;refine zJ (fun K hK=>?_);simp (disch:=omega) only [push_cast,↓Int.cast_ofNat_Int,simprocAttr]
   refine aW zGm c34 (.cons (.v _) (.cons (.v _) .nil)) ?_;with_reducible refine aB ?_;simp (disch:=omega) only [push_cast,↓Int.cast_ofNat_Int,simprocAttr]
   refine hK _ ?_;refine zA ?_;refine yD rfl ?_;refine zE ?_;refine zJ (fun K hK=>?_);simp (disch:=omega) only [push_cast,↓Int.cast_ofNat_Int,simprocAttr];refine hK _ ?_
   refine zA ?_;refine zW ?_;refine zK ?_;refine zL ?_;refine zK ?_;refine zK ?_;refine zL ?_;refine zK ?_;simp only [yA,yM,yH,yE,aA,aC,yK,yJ,zS,zM,Nat.reduceEqDiff,reduceIte,reduceCtorEq];exact aL rfl
 |true =>
  rw [hp,zU9] at c34
  cases hw:sR t[i].2 with
 |false =>
   rw [bad (by rw [qEy,hA,hp,hw];rfl)]
   rw [hw] at c18;refine zE ?_;refine zE ?_;refine zJ (fun K hK=>?_);simp (disch:=omega) only [push_cast,↓Int.cast_ofNat_Int,simprocAttr]
   refine aW zGm c34 (.cons (.v _) (.cons (.v _) .nil)) ?_;with_reducible refine aB ?_;simp (disch:=omega) only [push_cast,↓Int.cast_ofNat_Int,simprocAttr,yV,yU,yW hlt]
   refine aW qGw c18 (.cons (aR (n:=t[i].2)) .nil) ?_;with_reducible refine aB ?_;simp (disch:=omega) only [push_cast,↓Int.cast_ofNat_Int,simprocAttr]
   refine hK _ ?_;refine zA ?_;refine yD rfl ?_;refine zE ?_;refine zJ (fun K hK=>?_);simp (disch:=omega) only [push_cast,↓Int.cast_ofNat_Int,simprocAttr];refine hK _ ?_
   refine zA ?_;refine zW ?_;refine zK ?_;refine zL ?_;refine zK ?_;refine zK ?_;refine zL ?_;refine zK ?_;simp only [yA,yM,yH,yE,aA,aC,yK,yJ,zS,zM,Nat.reduceEqDiff,reduceIte,reduceCtorEq];exact aL rfl
 |true =>
  rw [hw] at c18
  by_cases hk:t[i].2.1=0
  ·have hkd:decide (t[i].2.1=0)=true:=decide_eq_true hk
   rw [bad (by rw [qEy,hA,hp,hw,hkd];rfl)]
   refine zE ?_;refine zE ?_;refine zJ (fun K hK=>?_);simp (disch:=omega) only [push_cast,↓Int.cast_ofNat_Int,simprocAttr]
   refine aW zGm c34 (.cons (.v _) (.cons (.v _) .nil)) ?_;with_reducible refine aB ?_;simp (disch:=omega) only [push_cast,↓Int.cast_ofNat_Int,simprocAttr,yV,yU,yW hlt]
   refine aW qGw c18 (.cons (aR (n:=t[i].2)) .nil) ?_;with_reducible refine aB ?_;simp (disch:=omega) only [push_cast,↓Int.cast_ofNat_Int,simprocAttr,yV,yU,yW hlt]
   refine hK _ ?_;refine zA ?_;refine yD rfl ?_;refine zE ?_;refine zJ (fun K hK=>?_);simp (disch:=omega) only [push_cast,↓Int.cast_ofNat_Int,simprocAttr];refine hK _ ?_
   refine zA ?_;refine zW ?_;refine zK ?_;refine zL ?_;refine zK ?_;refine zK ?_;refine zL ?_;refine zK ?_;simp only [yA,yM,yH,yE,aA,aC,yK,yJ,zS,zM,Nat.reduceEqDiff,reduceIte,reduceCtorEq];exact aL rfl
  have hkd:decide (t[i].2.1=0)=false:=decide_eq_false hk
  rw [hp,hw,hkd] at hA;simp only [Bool.true_and,Bool.not_false] at hA
  cases hpv:(decide (i=0) || blt (atE t (i - 1)).1 t[i].1) with
 |false =>
   rw [bad (by rw [qEy,hA,hpv];rfl)]
   simp only [Bool.or_eq_false_iff,decide_eq_false_iff_not] at hpv;obtain ⟨m,rfl⟩:∃ m,i=m + 1:=⟨i - 1,by omega⟩
   have hm:m < t.length:=by omega
   have hb:Op.bytesLess t[m].1.toList t[m + 1].1.toList=false:=by
    have:=hpv.2
    rw [Nat.add_sub_cancel,qBt hm] at this;exact this
   refine zE ?_;refine zE ?_;refine zJ (fun K hK=>?_);simp (disch:=omega) only [push_cast,↓Int.cast_ofNat_Int,simprocAttr,hk0]
   refine aW zGm c34 (.cons (.v _) (.cons (.v _) .nil)) ?_;with_reducible refine aB ?_;simp (disch:=omega) only [push_cast,↓Int.cast_ofNat_Int,simprocAttr,yV,yU,yW hlt,hk0]
   refine aW qGw c18 (.cons (aR (n:=t[m + 1].2)) .nil) ?_;with_reducible refine aB ?_;simp (disch:=omega) only [push_cast,↓Int.cast_ofNat_Int,simprocAttr,yV,yU,yW hlt,hk0,yW hm,hb]
   refine hK _ ?_;refine zA ?_;refine yD rfl ?_;refine zE ?_;refine zJ (fun K hK=>?_);simp (disch:=omega) only [push_cast,↓Int.cast_ofNat_Int,simprocAttr];refine hK _ ?_
   refine zA ?_;refine zW ?_;refine zK ?_;refine zL ?_;refine zK ?_;refine zK ?_;refine zL ?_;refine zK ?_;simp only [yA,yM,yH,yE,aA,aC,yK,yJ,zS,zM,Nat.reduceEqDiff,reduceIte,reduceCtorEq];exact aL rfl
 |true =>
  rw [hpv] at hA;refine zE ?_;refine zE ?_;refine qEd (fun _:Unit=>⟨[(0,.lst false (aQ t)),(3,.v (.int .i64 i)),(4,.v (.string t[i].1)),(54,.v (.bool false))],[]⟩) (fun _=>True) [0,3,4,54] [] ?_ ?_
  ·rcases Nat.eq_zero_or_pos i with rfl|hpos
   ·refine zJ (fun K hK=>?_);simp (disch:=omega) only [push_cast,↓Int.cast_ofNat_Int,simprocAttr,hk0]
    refine aW zGm c34 (.cons (.v _) (.cons (.v _) .nil)) ?_;with_reducible refine aB ?_;simp (disch:=omega) only [push_cast,↓Int.cast_ofNat_Int,simprocAttr,yV,yU,yW hlt,hk0]
    refine aW qGw c18 (.cons (aR (n:=t[0].2)) .nil) ?_;with_reducible refine aB ?_;simp (disch:=omega) only [push_cast,↓Int.cast_ofNat_Int,simprocAttr,yV,yU,yW hlt,hk0]
    refine hK _ ?_;exact ⟨(),by simp only [zZ,zR,zP,zQ,zN,zS,zM,zX,zU,Nat.reduceEqDiff,reduceIte];rfl,trivial⟩
   ·obtain ⟨m,rfl⟩:∃ m,i=m + 1:=⟨i - 1,by omega⟩
    have hm:m < t.length:=by omega
    have hb:Op.bytesLess t[m].1.toList t[m + 1].1.toList=true:=by
     simp only [Bool.or_eq_true,decide_eq_true_eq] at hpv
     rcases hpv with h|h
     ·omega
     ·rw [Nat.add_sub_cancel,qBt hm] at h;exact h
    refine zJ (fun K hK=>?_);simp (disch:=omega) only [push_cast,↓Int.cast_ofNat_Int,simprocAttr,hk0]
    refine aW zGm c34 (.cons (.v _) (.cons (.v _) .nil)) ?_;with_reducible refine aB ?_;simp (disch:=omega) only [push_cast,↓Int.cast_ofNat_Int,simprocAttr,yV,yU,yW hlt,hk0]
    refine aW qGw c18 (.cons (aR (n:=t[m + 1].2)) .nil) ?_;with_reducible refine aB ?_;simp (disch:=omega) only [push_cast,↓Int.cast_ofNat_Int,simprocAttr,yV,yU,yW hlt,hk0,yW hm,hb]
    refine hK _ ?_;exact ⟨(),by simp only [zZ,zR,zP,zQ,zN,zS,zM,zX,zU,Nat.reduceEqDiff,reduceIte];rfl,trivial⟩
  intro S' _ hE _;refine zA ?_;refine yB [0,3,4,54] [] hE ?_;clear hE;refine yC rfl ?_;refine zC ?_;refine zE ?_
  have cp:=qHd t[i].1 hsz
  have cg:=qHf t (par t[i].1) hl
  have hP:qHe t (atE t i)=(decide (par t[i].1={ data:=#[] }) || decide ((eH t (par t[i].1)).1=1)):=by rw [qHe,qBt hlt]
  have hR:qEy t i=qHe t (atE t i):=by rw [qEy,hA,Bool.true_and]
  cases he:decide (par t[i].1={ data:=#[] }) with
 |true =>
   have hgood:qEy t i=true:=by rw [hR,hP,he];rfl
   refine zJ (fun K hK=>?_);simp (disch:=omega) only [push_cast,↓Int.cast_ofNat_Int,simprocAttr]
   refine aW qVx cp (.cons (.v _) .nil) ?_;with_reducible refine aB ?_;simp (disch:=omega) only [push_cast,↓Int.cast_ofNat_Int,simprocAttr,he]
   refine hK _ ?_;refine yC rfl ?_;refine zC ?_;refine zB ?_;refine zA ?_;refine zJ (fun K hK=>?_);simp (disch:=omega) only [push_cast,↓Int.cast_ofNat_Int,simprocAttr];refine hK _ ?_
   refine zA ?_;exact ⟨i + 1,rfl,⟨hlt,fun j hj=>if h:j=i then h ▸ hgood else ha j (by omega)⟩,by omega⟩
 |false =>
   have hk1:∀ b,decide ((eH t (par t[i].1)).1=1)=b→qEy t i=b:=fun b hb=>by rw [hR,hP,he,hb];rfl
   generalize hg:eH t (par t[i].1)=n at cg hk1;obtain ⟨k,d⟩:=n;dsimp only at hk1
   by_cases hk1':k=1
   ·have hgood:=hk1 true (decide_eq_true hk1')
    refine zJ (fun K hK=>?_);simp (disch:=omega) only [push_cast,↓Int.cast_ofNat_Int,simprocAttr]
    refine aW qVx cp (.cons (.v _) .nil) ?_;with_reducible refine aB ?_;simp (disch:=omega) only [push_cast,↓Int.cast_ofNat_Int,simprocAttr,he]
    refine aW qVx cp (.cons (.v _) .nil) ?_;with_reducible refine aB ?_;simp (disch:=omega) only [push_cast,↓Int.cast_ofNat_Int,simprocAttr,he]
    refine hat 496 qNy cg (.cons (aH (yT _)) (.cons (.v _) .nil)) ?_;rintro _ _ ⟨rfl,rfl⟩;with_reducible refine aB ?_;simp (disch:=omega) only [push_cast,↓Int.cast_ofNat_Int,simprocAttr,he]
    refine hK _ ?_;refine yC rfl ?_;refine zC ?_;refine zB ?_;refine zA ?_;refine zJ (fun K hK=>?_);simp (disch:=omega) only [push_cast,↓Int.cast_ofNat_Int,simprocAttr];refine hK _ ?_
    refine zA ?_;exact ⟨i + 1,rfl,⟨hlt,fun j hj=>if h:j=i then h ▸ hgood else ha j (by omega)⟩,by omega⟩
   ·rw [bad (hk1 false (decide_eq_false hk1'))];refine zJ (fun K hK=>?_);simp (disch:=omega) only [push_cast,↓Int.cast_ofNat_Int,simprocAttr]
    refine aW qVx cp (.cons (.v _) .nil) ?_;with_reducible refine aB ?_;simp (disch:=omega) only [push_cast,↓Int.cast_ofNat_Int,simprocAttr,he]
    refine aW qVx cp (.cons (.v _) .nil) ?_;with_reducible refine aB ?_;simp (disch:=omega) only [push_cast,↓Int.cast_ofNat_Int,simprocAttr,he]
    refine hat 496 qNy cg (.cons (aH (yT _)) (.cons (.v _) .nil)) ?_;rintro _ _ ⟨rfl,rfl⟩;with_reducible refine aB ?_;simp (disch:=omega) only [push_cast,↓Int.cast_ofNat_Int,simprocAttr,he]
    refine hK _ ?_;refine yD rfl ?_;refine zE ?_;refine zJ (fun K hK=>?_);simp (disch:=omega) only [push_cast,↓Int.cast_ofNat_Int,simprocAttr];refine hK _ ?_
    refine zA ?_;refine zW ?_;refine zL ?_;refine zK ?_;refine zK ?_;refine zL ?_;refine zK ?_;simp only [yA,yM,yH,yE,aA,aC,yK,yJ,zS,zM,Nat.reduceEqDiff,reduceIte,reduceCtorEq];exact aL rfl
 ·have hne:i=t.length:=by omega
  subst hne
  have hok:okR t=true:=sN.2 ha
  rw [hok];refine zE ?_;refine zE ?_;refine zJ (fun K hK=>?_);simp (disch:=omega) only [push_cast,↓Int.cast_ofNat_Int,simprocAttr,yV];refine hK _ ?_
  refine zA ?_;refine yC rfl ?_;refine zT ?_;refine zG ?_;refine zG ?_;refine zH ?_;refine zE ?_;refine zJ (fun K hK=>?_);simp (disch:=omega) only [push_cast,↓Int.cast_ofNat_Int,simprocAttr];refine hK _ ?_
  refine zA ?_;refine zW ?_;simp only [yA,yM,yH,yE,aA,aC,yK,yJ,zS,zM,Nat.reduceEqDiff,reduceIte,reduceCtorEq];exact aL rfl
end Go.Proofs.YtdfjeokjmigkaaaGreat
end
section
set_option maxRecDepth 20000
namespace Go.Tr
open Go Go.Eng
theorem zAr (n:Int × ByteArray):FreshH (fE n):=.agg fun x hx=>by simp at hx;rcases hx with rfl|rfl <;> exact .v _
theorem zJo {n:Int × ByteArray} {ρ ρ':Nat→Value} {w:World} {A:Nat→Prop} {n0:Nat} {v:Value} (h:RepH w A n0 ρ v (fE n)):RepH w A n0 ρ' v (fE n):=by
 cases h with
|agg hn h1 h =>
  refine .agg hn h1 fun j a b=>?_
  have:=h j a b
  match j,b with
 |0,_=>rw [bK this];exact .v _
 |1,_=>rw [bK this];exact .v _
theorem zK3 {P:Program} {T:HS} {f:FuncId} {args args':List HV} {n:Int × ByteArray} {K:HV→Prop} (hc:aE P f=true) (H:HFun P f args' (fun h st=>h=fE n∧st=[])) (hl:Lends T.st args args') (hK:K (fE n)):zGz P f args T K :=
 zXu hc H (zAr n) (fun ρ ρ' w A n v h=>zJo h) hl hK
theorem qLp {t:List Ent} (h:okR t=true):∀ e ∈ t,pOk e.1 5=true:=fun e he=>by
 obtain ⟨i,hi,rfl⟩:=List.getElem_of_mem he
 have:=sN.1 h i hi
 simp only [qEy,qRf,Bool.and_eq_true] at this;rw [qBt hi] at this;exact this.1.1
end Go.Tr
end
