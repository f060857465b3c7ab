/-
  A call that answers a node, in a drawn region; what a tree's Check says.
-/
import Derived.Test.YtlihpgmgiehjkaaGreatDoorSwI
import Derived.Test.YtlihpgmgiehjkaaGreatDoorTrC
set_option linter.unusedSimpArgs false
set_option linter.unusedVariables false
section
set_option maxRecDepth 20000
namespace Go.Tr
open Go
def atE (t:List Ent) (i:Nat):Ent:=t.getD i (ByteArray.empty,0,ByteArray.empty)
theorem uR {t:List Ent} {i:Nat} (h:i < t.length):atE t i=t[i]:=by simp [atE,List.getD_eq_getElem?_getD,h]
def qUm (t:List Ent) (i:Nat):Bool:=pOk (atE t i).1 5 && (rC (atE t i).2 && (!decide ((atE t i).2.1=0) && (decide (i=0) || blt (atE t (i - 1)).1 (atE t i).1)))
def zDw (u:List Ent) (e:Ent):Bool:=decide (par e.1={ data:=#[] }) || decide ((bP u (par e.1)).1=1)
def qCa (t:List Ent) (i:Nat):Bool:=qUm t i && zDw t (atE t i)
def okR (t:List Ent):Bool:=(List.range t.length).all (qCa t)
def xS (t:List Ent):Int:=if 200 < t.length then 4 else bif okR t then 0 else 3
theorem tY {n:Nat} {f:Nat→Bool}:(List.range n).all f=true↔∀ i,i < n→f i=true:=by simp [List.all_eq_true]
theorem qX0 {n i:Nat} {f:Nat→Bool} (hi:i < n) (h:f i=false):(List.range n).all f=false:=by
 rw [Bool.eq_false_iff];intro ha;rw [tY.1 ha i hi] at h;cases h
theorem zDz {t:List Ent} (h:∀ i,0 < i→(hi:i < t.length)→blt (t[i - 1]'(by omega)).1 t[i].1=true):rise t:=by
 refine List.pairwise_iff_getElem.2 ?_
 have:∀ (d i:Nat) (h1:i + d + 1 < t.length),blt (t[i]'(by omega)).1 (t[i + d + 1]'h1).1=true:=by
  intro d
  induction d with
 |zero=>intro i h1;exact h (i + 1) (by omega) h1
 |succ d ih =>
   intro i h1
   have a:=ih i (by omega)
   have b:=h (i + d + 1 + 1) (by omega) h1
   exact jL a b
 intro i j hi hj hij
 have:=this (j - i - 1) i (by omega)
 simpa [show i + (j - i - 1) + 1=j by omega] using this
theorem zF8 {t:List Ent} {i:Nat} (h:qUm t i=true) (h0:0 < i) (hi:i < t.length):blt (t[i - 1]'(by omega)).1 t[i].1=true:=by
 simp only [qUm,Bool.and_eq_true,Bool.or_eq_true,decide_eq_true_eq] at h
 rcases h.2.2.2 with h|h
 ·omega
 ·rwa [uR hi,uR (by omega)] at h
theorem zDy {t:List Ent} {i:Nat} (h:∀ j,j < i→qUm t j=true) (hi:i≤t.length):rise (t.take i):=zDz fun j h0 hj=>by
 rw [List.length_take] at hj
 have:=zF8 (h j (by omega)) h0 (by omega)
 simpa using this
theorem zHf {t:List Ent} (h:okR t=true):rise t:=by
 have:=zDy (t:=t) (i:=t.length) (fun j hj=>by
  have:=tY.1 h j hj;simp only [qCa,Bool.and_eq_true] at this;exact this.1) (Nat.le_refl _)
 rwa [List.take_length] at this
theorem zE5 {t:List Ent} (h:xS t=0):t.length≤200∧okR t=true:=by
 unfold xS at h;split at h
 ·cases h
 ·refine ⟨by omega,?_⟩
  cases e:okR t
  ·rw [e] at h;cases h
  ·rfl
end Go.Tr
namespace Go.Proofs.YtlihpgmgiehjkaaGreatDoor
open Go Go.Eng Go.RowKit Go.Tr
theorem zPg:okN true=0:=rfl
theorem zPh:okN false=10:=rfl
set_option maxHeartbeats 8000000 in
theorem qUq (t:List Ent) (hl:t.length≤140737488355328) (hs:∀ e ∈ t,e.1.size≤1048576):HFun Tryz.prog 17 [.lst false (bR t)] (fun h st=>h=.v (.int .i64 (xS t))):=by
 refine jP (N:=66) Tryz.func17 rfl Tryz.ntmps17 Tryz.results17 (by simp) ?_
 unfold xS;refine zE ?_;refine zJ (fun K hK=>?_);simp (disch:=omega) only [push_cast,↓iC9,simprocAttr];refine hK _ ?_;clear hK K
 by_cases h200:200 < t.length
 ·rw [if_pos h200];refine zE ?_;refine zE ?_;refine zJ (fun K hK=>?_);simp (disch:=omega) only [push_cast,↓iC9,simprocAttr,yV];refine hK _ ?_;clear hK K
  refine yD rfl ?_;refine zE ?_;refine zJ (fun K hK=>?_);simp (disch:=omega) only [push_cast,↓iC9,simprocAttr];refine hK _ ?_;clear hK K
  refine zA ?_;refine zW ?_;refine zK ?_;simp only [yA,yM,yH,yE,aL,aV,yK,yJ,zS,zM,Nat.reduceEqDiff,reduceIte,reduceCtorEq];exact bQ rfl
 rw [if_neg h200];refine zE ?_;refine zE ?_;refine zJ (fun K hK=>?_);simp (disch:=omega) only [push_cast,↓iC9,simprocAttr,yV];refine hK _ ?_;clear hK K
 refine yC rfl ?_;refine zC ?_;refine zE ?_;refine zE ?_;refine zJ (fun K hK=>?_);simp (disch:=omega) only [push_cast,↓iC9,simprocAttr];refine hK _ ?_;clear hK K
 refine zA ?_;refine zD ?_;refine iN (fun i:Nat=>⟨[(0,.lst false (bR t)),(3,.v (.int .i64 i))],[]⟩) (fun i=>i≤t.length∧∀ j,j < i→qCa t j=true) (fun i=>t.length - i) [0,3] [] 0 rfl ⟨Nat.zero_le _,fun j h=>by omega⟩ ?_
 rintro i ⟨hi,ha⟩
 by_cases hlt:i < t.length
 ·have hsz:=hs _ (List.getElem_mem hlt)
  have bad:qCa t i=false→okR t=false:=fun h=>qX0 hlt h
  have c34:HFun Tryz.prog 40 [.v (.string t[i].1),.v (.int .i64 5)] (fun h st=>h=.v (.int .i64 (okN (pOk t[i].1 5)))):=zDu t[i].1 5 hsz (by omega)
  have c18:=zF6 t[i].2
  have hA:qUm t i=(pOk t[i].1 5 && (rC t[i].2 && (!decide (t[i].2.1=0) && (decide (i=0) || blt (atE t (i - 1)).1 t[i].1)))):=by rw [qUm,uR hlt]
  refine zE ?_;refine zE ?_;refine zJ (fun K hK=>?_);simp (disch:=omega) only [push_cast,↓iC9,simprocAttr,yV];refine hK _ ?_;clear hK K
  refine zA ?_;refine yD rfl ?_;refine zC ?_;refine zE ?_;refine zD ?_;refine zE ?_;refine zJ (fun K hK=>?_);simp (disch:=omega) only [push_cast,↓iC9,simprocAttr,yV,yU,yW hlt];refine hK _ ?_;clear hK K
  have hk0:∀ (m:Nat),(m:Int) + 1 - 1=m:=fun m=>by omega
  cases hp:pOk t[i].1 5 with
 |false =>
   rw [bad (by rw [qCa,hA,hp];rfl)]
   rw [hp,zPh] at c34;refine zE ?_;refine zE ?_;refine zJ (fun K hK=>?_);simp (disch:=omega) only [push_cast,↓iC9,simprocAttr]
   refine dJ zE4 c34 (.cons (.v _) (.cons (.v _) .nil)) ?_;with_reducible refine aU ?_;simp (disch:=omega) only [push_cast,↓iC9,simprocAttr]
   refine hK _ ?_;clear hK K;refine zA ?_;refine yD rfl ?_;refine zE ?_;refine zJ (fun K hK=>?_);simp (disch:=omega) only [push_cast,↓iC9,simprocAttr];refine hK _ ?_;clear hK K
   refine zA ?_;refine zW ?_;refine zK ?_;refine zL ?_;refine zK ?_;refine zK ?_;refine zL ?_;refine zK ?_;simp only [yA,yM,yH,yE,aL,aV,yK,yJ,zS,zM,Nat.reduceEqDiff,reduceIte,reduceCtorEq];exact bQ rfl
 |true =>
  rw [hp,zPg] at c34
  cases hw:rC t[i].2 with
 |false =>
   rw [bad (by rw [qCa,hA,hp,hw];rfl)]
   rw [hw] at c18;refine zE ?_;refine zE ?_;refine zJ (fun K hK=>?_);simp (disch:=omega) only [push_cast,↓iC9,simprocAttr]
   refine dJ zE4 c34 (.cons (.v _) (.cons (.v _) .nil)) ?_;with_reducible refine aU ?_;simp (disch:=omega) only [push_cast,↓iC9,simprocAttr,yV,yU,yW hlt]
   refine dJ zLe c18 (.cons (sL (n:=t[i].2)) .nil) ?_;with_reducible refine aU ?_;simp (disch:=omega) only [push_cast,↓iC9,simprocAttr]
   refine hK _ ?_;clear hK K;refine zA ?_;refine yD rfl ?_;refine zE ?_;refine zJ (fun K hK=>?_);simp (disch:=omega) only [push_cast,↓iC9,simprocAttr];refine hK _ ?_;clear hK K
   refine zA ?_;refine zW ?_;refine zK ?_;refine zL ?_;refine zK ?_;refine zK ?_;refine zL ?_;refine zK ?_;simp only [yA,yM,yH,yE,aL,aV,yK,yJ,zS,zM,Nat.reduceEqDiff,reduceIte,reduceCtorEq];exact bQ rfl
 |true =>
  rw [hw] at c18
  by_cases hk:t[i].2.1=0
  ·have hkd:decide (t[i].2.1=0)=true:=decide_eq_true hk
   rw [bad (by rw [qCa,hA,hp,hw,hkd];rfl)]
   refine zE ?_;refine zE ?_;refine zJ (fun K hK=>?_);simp (disch:=omega) only [push_cast,↓iC9,simprocAttr]
   refine dJ zE4 c34 (.cons (.v _) (.cons (.v _) .nil)) ?_;with_reducible refine aU ?_;simp (disch:=omega) only [push_cast,↓iC9,simprocAttr,yV,yU,yW hlt]
   refine dJ zLe c18 (.cons (sL (n:=t[i].2)) .nil) ?_;with_reducible refine aU ?_;simp (disch:=omega) only [push_cast,↓iC9,simprocAttr,yV,yU,yW hlt]
   refine hK _ ?_;clear hK K;refine zA ?_;refine yD rfl ?_;refine zE ?_;refine zJ (fun K hK=>?_);simp (disch:=omega) only [push_cast,↓iC9,simprocAttr];refine hK _ ?_;clear hK K
   refine zA ?_;refine zW ?_;refine zK ?_;refine zL ?_;refine zK ?_;refine zK ?_;refine zL ?_;refine zK ?_;simp only [yA,yM,yH,yE,aL,aV,yK,yJ,zS,zM,Nat.reduceEqDiff,reduceIte,reduceCtorEq];exact bQ rfl
  have hkd:decide (t[i].2.1=0)=false:=decide_eq_false hk
  rw [hp,hw,hkd] at hA;simp only [Bool.true_and,Bool.not_false] at hA
  cases hpv:(decide (i=0) || blt (atE t (i - 1)).1 t[i].1) with
 |false =>
   rw [bad (by rw [qCa,hA,hpv];rfl)]
   simp only [Bool.or_eq_false_iff,decide_eq_false_iff_not] at hpv;obtain ⟨m,rfl⟩:∃ m,i=m + 1:=⟨i - 1,by omega⟩
   have hm:m < t.length:=by omega
   have hb:Op.bytesLess t[m].1.toList t[m + 1].1.toList=false:=by
    have:=hpv.2
    rw [Nat.add_sub_cancel,uR hm] at this;exact this
   refine zE ?_;refine zE ?_;refine zJ (fun K hK=>?_);simp (disch:=omega) only [push_cast,↓iC9,simprocAttr,hk0]
   refine dJ zE4 c34 (.cons (.v _) (.cons (.v _) .nil)) ?_;with_reducible refine aU ?_;simp (disch:=omega) only [push_cast,↓iC9,simprocAttr,yV,yU,yW hlt,hk0]
   refine dJ zLe c18 (.cons (sL (n:=t[m + 1].2)) .nil) ?_;with_reducible refine aU ?_;simp (disch:=omega) only [push_cast,↓iC9,simprocAttr,yV,yU,yW hlt,hk0,yW hm,hb]
   refine hK _ ?_;clear hK K;refine zA ?_;refine yD rfl ?_;refine zE ?_;refine zJ (fun K hK=>?_);simp (disch:=omega) only [push_cast,↓iC9,simprocAttr];refine hK _ ?_;clear hK K
   refine zA ?_;refine zW ?_;refine zK ?_;refine zL ?_;refine zK ?_;refine zK ?_;refine zL ?_;refine zK ?_;simp only [yA,yM,yH,yE,aL,aV,yK,yJ,zS,zM,Nat.reduceEqDiff,reduceIte,reduceCtorEq];exact bQ rfl
 |true =>
  rw [hpv] at hA;refine zE ?_;refine zE ?_;refine zNv (fun _:Unit=>⟨[(0,.lst false (bR t)),(3,.v (.int .i64 i)),(4,.v (.string t[i].1)),(54,.v (.bool false))],[]⟩) (fun _=>True) [0,3,4,54] [] ?_ ?_
  ·rcases Nat.eq_zero_or_pos i with rfl|hpos
   ·refine zJ (fun K hK=>?_);simp (disch:=omega) only [push_cast,↓iC9,simprocAttr,hk0]
    refine dJ zE4 c34 (.cons (.v _) (.cons (.v _) .nil)) ?_;with_reducible refine aU ?_;simp (disch:=omega) only [push_cast,↓iC9,simprocAttr,yV,yU,yW hlt,hk0]
    refine dJ zLe c18 (.cons (sL (n:=t[0].2)) .nil) ?_;with_reducible refine aU ?_;simp (disch:=omega) only [push_cast,↓iC9,simprocAttr,yV,yU,yW hlt,hk0]
    refine hK _ ?_;clear hK K;exact ⟨(),by simp only [zZ,zR,zP,zQ,zN,zS,zM,zX,zU,Nat.reduceEqDiff,reduceIte];rfl,trivial⟩
   ·obtain ⟨m,rfl⟩:∃ m,i=m + 1:=⟨i - 1,by omega⟩
    have hm:m < t.length:=by omega
    have hb:Op.bytesLess t[m].1.toList t[m + 1].1.toList=true:=by
     simp only [Bool.or_eq_true,decide_eq_true_eq] at hpv
     rcases hpv with h|h
     ·omega
     ·rw [Nat.add_sub_cancel,uR hm] at h;exact h
    refine zJ (fun K hK=>?_);simp (disch:=omega) only [push_cast,↓iC9,simprocAttr,hk0]
    refine dJ zE4 c34 (.cons (.v _) (.cons (.v _) .nil)) ?_;with_reducible refine aU ?_;simp (disch:=omega) only [push_cast,↓iC9,simprocAttr,yV,yU,yW hlt,hk0]
    refine dJ zLe c18 (.cons (sL (n:=t[m + 1].2)) .nil) ?_;with_reducible refine aU ?_;simp (disch:=omega) only [push_cast,↓iC9,simprocAttr,yV,yU,yW hlt,hk0,yW hm,hb]
    refine hK _ ?_;clear hK K;exact ⟨(),by simp only [zZ,zR,zP,zQ,zN,zS,zM,zX,zU,Nat.reduceEqDiff,reduceIte];rfl,trivial⟩
  intro S' _ hE _;refine zA ?_;refine yB [0,3,4,54] [] hE ?_;clear hE;refine yC rfl ?_;refine zC ?_;refine zE ?_
  have cp:=zDv t[i].1 hsz
  have cg:=zF9 t (par t[i].1) hl
  have hP:zDw t (atE t i)=(decide (par t[i].1={ data:=#[] }) || decide ((bP t (par t[i].1)).1=1)):=by rw [zDw,uR hlt]
  have hR:qCa t i=zDw t (atE t i):=by rw [qCa,hA,Bool.true_and]
  cases he:decide (par t[i].1={ data:=#[] }) with
 |true =>
   have hgood:qCa t i=true:=by rw [hR,hP,he];rfl
   refine zJ (fun K hK=>?_);simp (disch:=omega) only [push_cast,↓iC9,simprocAttr]
   refine dJ zLd cp (.cons (.v _) .nil) ?_;with_reducible refine aU ?_;simp (disch:=omega) only [push_cast,↓iC9,simprocAttr,he]
   refine hK _ ?_;clear hK K;refine yC rfl ?_;refine zC ?_;refine zB ?_;refine zA ?_;refine zJ (fun K hK=>?_);simp (disch:=omega) only [push_cast,↓iC9,simprocAttr];refine hK _ ?_;clear hK K
   refine zA ?_;exact ⟨i + 1,rfl,⟨hlt,fun j hj=>if h:j=i then h ▸ hgood else ha j (by omega)⟩,by omega⟩
 |false =>
   have hk1:∀ b,decide ((bP t (par t[i].1)).1=1)=b→qCa t i=b:=fun b hb=>by rw [hR,hP,he,hb];rfl
   generalize hg:bP t (par t[i].1)=n at cg hk1;obtain ⟨k,d⟩:=n;dsimp only at hk1
   by_cases hk1':k=1
   ·have hgood:=hk1 true (decide_eq_true hk1')
    refine zJ (fun K hK=>?_);simp (disch:=omega) only [push_cast,↓iC9,simprocAttr]
    refine dJ zLd cp (.cons (.v _) .nil) ?_;with_reducible refine aU ?_;simp (disch:=omega) only [push_cast,↓iC9,simprocAttr,he]
    refine dJ zLd cp (.cons (.v _) .nil) ?_;with_reducible refine aU ?_;simp (disch:=omega) only [push_cast,↓iC9,simprocAttr,he]
    refine hat 496 zNl cg (.cons (iE (yT _)) (.cons (.v _) .nil)) ?_;rintro _ _ ⟨rfl,rfl⟩;with_reducible refine aU ?_;simp (disch:=omega) only [push_cast,↓iC9,simprocAttr,he]
    refine hK _ ?_;clear hK K;refine yC rfl ?_;refine zC ?_;refine zB ?_;refine zA ?_;refine zJ (fun K hK=>?_);simp (disch:=omega) only [push_cast,↓iC9,simprocAttr];refine hK _ ?_;clear hK K
    refine zA ?_;exact ⟨i + 1,rfl,⟨hlt,fun j hj=>if h:j=i then h ▸ hgood else ha j (by omega)⟩,by omega⟩
   ·rw [bad (hk1 false (decide_eq_false hk1'))];refine zJ (fun K hK=>?_);simp (disch:=omega) only [push_cast,↓iC9,simprocAttr]
    refine dJ zLd cp (.cons (.v _) .nil) ?_;with_reducible refine aU ?_;simp (disch:=omega) only [push_cast,↓iC9,simprocAttr,he]
    refine dJ zLd cp (.cons (.v _) .nil) ?_;with_reducible refine aU ?_;simp (disch:=omega) only [push_cast,↓iC9,simprocAttr,he]
    refine hat 496 zNl cg (.cons (iE (yT _)) (.cons (.v _) .nil)) ?_;rintro _ _ ⟨rfl,rfl⟩;with_reducible refine aU ?_;simp (disch:=omega) only [push_cast,↓iC9,simprocAttr,he]
    refine hK _ ?_;clear hK K;refine yD rfl ?_;refine zE ?_;refine zJ (fun K hK=>?_);simp (disch:=omega) only [push_cast,↓iC9,simprocAttr];refine hK _ ?_;clear hK K
    refine zA ?_;refine zW ?_;refine zL ?_;refine zK ?_;refine zK ?_;refine zL ?_;refine zK ?_;simp only [yA,yM,yH,yE,aL,aV,yK,yJ,zS,zM,Nat.reduceEqDiff,reduceIte,reduceCtorEq];exact bQ rfl
 ·have hne:i=t.length:=by omega
  subst hne
  have hok:okR t=true:=tY.2 ha
  rw [hok];refine zE ?_;refine zE ?_;refine zJ (fun K hK=>?_);simp (disch:=omega) only [push_cast,↓iC9,simprocAttr,yV];refine hK _ ?_;clear hK K
  refine zA ?_;refine yC rfl ?_;refine zT ?_;refine zG ?_;refine zG ?_;refine zH ?_;refine zE ?_;refine zJ (fun K hK=>?_);simp (disch:=omega) only [push_cast,↓iC9,simprocAttr];refine hK _ ?_;clear hK K
  refine zA ?_;refine zW ?_;simp only [yA,yM,yH,yE,aL,aV,yK,yJ,zS,zM,Nat.reduceEqDiff,reduceIte,reduceCtorEq];exact bQ rfl
end Go.Proofs.YtlihpgmgiehjkaaGreatDoor
end
section
namespace Go.Tr
open Go
def fC:List Ent→List Ent→List ByteArray
|[],[]=>[]
|x :: a,[]=>x.1 :: fC a []
|[],y :: b=>y.1 :: fC [] b
|x :: a,y :: b=>if blt x.1 y.1 then x.1 :: fC a (y :: b) else if blt y.1 x.1 then y.1 :: fC (x :: a) b else if x.2=y.2 then fC a b else x.1 :: fC a b
termination_by a b=>a.length + b.length
theorem zK5:fC [] []=[]:=by rw [fC]
theorem qXp (x:Ent) (a:List Ent):fC (x :: a) []=x.1 :: fC a []:=by rw [fC]
theorem qXl (y:Ent) (b:List Ent):fC [] (y :: b)=y.1 :: fC [] b:=by rw [fC]
theorem qXm {x y:Ent} {a b:List Ent} (h:blt x.1 y.1=true):fC (x :: a) (y :: b)=x.1 :: fC a (y :: b):=by rw [fC,if_pos h]
theorem qXn {x y:Ent} {a b:List Ent} (h:blt y.1 x.1=true):fC (x :: a) (y :: b)=y.1 :: fC (x :: a) b:=by rw [fC,if_neg (by rw [gG h];simp),if_pos h]
theorem qXo {x y:Ent} {a b:List Ent} (h:x.1=y.1):fC (x :: a) (y :: b)=if x.2=y.2 then fC a b else x.1 :: fC a b:=by rw [fC,h,eD];simp
theorem qP9 {Q:List Ent→List Ent→Prop} (nn:Q [] []) (cn:∀ x a,Q a []→Q (x :: a) []) (nc:∀ y b,Q [] b→Q [] (y :: b))
  (lt:∀ x a y b,blt x.1 y.1=true→Q a (y :: b)→Q (x :: a) (y :: b)) (gt:∀ x a y b,blt y.1 x.1=true→Q (x :: a) b→Q (x :: a) (y :: b)) (eq:∀ x a y b,x.1=y.1→Q a b→Q (x :: a) (y :: b)):∀ a b,Q a b:=by
 have:∀ n a b,a.length + b.length≤n→Q a b:=by
  intro n
  induction n with
 |zero =>
   intro a b h
   cases a with
  |nil=>cases b with
   |nil=>exact nn
   |cons y b=>simp at h
  |cons x a=>simp at h
 |succ n ih =>
   intro a b h
   cases a with
  |nil=>cases b with
   |nil=>exact nn
   |cons y b=>exact nc y b (ih _ _ (by simp at h ⊢;omega))
  |cons x a=>cases b with
   |nil=>exact cn x a (ih _ _ (by simp at h ⊢;omega))
   |cons y b =>
     rcases qHc x.1 y.1 with h1|h1|h1
     ·exact lt x a y b h1 (ih _ _ (by simp at h ⊢;omega))
     ·exact eq x a y b h1 (ih _ _ (by simp at h ⊢;omega))
     ·exact gt x a y b h1 (ih _ _ (by simp at h ⊢;omega))
 exact fun a b=>this _ a b (Nat.le_refl _)
def above (p:ByteArray) (t:List Ent):Prop:=∀ e ∈ t,blt p e.1=true
theorem kR {x:Ent} {t:List Ent}:rise (x :: t)↔above x.1 t∧rise t:=List.pairwise_cons
theorem qNp {p:ByteArray} {x:Ent} {t:List Ent} (h:blt p x.1=true) (h':above x.1 t):above p (x :: t):=fun e he=>by
 rcases List.mem_cons.1 he with rfl|he
 ·exact h
 ·exact jL h (h' e he)
theorem qZz:∀ a b,fC a b=[]→a=b:=by
 refine qP9 (fun _=>rfl) (fun x a _ h=>?_) (fun y b _ h=>?_) (fun x a y b h _ h2=>?_) (fun x a y b h _ h2=>?_) (fun x a y b h ih h2=>?_)
 ·rw [qXp] at h;cases h
 ·rw [qXl] at h;cases h
 ·rw [qXm h] at h2;cases h2
 ·rw [qXn h] at h2;cases h2
 ·rw [qXo h] at h2;split at h2
  ·rename_i e;rw [ih h2,Prod.ext h e]
  ·cases h2
theorem nD (x:Ent) (t:List Ent) (p:ByteArray):bP (x :: t) p=if x.1=p then x.2 else bP t p:=by
 unfold bP;rw [List.find?_cons]
 by_cases h:x.1=p
 ·rw [decide_eq_true h,if_pos h];rfl
 ·rw [decide_eq_false h,if_neg h]
theorem uP {t:List Ent} {p:ByteArray} (h:above p t):bP t p=qBa:=by
 refine qRu ?_;unfold gX;rw [List.any_eq_false];intro e he
 have:=qNn (h e he)
 simpa using fun e'=>this e'.symm
def kinds (t:List Ent):Prop:=∀ e ∈ t,e.2≠qBa
theorem kY {x:Ent} {t:List Ent} (h:kinds (x :: t)):x.2≠qBa∧kinds t:=⟨h x (by simp),fun e he=>h e (by simp [he])⟩
theorem zEw (p:ByteArray):∀ a b,rise a→rise b→kinds a→kinds b→(p ∈ fC a b↔bP a p≠bP b p):=by
 have nilab:∀ p,above p []:=fun p e he=>by simp at he
 have g0:bP [] p=qBa:=rfl
 refine qP9 (fun _ _ _ _=>by rw [zK5];simp) (fun x a ih ra rb ka kb=>?_) (fun y b ih ra rb ka kb=>?_) (fun x a y b h ih ra rb ka kb=>?_) (fun x a y b h ih ra rb ka kb=>?_) (fun x a y b h ih ra rb ka kb=>?_)
 ·rw [kR] at ra;obtain ⟨k1,k2⟩:=kY ka;rw [qXp,List.mem_cons,nD,ih ra.2 rb k2 kb]
  by_cases e:x.1=p
  ·rw [if_pos e,g0];exact ⟨fun _=>k1,fun _=>.inl e.symm⟩
  ·rw [if_neg e];exact ⟨fun h=>h.resolve_left fun e'=>e e'.symm,.inr⟩
 ·rw [kR] at rb;obtain ⟨k1,k2⟩:=kY kb;rw [qXl,List.mem_cons,nD,ih ra rb.2 ka k2]
  by_cases e:y.1=p
  ·rw [if_pos e,g0];exact ⟨fun _ h=>k1 h.symm,fun _=>.inl e.symm⟩
  ·rw [if_neg e];exact ⟨fun h=>h.resolve_left fun e'=>e e'.symm,.inr⟩
 ·have rb':=kR.1 rb
  rw [kR] at ra;obtain ⟨k1,k2⟩:=kY ka;rw [qXm h,List.mem_cons,nD,ih ra.2 rb k2 kb]
  by_cases e:x.1=p
  ·subst e;rw [if_pos rfl,uP (qNp h rb'.1)];exact ⟨fun _=>k1,fun _=>.inl rfl⟩
  ·rw [if_neg e];exact ⟨fun h=>h.resolve_left fun e'=>e e'.symm,.inr⟩
 ·have ra':=kR.1 ra
  rw [kR] at rb;obtain ⟨k1,k2⟩:=kY kb;rw [qXn h,List.mem_cons,nD y,ih ra rb.2 ka k2]
  by_cases e:y.1=p
  ·subst e;rw [if_pos rfl,uP (qNp h ra'.1)];exact ⟨fun _ h=>k1 h.symm,fun _=>.inl rfl⟩
  ·rw [if_neg e];exact ⟨fun h=>h.resolve_left fun e'=>e e'.symm,.inr⟩
 ·rw [kR] at ra rb;obtain ⟨k1,k2⟩:=kY ka;obtain ⟨k3,k4⟩:=kY kb
  have ih:=ih ra.2 rb.2 k2 k4
  rw [qXo h,nD,nD,← h]
  by_cases e:x.1=p
  ·subst e;rw [if_pos rfl,if_pos rfl];rw [uP ra.1,uP (h ▸ rb.1)] at ih
   by_cases e2:x.2=y.2
   ·rw [if_pos e2];exact ⟨fun h=>absurd rfl (ih.1 h),fun h=>absurd e2 h⟩
   ·rw [if_neg e2];exact ⟨fun _=>e2,fun _=>by simp⟩
  ·rw [if_neg e,if_neg e]
   by_cases e2:x.2=y.2
   ·rw [if_pos e2];exact ih
   ·rw [if_neg e2,List.mem_cons,ih];exact ⟨fun h=>h.resolve_left fun e'=>e e'.symm,.inr⟩
end Go.Tr
end
section
set_option maxRecDepth 20000
namespace Go.Tr
open Go Go.Eng
theorem qZt (n:Int × ByteArray):FreshH (uX n):=.agg fun x hx=>by simp at hx;rcases hx with rfl|rfl <;> exact .v _
theorem zHh {n:Int × ByteArray} {ρ ρ':Nat→Value} {w:World} {A:Nat→Prop} {n0:Nat} {v:Value} (h:RepH w A n0 ρ v (uX n)):RepH w A n0 ρ' v (uX n):=by
 cases h with
|agg hn h1 h =>
  refine .agg hn h1 fun j a b=>?_
  have:=h j a b
  match j,b with
 |0,_=>rw [bD this];exact .v _
 |1,_=>rw [bD this];exact .v _
theorem qRb {P:Program} {T:HS} {f:FuncId} {args args':List HV} {n:Int × ByteArray} {K:HV→Prop} (hc:aK P f=true) (H:HFun P f args' (fun h st=>h=uX n∧st=[])) (hl:Lends T.st args args') (hK:K (uX n)):zL0 P f args T K :=
 zT6 hc H (qZt n) (fun ρ ρ' w A n v h=>zHh h) hl hK
end Go.Tr
end
