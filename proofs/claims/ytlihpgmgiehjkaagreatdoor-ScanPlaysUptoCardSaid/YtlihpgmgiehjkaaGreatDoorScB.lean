/-
  Scan: the law's first look: a folder with a gH in it, ay the disk holds it: plain.
-/
import Derived.Test.YtlihpgmgiehjkaaGreatDoorTrE
import Derived.Test.YtlihpgmgiehjkaaGreatDoorTrJ
import Derived.Test.YtlihpgmgiehjkaaGreatDoorSwL
import Derived.Test.YtlihpgmgiehjkaaGreatDoorDlE
import Derived.Test.YtlihpgmgiehjkaaGreatDoorDlC
set_option linter.unusedSimpArgs false
set_option linter.unusedVariables false
section
set_option maxRecDepth 20000
namespace Go.Proofs.YtlihpgmgiehjkaaGreatDoor
open Go Go.Eng Go.RowKit Go.Tr
theorem i3:(sizeOf 3).run Tryz.prog=fun w=>.ok 1 w:=by funext w;kernel_rfl
theorem i9:(sizeOf 9).run Tryz.prog=fun w=>.ok 1 w:=by funext w;kernel_rfl
theorem i24:(sizeOf 52).run Tryz.prog=fun w=>.ok 2 w:=by funext w;kernel_rfl
theorem zLm (d:Nat) (x y:Int) (w:World):(Op.equalIn (d + 1) 3 (.int .i64 x) (.int .i64 y)).run Tryz.prog w=.ok (decide (x=y)) w:=by
 simp [Op.equalIn,run_underlying Tryz.underlying3]
 by_cases h:x=y <;> simp [h]
theorem zTx:Tryz.prog.stoodInHeld 52=false:=by kernel_rfl
theorem zTw:Tryz.prog.stoodInHeld 54=false:=by kernel_rfl
theorem zDc (d:Nat) (x y:ByteArray) (w:World):(Op.equalIn (d + 1) 9 (.string x) (.string y)).run Tryz.prog w=.ok (decide (x=y)) w:=by
 unfold Op.equalIn;simp [run_underlying Tryz.underlying9];obtain ⟨a⟩:=x;obtain ⟨b⟩:=y;show (a == b)=_
 by_cases h:a=b <;> simp [h]
theorem zLl (d:Nat) (x y:Int) (s t:ByteArray) (w:World):(Op.equalIn (d + 2) 52 (.agg #[.int .i64 x,.string s]) (.agg #[.int .i64 y,.string t])).run Tryz.prog w=.ok (decide (x=y∧s=t)) w:=by
 unfold Op.equalIn;simp [run_underlying Tryz.underlying52,zTx,i3,i9,part,cJ kt3,cJ kt9,zLm,zDc,Sem.run_bind]
 have hr:List.range' 0 2=[0,1]:=rfl
 try rw [hr]
 try simp [cJ kt3,cJ kt9,zLm,zDc,Sem.run_bind]
 by_cases h1:x=y <;> by_cases h2:s=t <;> simp [h1,h2]
theorem eqE (p q:ByteArray) (x y:Int) (s t:ByteArray):EqR Tryz.prog 54 [.string p,.int .i64 x,.string s].toArray [.string q,.int .i64 y,.string t].toArray (decide ((p,x,s)=(q,y,t))):=by
 refine ⟨by kernel_rfl,fun w=>?_⟩
 unfold Op.equal Op.maxDepth Op.equalIn;simp [run_underlying Tryz.underlying54,zTw,i9,i24,part,cJ kt9,iH zNj,zDc,zLl,Sem.run_bind]
 by_cases h0:p=q <;> by_cases h1:x=y <;> by_cases h2:s=t <;> simp [h0,h1,h2]
end Go.Proofs.YtlihpgmgiehjkaaGreatDoor
end
section
set_option maxRecDepth 20000
namespace Go.Tr
open Go
end Go.Tr
namespace Go.Proofs.YtlihpgmgiehjkaaGreatDoor
open Go Go.Eng Go.RowKit Go.Tr
theorem qPn {α:Type} {a b:List α} {i:Nat} (h:a.take i=b.take i) (h1:i < a.length) (h2:i < b.length) (he:a[i]=b[i]):a.take (i + 1)=b.take (i + 1):=by
 rw [List.take_succ_eq_append_getElem h1,List.take_succ_eq_append_getElem h2,h,he]
set_option maxHeartbeats 2000000 in
theorem zA5 (a b:List Ent) (ha:a.length≤140737488355328):HFun Tryz.prog 12 [.lst false (jR a),.lst false (jR b)] (fun h st=>h=.v (.bool (decide (a=b)))):=by
 refine iD (N:=26) Tryz.func12 rfl Tryz.ntmps12 Tryz.results12 (by simp) ?_
 refine zE ?_;refine zJ (fun K hK=>?_);simp (disch:=omega) only [push_cast,↓iC9,simprocAttr];refine hK _ ?_;clear hK K
 by_cases hl:a.length=b.length
 ·refine zE ?_;refine zE ?_;refine zJ (fun K hK=>?_);simp (disch:=omega) only [push_cast,↓iC9,simprocAttr,yV];refine hK _ ?_;clear hK K
  refine zA ?_;refine yC rfl ?_;refine zC ?_;refine zE ?_;refine zE ?_;refine zJ (fun K hK=>?_);simp (disch:=omega) only [push_cast,↓iC9,simprocAttr];refine hK _ ?_;clear hK K
  refine zA ?_;refine zD ?_;refine dW (fun i:Nat=>⟨[(0,.lst false (jR a)),(1,.lst false (jR b)),(5,.v (.int .i64 i))],[]⟩) (fun i=>i≤a.length∧a.take i=b.take i) (fun i=>a.length - i) [0,1,5] [] 0 rfl ⟨Nat.zero_le _,rfl⟩ ?_
  rintro i ⟨hi,hp⟩
  by_cases hia:i < a.length
  ·have hib:i < b.length:=by omega
   refine zE ?_;refine zE ?_;refine zJ (fun K hK=>?_);simp (disch:=omega) only [push_cast,↓iC9,simprocAttr,yV];refine hK _ ?_;clear hK K
   refine zA ?_;refine yD rfl ?_;refine zC ?_;refine zE ?_
   by_cases he:a[i]=b[i]
   ·have he':decide ((a[i].1,a[i].2.1,a[i].2.2)=(b[i].1,b[i].2.1,b[i].2.2))=true:=by rw [he];simp
    refine zD ?_;refine zE ?_;refine HW_drw 9 mixed (by kernel_rfl) (fun K hK=>?_);simp (disch:=omega) only [push_cast,↓iC9,simprocAttr,yV,yU,yW hia,yW hib,he']
    refine ⟨_,eqE _ _ _ _ _ _,?_⟩;with_reducible refine aM ?_;simp (disch:=omega) only [push_cast,↓iC9,simprocAttr,he']
    with_reducible refine aM ?_;simp (disch:=omega) only [push_cast,↓iC9,simprocAttr]
    refine hK _ ?_;clear hK K;refine yC rfl ?_;refine zC ?_;refine zB ?_;refine zA ?_;refine zJ (fun K hK=>?_);simp (disch:=omega) only [push_cast,↓iC9,simprocAttr];refine hK _ ?_;clear hK K
    refine zA ?_;exact ⟨i + 1,rfl,⟨hia,qPn hp hia hib he⟩,by omega⟩
   ·have he':decide ((a[i].1,a[i].2.1,a[i].2.2)=(b[i].1,b[i].2.1,b[i].2.2))=false:=decide_eq_false he
    refine zD ?_;refine zE ?_;refine HW_drw 9 mixed (by kernel_rfl) (fun K hK=>?_);simp (disch:=omega) only [push_cast,↓iC9,simprocAttr,yV,yU,yW hia,yW hib,he']
    refine ⟨_,eqE _ _ _ _ _ _,?_⟩;with_reducible refine aM ?_;simp (disch:=omega) only [push_cast,↓iC9,simprocAttr,he']
    with_reducible refine aM ?_;simp (disch:=omega) only [push_cast,↓iC9,simprocAttr]
    refine hK _ ?_;clear hK K;refine yD rfl ?_;refine zE ?_;refine zJ (fun K hK=>?_);simp (disch:=omega) only [push_cast,↓iC9,simprocAttr];refine hK _ ?_;clear hK K
    refine zA ?_;refine zW ?_;refine zL ?_;refine zK ?_;refine zK ?_;refine zL ?_;refine zK ?_;simp only [yA,yM,yH,yE,aL,aU,yK,yJ,zS,zM,Nat.reduceEqDiff,reduceIte,reduceCtorEq];refine bK ?_;rw [decide_eq_false (fun e=>he (by subst e;rfl))]
  ·refine zE ?_;refine zE ?_;refine zJ (fun K hK=>?_);simp (disch:=omega) only [push_cast,↓iC9,simprocAttr,yV];refine hK _ ?_;clear hK K
   refine zA ?_;refine yC rfl ?_;refine zT ?_;refine zG ?_;refine zG ?_;refine zH ?_;refine zE ?_;refine zJ (fun K hK=>?_);simp (disch:=omega) only [push_cast,↓iC9,simprocAttr];refine hK _ ?_;clear hK K
   refine zA ?_;refine zW ?_;simp only [yA,yM,yH,yE,aL,aU,yK,yJ,zS,zM,Nat.reduceEqDiff,reduceIte,reduceCtorEq];refine bK ?_;rw [List.take_of_length_le (by omega),List.take_of_length_le (by omega)] at hp
   rw [decide_eq_true hp]
 ·refine zE ?_;refine zE ?_;refine zJ (fun K hK=>?_);simp (disch:=omega) only [push_cast,↓iC9,simprocAttr,yV];refine hK _ ?_;clear hK K
  refine zA ?_;refine yD rfl ?_;refine zE ?_;refine zJ (fun K hK=>?_);simp (disch:=omega) only [push_cast,↓iC9,simprocAttr];refine hK _ ?_;clear hK K
  refine zA ?_;refine zW ?_;refine zK ?_;simp only [yA,yM,yH,yE,aL,aU,yK,yJ,zS,zM,Nat.reduceEqDiff,reduceIte,reduceCtorEq];refine bK ?_;rw [decide_eq_false (fun e=>hl (by rw [e]))]
end Go.Proofs.YtlihpgmgiehjkaaGreatDoor
end
section
set_option maxRecDepth 20000
namespace Go.Proofs.YtlihpgmgiehjkaaGreatDoor
open Go Go.Eng Go.RowKit Go.Maps Go.Tr Go.Dk Go.Sw
theorem zTv:Tryz.prog.stoodInHeld 83=false:=by kernel_rfl
theorem zLk (p q:ByteArray) (m n x y:Int) (s t:ByteArray):EqR Tryz.prog 83 [.string p,.int .i64 m,.int .i64 x,.string s].toArray [.string q,.int .i64 n,.int .i64 y,.string t].toArray (decide ((p,m,x,s)=(q,n,y,t))):=by
 refine ⟨by kernel_rfl,fun w=>?_⟩
 unfold Op.equal Op.maxDepth Op.equalIn;simp [run_underlying Tryz.underlying83,zTv,i9,i3,i24,part,cJ kt9,cJ kt3,iH zNj,zDc,zLm,zLl,Sem.run_bind]
 by_cases h0:p=q <;> by_cases h3:m=n <;> by_cases h1:x=y <;> by_cases h2:s=t <;> simp [h0,h1,h2,h3]
theorem zG1 (a b:List Sn) (fa fb:Bool) (ha:a.length≤140737488355328):HFun Tryz.prog 14 [.lst fa (dY a),.lst fb (dY b)] (fun h st=>h=.v (.bool (decide (a=b)))):=by
 refine iD (N:=26) Tryz.func14 rfl Tryz.ntmps14 Tryz.results14 (by simp) ?_
 refine zE ?_;refine zJ (fun K hK=>?_);simp (disch:=omega) only [push_cast,↓iC9,simprocAttr];refine hK _ ?_;clear hK K
 by_cases hl:a.length=b.length
 ·refine zE ?_;refine zE ?_;refine zJ (fun K hK=>?_);simp (disch:=omega) only [push_cast,↓iC9,simprocAttr,cY];refine hK _ ?_;clear hK K
  refine zA ?_;refine yC rfl ?_;refine zC ?_;refine zE ?_;refine zE ?_;refine zJ (fun K hK=>?_);simp (disch:=omega) only [push_cast,↓iC9,simprocAttr];refine hK _ ?_;clear hK K
  refine zA ?_;refine zD ?_;refine dW (fun i:Nat=>⟨[(0,.lst fa (dY a)),(1,.lst fb (dY b)),(5,.v (.int .i64 i))],[]⟩) (fun i=>i≤a.length∧a.take i=b.take i) (fun i=>a.length - i) [0,1,5] [] 0 rfl ⟨Nat.zero_le _,rfl⟩ ?_
  rintro i ⟨hi,hp⟩
  by_cases hia:i < a.length
  ·have hib:i < b.length:=by omega
   refine zE ?_;refine zE ?_;refine zJ (fun K hK=>?_);simp (disch:=omega) only [push_cast,↓iC9,simprocAttr,cY];refine hK _ ?_;clear hK K
   refine zA ?_;refine yD rfl ?_;refine zC ?_;refine zE ?_
   by_cases he:a[i]=b[i]
   ·have he':decide ((a[i].1,a[i].2.1,a[i].2.2.1,a[i].2.2.2)=(b[i].1,b[i].2.1,b[i].2.2.1,b[i].2.2.2))=true:=by rw [he];simp
    refine zD ?_;refine zE ?_;refine HW_drw 9 mixed (by kernel_rfl) (fun K hK=>?_);simp (disch:=omega) only [push_cast,↓iC9,simprocAttr,cY,lA,mH hia,mH hib,he']
    refine ⟨_,zLk _ _ _ _ _ _ _ _,?_⟩;with_reducible refine aM ?_;simp (disch:=omega) only [push_cast,↓iC9,simprocAttr,he']
    with_reducible refine aM ?_;simp (disch:=omega) only [push_cast,↓iC9,simprocAttr]
    refine hK _ ?_;clear hK K;refine yC rfl ?_;refine zC ?_;refine zB ?_;refine zA ?_;refine zJ (fun K hK=>?_);simp (disch:=omega) only [push_cast,↓iC9,simprocAttr];refine hK _ ?_;clear hK K
    refine zA ?_;exact ⟨i + 1,rfl,⟨hia,qPn hp hia hib he⟩,by omega⟩
   ·have he':decide ((a[i].1,a[i].2.1,a[i].2.2.1,a[i].2.2.2)=(b[i].1,b[i].2.1,b[i].2.2.1,b[i].2.2.2))=false:=decide_eq_false he
    refine zD ?_;refine zE ?_;refine HW_drw 9 mixed (by kernel_rfl) (fun K hK=>?_);simp (disch:=omega) only [push_cast,↓iC9,simprocAttr,cY,lA,mH hia,mH hib,he']
    refine ⟨_,zLk _ _ _ _ _ _ _ _,?_⟩;with_reducible refine aM ?_;simp (disch:=omega) only [push_cast,↓iC9,simprocAttr,he']
    with_reducible refine aM ?_;simp (disch:=omega) only [push_cast,↓iC9,simprocAttr]
    refine hK _ ?_;clear hK K;refine yD rfl ?_;refine zE ?_;refine zJ (fun K hK=>?_);simp (disch:=omega) only [push_cast,↓iC9,simprocAttr];refine hK _ ?_;clear hK K
    refine zA ?_;refine zW ?_;refine zL ?_;refine zK ?_;refine zK ?_;refine zL ?_;refine zK ?_;simp only [yA,yM,yH,yE,aL,aU,yK,yJ,zS,zM,Nat.reduceEqDiff,reduceIte,reduceCtorEq];refine bK ?_;rw [decide_eq_false (fun e=>he (by subst e;rfl))]
  ·refine zE ?_;refine zE ?_;refine zJ (fun K hK=>?_);simp (disch:=omega) only [push_cast,↓iC9,simprocAttr,cY];refine hK _ ?_;clear hK K
   refine zA ?_;refine yC rfl ?_;refine zT ?_;refine zG ?_;refine zG ?_;refine zH ?_;refine zE ?_;refine zJ (fun K hK=>?_);simp (disch:=omega) only [push_cast,↓iC9,simprocAttr];refine hK _ ?_;clear hK K
   refine zA ?_;refine zW ?_;simp only [yA,yM,yH,yE,aL,aU,yK,yJ,zS,zM,Nat.reduceEqDiff,reduceIte,reduceCtorEq];refine bK ?_;rw [List.take_of_length_le (by omega),List.take_of_length_le (by omega)] at hp
   rw [decide_eq_true hp]
 ·refine zE ?_;refine zE ?_;refine zJ (fun K hK=>?_);simp (disch:=omega) only [push_cast,↓iC9,simprocAttr,cY];refine hK _ ?_;clear hK K
  refine zA ?_;refine yD rfl ?_;refine zE ?_;refine zJ (fun K hK=>?_);simp (disch:=omega) only [push_cast,↓iC9,simprocAttr];refine hK _ ?_;clear hK K
  refine zA ?_;refine zW ?_;refine zK ?_;simp only [yA,yM,yH,yE,aL,aU,yK,yJ,zS,zM,Nat.reduceEqDiff,reduceIte,reduceCtorEq];refine bK ?_;rw [decide_eq_false (fun e=>hl (by rw [e]))]
end Go.Proofs.YtlihpgmgiehjkaaGreatDoor
end
section
set_option maxRecDepth 20000
namespace Go.Sw
open Go Go.Tr Go.Eng Go.Dk Go.Proofs.YtlihpgmgiehjkaaGreatDoor
theorem zB5 {p:ByteArray} {n:Int} {m:Nd}:∀ (l:List Sn) (kn:iT),(l.foldl wP kn) p n=some m→(∃ x ∈ l,x.1=p∧x.2.1=n∧x.2.2=m∧x.2.2.1=2)∨kn p n=some m
|[],kn,h=>.inr h
|x :: l,kn,h=>by
  rcases zB5 l (wP kn x) h with ⟨y,hy,r⟩|h
  ·exact .inl ⟨y,List.mem_cons_of_mem _ hy,r⟩
  ·unfold wP at h;split at h
   ·rename_i hk;dsimp only at h;split at h
    ·rename_i hp;exact .inl ⟨x,List.mem_cons_self ..,hp.1.symm,hp.2.symm,Option.some.inj h,hk⟩
    ·exact .inr h
   ·exact .inr h
theorem zB6 {e:Sn}:∀ (l:List Sn) (kn:iT),(l.foldl wP kn) e.1 e.2.1=none↔l.any (kn1 e)=false∧kn e.1 e.2.1=none
|[],kn=>by simp
|x :: l,kn=>by
  rw [List.foldl_cons,zB6 l,List.any_cons,Bool.or_eq_false_iff];unfold wP kn1
  by_cases hk:x.2.2.1=2
  ·rw [if_pos hk]
   by_cases h1:e.1=x.1∧e.2.1=x.2.1
   ·rw [if_pos h1];obtain ⟨a,b⟩:=h1;simp [a,b,hk]
   ·rw [if_neg h1]
    have:(decide (x.1=e.1) && decide (x.2.1=e.2.1) && decide (x.2.2.1=2))=false:=by
     rw [Bool.eq_false_iff];intro h;simp only [Bool.and_eq_true,decide_eq_true_eq] at h;exact h1 ⟨h.1.1.symm,h.1.2.symm⟩
    rw [this];simp
  ·rw [if_neg hk];simp [hk]
def ndV (d:Dk) (v:ByteArray) (kn:iT) (q:ByteArray):Nd:=if fD d q=1 then (1,ByteArray.empty) else (kn (cV v q) (cH d q)).getD (2,(nH d q).1)
def nu (d:Dk) (v:ByteArray) (kn:iT) (q:ByteArray):Bool:=!decide (fD d q=1) && (kn (cV v q) (cH d q)).isNone
theorem qTe (d:Dk) (v:ByteArray) (kn:iT) (w:Wk) (q:ByteArray):(iC d v kn w q).F=put (cV v q) (ndV d v kn q) w.F∧(iC d v kn w q).T=(if fD d q=1 then w.T else put (cV v q) (cH d q) w.T)∧(iC d v kn w q).reads=w.reads + if nu d v kn q=true then 1 else 0:=by
 unfold iC ndV nu
 by_cases hk:fD d q=1
 ·simp only [hk,if_true];exact ⟨rfl,rfl,by show w.reads=_;simp⟩
 ·simp only [hk,if_false]
  cases kn (cV v q) (cH d q) with
 |some n=>exact ⟨rfl,rfl,by show w.reads + 0=_;simp⟩
 |none=>exact ⟨rfl,rfl,by show w.reads + 1=_;simp⟩
theorem qS8 {d:Dk} {v:ByteArray} {kn:iT} {o:ByteArray}:∀ (l:List ByteArray) (w:Wk),(∀ q ∈ l,cV v q≠o)→aS (eM d v kn w l).F o=aS w.F o∧aS (eM d v kn w l).T o=aS w.T o
|[],w,_=>⟨rfl,rfl⟩
|q :: l,w,h=>by
  rw [gZ];obtain ⟨a,b⟩:=qS8 (d:=d) (kn:=kn) l (iC d v kn w q) fun x hx=>h x (List.mem_cons_of_mem _ hx)
  obtain ⟨c,e,-⟩:=qTe d v kn w q
  have hq:=h q (List.mem_cons_self ..)
  have hq':¬ o=cV v q:=fun e=>hq e.symm
  refine ⟨by rw [a,c,kA,if_neg hq'],?_⟩
  rw [b,e];split
  ·rfl
  ·rw [kA,if_neg hq']
theorem qS9 {d:Dk} {v:ByteArray} {kn:iT} {q:ByteArray}:∀ (l:List ByteArray) (w:Wk),l.Nodup→(∀ a ∈ l,∀ b ∈ l,cV v a=cV v b→a=b)→q ∈ l →
  aS (eM d v kn w l).F (cV v q)=some (ndV d v kn q)∧aS (eM d v kn w l).T (cV v q)=if fD d q=1 then aS w.T (cV v q) else some (cH d q)
|[],w,_,_,h=>by simp at h
|a :: l,w,hn,hi,h=>by
  rw [gZ];rw [List.nodup_cons] at hn;obtain ⟨c,e,-⟩:=qTe d v kn w a
  by_cases hqa:q=a
  ·subst hqa;obtain ⟨x,y⟩:=qS8 (d:=d) (kn:=kn) (o:=cV v q) l (iC d v kn w q) fun b hb hh=>hn.1 (hi b (List.mem_cons_of_mem _ hb) q (List.mem_cons_self ..) hh ▸ hb)
   refine ⟨by rw [x,c,kA,if_pos rfl],?_⟩
   rw [y,e];split
   ·rfl
   ·rw [kA,if_pos rfl]
  ·have hql:q ∈ l:=by
    rcases List.mem_cons.1 h with h|h
    ·exact absurd h hqa
    ·exact h
   obtain ⟨x,y⟩:=qS9 (d:=d) (kn:=kn) (q:=q) l (iC d v kn w a) hn.2 (fun b hb c hc=>hi b (List.mem_cons_of_mem _ hb) c (List.mem_cons_of_mem _ hc)) hql
   refine ⟨x,?_⟩;rw [y,e]
   have hne:¬ cV v q=cV v a:=fun hh=>hqa (hi q (List.mem_cons_of_mem _ hql) a (List.mem_cons_self ..) hh)
   split
   ·split
    ·rfl
    ·rw [kA,if_neg hne]
   ·rfl
theorem qJa {d:Dk} {v:ByteArray} {kn:iT}:∀ (l:List ByteArray) (w:Wk),(eM d v kn w l).reads=w.reads + (l.countP (nu d v kn):Nat)
|[],w=>by simp [qEt]
|q :: l,w=>by
  rw [gZ,qJa l,(qTe d v kn w q).2.2,List.countP_cons];split <;> (push_cast;omega)
theorem zA1 {d:Dk} {D:Int→ByteArray} (hr:eU d.L) (hz:∀ e ∈ d.L,e.1.size≤1048576) (sy:Sy d D) (hdn:d.down=false) {v:ByteArray} (hv:pOk v 1=true) (hvz:v.size≤1048576) {l:List Sn} (hl:∀ s ∈ l,s.2.2.1=2→D s.2.1=s.2.2.2) :
  (mD d v l).F=mJ d v∧qFa (mD d v l)=gX d v∧(mD d v l).reads=(qEw (gX d v) l:Nat):=by
 have hv0:v≠{ data:=#[] }:=nZ hv
 have mem:=zNd hr hz sy.toFit hv0 hvz
 have nod:=qEu hr 1048577 v hv0
 have inj:∀ a ∈ vis d 1048577 v,∀ b ∈ vis d 1048577 v,cV v a=cV v b→a=b:=fun a ha b hb e=>by
  obtain ⟨_,a1,a2⟩:=(mem a).1 ha;obtain ⟨_,b1,b2⟩:=(mem b).1 hb;exact zBn a1 a2 b1 b2 hv0 e
 have node:∀ q x,aS d.L q=some x→ndV d v (knS l) q=lD x:=fun q x hx=>by
  unfold ndV lD
  have hi:aP d q=x:=by rw [aP,hx];rfl
  by_cases hk:fD d q=1
  ·obtain ⟨y,hy,hd⟩:=sT.1 hk;rw [hx] at hy
   have:=Option.some.inj hy
   subst this;rw [if_pos hk,if_pos hd]
  ·have hd:x.dir=false:=by
    cases hd:x.dir with
   |false=>rfl
   |true=>exact absurd (sT.2 ⟨x,hx,hd⟩) hk
   rw [if_neg hk,if_neg (by rw [hd];decide)]
   cases hkn:knS l (cV v q) (cH d q) with
  |none =>
    have hrd:nH d q=(x.data,0):=by
     unfold nH has;rw [hdn,hx,hi,hd];rfl
    rw [hrd];rfl
  |some m =>
    rcases zB5 l _ hkn with ⟨y,hy,_,h2,h3,h4⟩|h
    ·have:=hl y hy h4
     rw [h2,cH,hi,sy.kn q x hx hd] at this;show m=_
     rw [← h3,this,← h4]
    ·cases h
 have hF:(mD d v l).F=mJ d v:=by
  refine qP4 (qEr _ _ _ _ _ List.Pairwise.nil) (qP7 hr hv0) fun o n=>?_
  rw [zEv hr hv0]
  by_cases ho:∃ q ∈ vis d 1048577 v,cV v q=o
  ·obtain ⟨q,hq,rfl⟩:=ho;obtain ⟨h1,h2,h3⟩:=(mem q).1 hq;obtain ⟨x,hx⟩:=Option.isSome_iff_exists.1 h1
   have:=(qS9 (d:=d) (kn:=knS l) (q:=q) (vis d 1048577 v) wk0 nod inj hq).1
   rw [show eM d v (knS l) wk0 (vis d 1048577 v)=mD d v l from rfl] at this
   rw [this,node q x hx];constructor
   ·intro h;exact ⟨q,x,hx,h2,h3,rfl,Option.some.inj h⟩
   ·rintro ⟨q',x',hx',a1,a2,a3,a4⟩
    have:q'=q:=zBn a1 a2 h2 h3 hv0 a3
    subst this;rw [hx] at hx';rw [Option.some.inj hx',a4]
  ·have:=(qS8 (d:=d) (v:=v) (kn:=knS l) (o:=o) (vis d 1048577 v) wk0 fun q hq e=>ho ⟨q,hq,e⟩).1
   rw [show eM d v (knS l) wk0 (vis d 1048577 v)=mD d v l from rfl] at this
   rw [this];constructor
   ·intro h;cases h
   ·rintro ⟨q,x,hx,a1,a2,a3,-⟩;exact absurd ⟨q,(mem q).2 ⟨by rw [hx];rfl,a1,a2⟩,a3⟩ ho
 refine ⟨hF,?_,?_⟩
 ·unfold qFa gX;rw [hF];refine List.map_congr_left fun e he=>?_
  rw [mJ,List.mem_map] at he;obtain ⟨y,hy,rfl⟩:=he;obtain ⟨y1,y2⟩:=List.mem_filter.1 hy;obtain ⟨a1,a2⟩:=nB.1 y2
  have hx:=dX hr (show (y.1,y.2) ∈ d.L from y1)
  have hT:=(qS9 (d:=d) (kn:=knS l) (q:=y.1) (vis d 1048577 v) wk0 nod inj ((mem y.1).2 ⟨by rw [hx];rfl,a1,a2⟩)).2
  rw [show eM d v (knS l) wk0 (vis d 1048577 v)=mD d v l from rfl] at hT
  unfold vT;dsimp only;rw [hT,← qKy a1 a2 hv0]
  congr 2
  split
  ·rename_i hk;obtain ⟨z,hz2,hd⟩:=sT.1 hk
   have:=(sy.dir y.1 z hz2 hd).1
   rw [cH,aP,hz2];exact this.symm
  ·rfl
 ·have h1:=qJa (d:=d) (v:=v) (kn:=knS l) (vis d 1048577 v) wk0
  rw [show eM d v (knS l) wk0 (vis d 1048577 v)=mD d v l from rfl,show wk0.reads=0 from rfl,Int.zero_add] at h1
  rw [h1]
  congr 1
  have hperm:(vis d 1048577 v).Perm ((d.L.filter (inV v)).map fun e=>e.1):=by
   refine (List.perm_ext_iff_of_nodup nod ?_).2 fun q=>?_
   ·have:((d.L.filter (inV v)).map fun e=>e.1).Pairwise fun a b=>blt a b=true:=by
     rw [List.pairwise_map];exact List.Pairwise.filter _ hr
    exact this.imp fun {a b} h=>zL7 h
   ·rw [mem q,List.mem_map];constructor
    ·rintro ⟨a,b,c⟩;obtain ⟨x,hx⟩:=Option.isSome_iff_exists.1 a;exact ⟨(q,x),List.mem_filter.2 ⟨cP hx,nB.2 ⟨b,c⟩⟩,rfl⟩
    ·rintro ⟨e,he,rfl⟩;obtain ⟨y1,y2⟩:=List.mem_filter.1 he;obtain ⟨a1,a2⟩:=nB.1 y2;exact ⟨by rw [dX hr (show (e.1,e.2) ∈ d.L from y1)];rfl,a1,a2⟩
  rw [hperm.countP_eq,qEw,gX,mJ,List.map_map,List.countP_map,List.countP_map];refine List.countP_congr fun e he=>?_
  obtain ⟨y1,y2⟩:=List.mem_filter.1 he;obtain ⟨a1,a2⟩:=nB.1 y2
  have hx:=dX hr (show (e.1,e.2) ∈ d.L from y1)
  have hse:vT d v (cV v e.1,lD e.2)=(cV v e.1,cH d e.1,lD e.2):=by
   unfold vT;dsimp only;rw [← qKy a1 a2 hv0]
  show nu d v (knS l) e.1=true↔(!knB (vT d v (cV v e.1,lD e.2)) l)=true
  rw [hse]
  have hkd:decide (fD d e.1=1)=decide ((lD e.2).1=1):=by
   rw [decide_eq_decide,sT,lD];constructor
   ·rintro ⟨x,h1,h2⟩;rw [hx] at h1;rw [Option.some.inj h1,if_pos h2]
   ·intro h;refine ⟨e.2,hx,?_⟩;split at h
    ·assumption
    ·cases h
  have hkn:=zB6 (e:=(cV v e.1,cH d e.1,lD e.2)) l (fun _ _=>none)
  have hkn:knS l (cV v e.1) (cH d e.1)=none↔l.any (kn1 (cV v e.1,cH d e.1,lD e.2))=false:=by
   refine Iff.trans hkn ?_;simp
  unfold nu knB;rw [hkd]
  cases ha:l.any (kn1 (cV v e.1,cH d e.1,lD e.2)) with
 |false =>
   rw [hkn.2 ha];simp
 |true =>
   cases hh:knS l (cV v e.1) (cH d e.1) with
  |none=>rw [hkn.1 hh] at ha;cases ha
  |some m=>simp
end Go.Sw
end
section
namespace Go.Proofs.YtlihpgmgiehjkaaGreatDoor
open Go Go.Eng Go.RowKit Go.Tr Go.Dk
def scH:ByteArray:={ data:=#[104,117,98] }
def scHA:ByteArray:={ data:=#[104,117,98,47,97] }
def scHAx:ByteArray:={ data:=#[104,117,98,47,97,47,120] }
def scA:ByteArray:={ data:=#[97] }
def zMv:ByteArray:={ data:=#[97,47,120] }
def scHi:ByteArray:={ data:=#[104,105] }
def scX:Itm:=⟨false,scHi,ByteArray.empty,true,true,1⟩
def dS1:Dk:=⟨[(scH,qFi)],[],1,0,-1,false,1,0⟩
def dS2:Dk:=⟨[(scH,qFi),(scHA,qFi)],[],2,0,-1,false,2,0⟩
def dS3:Dk:=⟨[(scH,qFi),(scHA,qFi),(scHAx,scX)],[],3,1,-1,false,3,0⟩
theorem sc1:eG Dk.new scH=(0,dS1):=by kernel_rfl
theorem sc2:eG dS1 scHA=(0,dS2):=by kernel_rfl
theorem sc3:dR dS2 scHAx scHi=(0,dS3):=by kernel_rfl
theorem zR6:dS1.Ok 1099511627776:=⟨by simp [eU,dS1],by intro e he;simp only [dS1,List.mem_cons,List.not_mem_nil,or_false] at he;subst he;decide,by decide,by decide,by decide,by decide,by decide,by decide⟩
theorem zMu:eU dS2.L:=by
 refine List.pairwise_cons.2 ⟨fun y hy=>?_,List.pairwise_singleton _ _⟩
 simp only [List.mem_cons,List.not_mem_nil,or_false] at hy;subst hy;rw [← rX];decide
theorem zMt:eU dS3.L:=by
 refine List.pairwise_cons.2 ⟨fun y hy=>?_,List.pairwise_cons.2 ⟨fun y hy=>?_,List.pairwise_singleton _ _⟩⟩
 ·simp only [List.mem_cons,List.not_mem_nil,or_false] at hy
  rcases hy with rfl|rfl <;> (rw [← rX];decide)
 ·simp only [List.mem_cons,List.not_mem_nil,or_false] at hy;subst hy;rw [← rX];decide
theorem zR5:dS2.Ok 1099511627776:=⟨zMu,by intro e he;simp only [dS2,List.mem_cons,List.not_mem_nil,or_false] at he;rcases he with rfl|rfl <;> decide,by decide,by decide,by decide,by decide,by decide,by decide⟩
theorem ok_S3:dS3.Ok 1099511627776:=⟨zMt,by intro e he;simp only [dS3,List.mem_cons,List.not_mem_nil,or_false] at he;rcases he with rfl|rfl|rfl <;> decide,by decide,by decide,by decide,by decide,by decide,by decide⟩
end Go.Proofs.YtlihpgmgiehjkaaGreatDoor
end
