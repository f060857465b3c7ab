/-
  The law PlanPrefix.
-/
import Derived.Test.YtbdomkfdkfdfgaaGreatDoorPaE
import Derived.Test.YtbdomkfdkfdfgaaGreatDoorPau
set_option linter.unusedSimpArgs false
set_option linter.unusedVariables false
section
set_option maxRecDepth 20000
namespace Go.Proofs.YtbdomkfdkfdfgaaGreatDoor
open Go Go.Eng Go.RowKit Go.Tr Go.Rc Go.Dk
theorem zP5 {S:HS} {xs:List (List FV)} {fr:Bool} {K:HV→HS→Prop} (hK:K (.tup [.lst fr xs,.v (.int .i64 0)]) S):HAt Tryz.prog 22 [.lst fr xs,.lst false (eP [])] S K :=
 ⟨zV3,fun c look w ρ ys vs G R=>by
  obtain ⟨R1,R2⟩:=R
  match vs,R1 with
 |[v0,v1],_ =>
  have r0:=R2 0 (by simp) (by simp)
  have r1:=R2 1 (by simp) (by simp)
  simp only [List.getElem_cons_zero,List.getElem_cons_succ] at r0 r1
  have R':vJ w (fun _=>False) w.heap.size (fun _=>undef) [v0,v1] [.v v0,.lst false (eP [])]:=by
   refine mM G (hs:=[.v v0,.lst false (eP [])]) ⟨rfl,fun i a b=>?_⟩ (.cons (.v _) (.cons (aL (hZ _)) .nil))
   match i,a with
  |0,_=>exact .v _
  |1,_=>exact r1
  refine Ret.mono (zTa v0 w _ R') fun v w' ⟨B,h,st,h8,q,ρ',xs',G',hr⟩=>⟨_,_,hK,ρ,ys,G.below B,?_⟩
  obtain ⟨q,-⟩:=q;subst q
  cases hr with
 |tup hn h =>
   refine .tup hn fun j p q=>?_
   match j,p,q with
  |0,p,_ =>
    have e:=bL (h 0 p (by simp))
    simp only [List.getElem_cons_zero] at e ⊢;rw [e];exact r0.above B
  |1,p,_ =>
    have e:=bL (h 1 p (by simp))
    simp only [List.getElem_cons_succ,List.getElem_cons_zero] at e ⊢;rw [e];exact .v _⟩
theorem zNb:∀ (l:List Tr.Act) {t:List Ent},Tree t→(doG l t).1.length≤200
|[],t,h=>h.len
|x :: r,t,h=>by
  by_cases he:fP t x.2.1 x.2.2=0
  ·rw [xE he];exact zNb r (h.put he)
  ·rw [qGj he];exact Nat.zero_le _
theorem zSq:∀ (l:List Tr.Act) {t:List Ent},(∀ e ∈ t,e.1.size≤1048576)→(∀ x ∈ l,x.2.1.size≤1048576)→∀ e ∈ (doG l t).1,e.1.size≤1048576
|[],t,h,_=>h
|x :: r,t,h,hl=>by
  by_cases he:fP t x.2.1 x.2.2=0
  ·rw [xE he];exact zSq r (qKr h (hl x (by simp))) fun y hy=>hl y (by simp [hy])
  ·rw [qGj he];exact fun e he=>by cases he
set_option maxHeartbeats 8000000 in
theorem zBr (t:List Ent) (l:List Tr.Act) (hlt:t.length≤1048576) (hst:∀ e ∈ t,e.1.size≤1048576) (hl:l.length≤1048576) (hp:∀ x ∈ l,x.2.1.size≤1048576) :
  HFun Tryz.prog 5 [.lst false (aG t),.lst false (eP l)] (fun h st=>h=.v (.bool true)):=by
 refine eX (N:=37) Tryz.func5 rfl Tryz.ntmps5 Tryz.results5 (by simp) ?_
 have c9:=qL6 t [] [] hlt (by simp) (by simp) hst (by simp) (by simp)
 have z:decide (dD ([]:List Ent)=0)=true:=by decide +kernel
 rw [z,Bool.and_true,Bool.and_true] at c9;refine zE ?_;refine zJ (fun K hK=>?_);simp (disch:=omega) only [push_cast,↓Int.cast_ofNat_Int,simprocAttr];refine hK _ ?_;clear hK K
 by_cases ha:dD t=0
 ·rw [decide_eq_true ha] at c9
  have hT:=(qS t).1 ha
  refine zE ?_;refine zE ?_;refine zJ (fun K hK=>?_);simp (disch:=omega) only [push_cast,↓Int.cast_ofNat_Int,simprocAttr]
  refine bE cl8 nE .nil ?_;with_reducible refine aB ?_;simp (disch:=omega) only [push_cast,↓Int.cast_ofNat_Int,simprocAttr]
  refine bE cl9 c9 (.cons (aL (yT _)) (.cons .nil (.cons .nil .nil))) ?_;with_reducible refine aB ?_;simp (disch:=omega) only [push_cast,↓Int.cast_ofNat_Int,simprocAttr]
  refine hK _ ?_;clear hK K;refine yC rfl ?_;refine zC ?_;refine zE ?_
  have cd:=zTr t l hT hst hl hp
  have hlen:(doG l t).1.length≤140737488355328:=Nat.le_trans (zNb l hT) (by decide)
  by_cases hl0:l=[]
  ·subst hl0
   have cS:=qEz t t (by omega)
   rw [decide_eq_true rfl] at cS;refine zJ (fun K hK=>?_);simp (disch:=omega) only [push_cast,↓Int.cast_ofNat_Int,simprocAttr]
   refine hat 160 zQj cd (.cons (aL (yT _)) (.cons (aL (hZ _)) .nil)) ?_;rintro _ _ ⟨rfl,rfl⟩;with_reducible refine aB ?_;simp (disch:=omega) only [push_cast,↓Int.cast_ofNat_Int,simprocAttr]
   refine hK _ ?_;clear hK K;refine zE ?_;refine zJ (fun K hK=>?_);simp (disch:=omega) only [push_cast,↓Int.cast_ofNat_Int,simprocAttr]
   refine zP5 ?_;with_reducible refine aB ?_;simp (disch:=omega) only [push_cast,↓Int.cast_ofNat_Int,simprocAttr]
   refine hK _ ?_;clear hK K;refine zE ?_;refine zJ (fun K hK=>?_);simp (disch:=omega) only [push_cast,↓Int.cast_ofNat_Int,simprocAttr]
   refine bE zJi cS (.cons (gD (yT _) rfl) (.cons (aL (yT _)) .nil)) ?_;with_reducible refine aB ?_;simp (disch:=omega) only [push_cast,↓Int.cast_ofNat_Int,simprocAttr]
   refine hK _ ?_;clear hK K;refine zA ?_;refine zW ?_;simp only [yA,yM,yH,yE,aA,aC,yK,yJ,zS,zM,Nat.reduceEqDiff,reduceIte,reduceCtorEq];exact aJ rfl
  ·have cr:=zU7 t l hT hst hl hp hl0
   generalize (doG l t).1=u at *
   generalize (doG l t).2=er at *
   have cS:=qEz u u hlen
   rw [decide_eq_true rfl] at cS;refine zJ (fun K hK=>?_);simp (disch:=omega) only [push_cast,↓Int.cast_ofNat_Int,simprocAttr]
   refine hat 160 zQj cd (.cons (aL (yT _)) (.cons (aL (hZ _)) .nil)) ?_;rintro _ _ ⟨rfl,rfl⟩;with_reducible refine aB ?_;simp (disch:=omega) only [push_cast,↓Int.cast_ofNat_Int,simprocAttr]
   refine hK _ ?_;clear hK K;refine zE ?_;refine zJ (fun K hK=>?_);simp (disch:=omega) only [push_cast,↓Int.cast_ofNat_Int,simprocAttr]
   refine hat 208 zV3 cr (.cons (aL (yT _)) (.cons (aL (hZ _)) .nil)) ?_;rintro _ _ ⟨rfl,rfl⟩;with_reducible refine aB ?_;simp (disch:=omega) only [push_cast,↓Int.cast_ofNat_Int,simprocAttr]
   refine hK _ ?_;clear hK K;refine zE ?_;refine zJ (fun K hK=>?_);simp (disch:=omega) only [push_cast,↓Int.cast_ofNat_Int,simprocAttr]
   refine bE zJi cS (.cons (gD (yT _) rfl) (.cons (aL (yT _)) .nil)) ?_;with_reducible refine aB ?_;simp (disch:=omega) only [push_cast,↓Int.cast_ofNat_Int,simprocAttr]
   refine hK _ ?_;clear hK K;refine zA ?_;refine zW ?_;simp only [yA,yM,yH,yE,aA,aC,yK,yJ,zS,zM,Nat.reduceEqDiff,reduceIte,reduceCtorEq];exact aJ rfl
 ·have hz:decide (dD t=0)=false:=decide_eq_false ha
  rw [hz] at c9;refine zE ?_;refine zE ?_;refine zJ (fun K hK=>?_);simp (disch:=omega) only [push_cast,↓Int.cast_ofNat_Int,simprocAttr]
  refine bE cl8 nE .nil ?_;with_reducible refine aB ?_;simp (disch:=omega) only [push_cast,↓Int.cast_ofNat_Int,simprocAttr]
  refine bE cl9 c9 (.cons (aL (yT _)) (.cons .nil (.cons .nil .nil))) ?_;with_reducible refine aB ?_;simp (disch:=omega) only [push_cast,↓Int.cast_ofNat_Int,simprocAttr]
  refine hK _ ?_;clear hK K;refine yD rfl ?_;refine zE ?_;refine zJ (fun K hK=>?_);simp (disch:=omega) only [push_cast,↓Int.cast_ofNat_Int,simprocAttr]
  refine bE cl8 nE .nil ?_;with_reducible refine aB ?_;simp (disch:=omega) only [push_cast,↓Int.cast_ofNat_Int,simprocAttr]
  refine hK _ ?_;clear hK K;refine zA ?_;refine zW ?_;refine zK ?_;simp only [yA,yM,yH,yE,aA,aC,yK,yJ,zS,zM,Nat.reduceEqDiff,reduceIte,reduceCtorEq];exact aJ rfl
theorem zBq (t:List Ent) (l:List Tr.Act) (hu:fw (.lst false (aG t)) + (fw (.lst false (eP l)) + 0)≤1048576):HFun Tryz.prog 5 [.lst false (aG t),.lst false (eP l)] (fun h st=>h=.v (.bool true)):=by
 obtain ⟨h1,h2⟩:=qF7 t;obtain ⟨h3,h4⟩:=zP9 l;exact zBr t l (by omega) (fun e he=>by have:=(h2 e he).1;omega) (by omega) (fun x hx=>by have:=h4 x hx;omega)
end Go.Proofs.YtbdomkfdkfdfgaaGreatDoor
end
section
set_option maxRecDepth 20000
namespace Go.Proofs.YtbdomkfdkfdfgaaGreatDoor
open Go Go.Eng Go.RowKit Go.Tr Go.Rc Go.Dk
theorem qVi (root:Int) (old now:List Ent):(qB4 root old now).length≤old.length + now.length∧∀ x ∈ qB4 root old now,∃ e,(e ∈ old∨e ∈ now)∧x.2.1=e.1:=by
 unfold qB4 lQ mD;constructor
 ·have h1:=List.length_filter_le (qGk now) old.reverse
  have h2:=List.length_filter_le (qKj old) now
  rw [List.length_reverse] at h1;rw [List.length_append,List.length_map,List.length_map];omega
 ·intro x hx
  rcases List.mem_append.1 hx with h|h
  ·obtain ⟨e,he,rfl⟩:=List.mem_map.1 h;exact ⟨e,.inl (List.mem_reverse.1 (List.mem_filter.1 he).1),rfl⟩
  ·obtain ⟨e,he,rfl⟩:=List.mem_map.1 h;exact ⟨e,.inr (List.mem_filter.1 he).1,rfl⟩
set_option maxHeartbeats 8000000 in
theorem qVx (old now:List Ent) (n:Int) (p:ByteArray) (hlo:old.length≤1048576) (hso:∀ e ∈ old,e.1.size≤1048576) (hln:now.length≤1048576) (hsn:∀ e ∈ now,e.1.size≤1048576) :
  HFun Tryz.prog 6 [.lst false (aG old),.lst false (aG now),.v (.int .i64 n),.v (.string p)] (fun h st=>h=.v (.bool true)):=by
 refine eX (N:=79) Tryz.func6 rfl Tryz.ntmps6 Tryz.results6 (by simp) ?_
 have c9:=qL6 old now [] hlo hln (by simp) hso hsn (by simp)
 have z:decide (dD ([]:List Ent)=0)=true:=by decide +kernel
 rw [z,Bool.and_true] at c9;refine zE ?_;refine zJ (fun K hK=>?_);simp (disch:=omega) only [push_cast,↓Int.cast_ofNat_Int,simprocAttr];refine hK _ ?_;clear hK K
 cases hc:decide (dD old=0) && decide (dD now=0) with
|false =>
  rw [hc] at c9;refine zE ?_;refine zE ?_;refine zJ (fun K hK=>?_);simp (disch:=omega) only [push_cast,↓Int.cast_ofNat_Int,simprocAttr]
  refine bE cl8 nE .nil ?_;with_reducible refine aB ?_;simp (disch:=omega) only [push_cast,↓Int.cast_ofNat_Int,simprocAttr]
  refine bE cl9 c9 (.cons (aL (yT _)) (.cons (aL (yT _)) (.cons .nil .nil))) ?_;with_reducible refine aB ?_;simp (disch:=omega) only [push_cast,↓Int.cast_ofNat_Int,simprocAttr]
  refine hK _ ?_;clear hK K;refine yD rfl ?_;refine zE ?_;refine zJ (fun K hK=>?_);simp (disch:=omega) only [push_cast,↓Int.cast_ofNat_Int,simprocAttr]
  refine bE cl8 nE .nil ?_;with_reducible refine aB ?_;simp (disch:=omega) only [push_cast,↓Int.cast_ofNat_Int,simprocAttr]
  refine hK _ ?_;clear hK K;refine zA ?_;refine zW ?_;refine zK ?_;simp only [yA,yM,yH,yE,aA,aC,yK,yJ,zS,zM,Nat.reduceEqDiff,reduceIte,reduceCtorEq];exact aJ rfl
|true =>
  rw [hc] at c9;simp only [Bool.and_eq_true,decide_eq_true_eq] at hc
  have hO:=(qS old).1 hc.1
  have hN:=(qS now).1 hc.2
  obtain ⟨la,pa⟩:=qVi 0 old now
  have ca:=qHr 0 old now hO.ri hN.ri hlo hln
  have hall:=zAs hO hN 0
  obtain ⟨L,hL⟩:∃ L,qB4 0 old now=L:=⟨_,rfl⟩;rw [hL] at la pa ca hall
  have hLl:L.length≤1048576:=by have:=hO.len;have:=hN.len;omega
  refine zE ?_;refine zE ?_;refine zJ (fun K hK=>?_);simp (disch:=omega) only [push_cast,↓Int.cast_ofNat_Int,simprocAttr]
  refine bE cl8 nE .nil ?_;with_reducible refine aB ?_;simp (disch:=omega) only [push_cast,↓Int.cast_ofNat_Int,simprocAttr]
  refine bE cl9 c9 (.cons (aL (yT _)) (.cons (aL (yT _)) (.cons .nil .nil))) ?_;with_reducible refine aB ?_;simp (disch:=omega) only [push_cast,↓Int.cast_ofNat_Int,simprocAttr]
  refine hK _ ?_;clear hK K;refine yC rfl ?_;refine zC ?_;refine zE ?_;refine zJ (fun K hK=>?_);simp (disch:=omega) only [push_cast,↓Int.cast_ofNat_Int,simprocAttr]
  refine hat 208 zQi ca (.cons (.v _) (.cons (aL (yT _)) (.cons (aL (yT _)) .nil))) ?_;rintro _ _ ⟨rfl,rfl⟩;with_reducible refine aB ?_;simp (disch:=omega) only [push_cast,↓Int.cast_ofNat_Int,simprocAttr]
  refine hK _ ?_;clear hK K;refine yB [0,1,2,3,9] [208] (by simp only [zZ,zR,zP,zQ,zN,zS,zM,zX,zU,Nat.reduceEqDiff,reduceIte];exact rfl) ?_
  by_cases hn:0≤n∧n≤(L.length:Int)
  ·obtain ⟨m,rfl⟩:∃ m:Nat,n=m:=⟨n.toNat,by omega⟩
   have hm:m≤L.length:=by omega
   obtain ⟨b1,b2⟩:=hall.take m
   have hLs:∀ x ∈ L.take m,x.2.1.size≤1048576:=fun x hx=>by
    obtain ⟨e,he,hxe⟩:=pa x (List.mem_of_mem_take hx);rw [hxe]
    rcases he with he|he
    ·exact hso e he
    ·exact hsn e he
   have hdo:=zTr old (L.take m) hO hso (by rw [List.length_take];omega) hLs
   have hTs:=zSq (L.take m) hso hLs
   rw [b1] at hdo;generalize (doG (L.take m) old).1=T at *
   have hlv:pK (((eP L).drop 0).take (m - 0))=eP (L.take m):=by rw [List.drop_zero,Nat.sub_zero,zJp,hZ]
   refine zE ?_;refine zE ?_;refine zJ (fun K hK=>?_);simp (disch:=omega) only [push_cast,↓Int.cast_ofNat_Int,simprocAttr,cW];refine hK _ ?_;clear hK K
   refine yC rfl ?_;refine zC ?_;refine zE ?_;refine zJ (fun K hK=>?_);simp (disch:=omega) only [push_cast,↓Int.cast_ofNat_Int,simprocAttr,cW]
   refine hat 320 zQj hdo (.cons (aL (yT _)) (.cons (qJo hlv rfl) .nil)) ?_;rintro _ _ ⟨rfl,rfl⟩;with_reducible refine aB ?_;simp (disch:=omega) only [push_cast,↓Int.cast_ofNat_Int,simprocAttr]
   refine hK _ ?_;clear hK K;refine yB [0,1,3,10,11] [320] (by simp only [zZ,zR,zP,zQ,zN,zS,zM,zX,zU,Nat.reduceEqDiff,reduceIte];exact rfl) ?_
   have cc:=qE8 T (by have:=b2.tree.len;omega) hTs
   rw [(qS T).2 b2.tree] at cc
   have g1:=qA1 T p (by have:=b2.tree.len;omega)
   have g2:=qA1 old p (by omega)
   have g3:=qA1 now p (by omega)
   have hget:=b2.get p
   refine zE ?_;refine zE ?_;refine zJ (fun K hK=>?_);simp (disch:=omega) only [push_cast,↓Int.cast_ofNat_Int,simprocAttr]
   refine bE zCu cc (.cons (gD (yT _) rfl) .nil) ?_;with_reducible refine aB ?_;simp (disch:=omega) only [push_cast,↓Int.cast_ofNat_Int,simprocAttr]
   refine hK _ ?_;clear hK K;refine yC rfl ?_;refine zC ?_;refine zE ?_;generalize aN T p=x at *
   generalize aN old p=y at *
   generalize aN now p=z at *
   obtain ⟨xk,xd⟩:=x;obtain ⟨yk,yd⟩:=y;obtain ⟨zk,zd⟩:=z;refine zJ (fun K hK=>?_);simp (disch:=omega) only [push_cast,↓Int.cast_ofNat_Int,simprocAttr]
   refine hat 416 qKk g1 (.cons (gD (yT _) rfl) (.cons (.v _) .nil)) ?_;rintro _ _ ⟨rfl,rfl⟩;with_reducible refine aB ?_;simp (disch:=omega) only [push_cast,↓Int.cast_ofNat_Int,simprocAttr]
   refine hat 440 qKk g2 (.cons (aL (yT _)) (.cons (.v _) .nil)) ?_;rintro _ _ ⟨rfl,rfl⟩;with_reducible refine aB ?_;simp (disch:=omega) only [push_cast,↓Int.cast_ofNat_Int,simprocAttr]
   refine hat 464 qKk g3 (.cons (aL (yT _)) (.cons (.v _) .nil)) ?_;rintro _ _ ⟨rfl,rfl⟩;with_reducible refine aB ?_;simp (disch:=omega) only [push_cast,↓Int.cast_ofNat_Int,simprocAttr]
   refine hK _ ?_;clear hK K;refine yB [12,13,14] [96,104,112] (by simp only [zZ,zR,zP,zQ,zN,zS,zM,zX,zU,Nat.reduceEqDiff,reduceIte];exact rfl) ?_
   cases d1:decide (xk=yk∧xd=yd) with
  |true =>
    refine zE ?_;refine zJ (fun K hK=>?_);simp (disch:=omega) only [push_cast,↓Int.cast_ofNat_Int,simprocAttr,d1]
    refine ⟨_,eqN _ _ _ _,?_⟩;with_reducible refine aB ?_;simp (disch:=omega) only [push_cast,↓Int.cast_ofNat_Int,simprocAttr,d1]
    refine hK _ ?_;clear hK K;refine zA ?_;refine zW ?_;simp only [yA,yM,yH,yE,aA,aC,yK,yJ,zS,zM,Nat.reduceEqDiff,reduceIte,reduceCtorEq];exact aJ rfl
  |false =>
   cases d2:decide (xk=zk∧xd=zd) with
  |true =>
    refine zE ?_;refine zJ (fun K hK=>?_);simp (disch:=omega) only [push_cast,↓Int.cast_ofNat_Int,simprocAttr,d1,d2]
    refine ⟨_,eqN _ _ _ _,?_⟩;with_reducible refine aB ?_;simp (disch:=omega) only [push_cast,↓Int.cast_ofNat_Int,simprocAttr,d1,d2]
    refine ⟨_,eqN _ _ _ _,?_⟩;with_reducible refine aB ?_;simp (disch:=omega) only [push_cast,↓Int.cast_ofNat_Int,simprocAttr,d1,d2]
    refine hK _ ?_;clear hK K;refine zA ?_;refine zW ?_;simp only [yA,yM,yH,yE,aA,aC,yK,yJ,zS,zM,Nat.reduceEqDiff,reduceIte,reduceCtorEq];exact aJ rfl
  |false =>
    have h1:¬ (xk,xd)=(yk,yd):=fun e=>by simp only [Prod.mk.injEq] at e;exact absurd (decide_eq_true e) (by rw [d1];decide)
    have h2:¬ (xk,xd)=(zk,zd):=fun e=>by simp only [Prod.mk.injEq] at e;exact absurd (decide_eq_true e) (by rw [d2];decide)
    have hr:=(hget.resolve_left h1).resolve_left h2
    obtain ⟨h3,h4⟩:=hr;simp only [mF,Prod.mk.injEq] at h3;obtain ⟨rfl,rfl⟩:=h3
    have d3:decide (yk=zk)=false:=decide_eq_false h4
    refine zE ?_;refine zJ (fun K hK=>?_);simp (disch:=omega) only [push_cast,↓Int.cast_ofNat_Int,simprocAttr,d1,d2,d3]
    refine ⟨_,eqN _ _ _ _,?_⟩;with_reducible refine aB ?_;simp (disch:=omega) only [push_cast,↓Int.cast_ofNat_Int,simprocAttr,d1,d2,d3]
    refine ⟨_,eqN _ _ _ _,?_⟩;with_reducible refine aB ?_;simp (disch:=omega) only [push_cast,↓Int.cast_ofNat_Int,simprocAttr,d1,d2,d3]
    refine ⟨_,eqN _ _ _ _,?_⟩;with_reducible refine aB ?_;simp (disch:=omega) only [push_cast,↓Int.cast_ofNat_Int,simprocAttr,d1,d2,d3]
    refine hK _ ?_;clear hK K;refine zA ?_;refine zW ?_;simp only [yA,yM,yH,yE,aA,aC,yK,yJ,zS,zM,Nat.reduceEqDiff,reduceIte,reduceCtorEq];exact aJ rfl
  ·by_cases h0:n < 0
   ·have hd:decide (n < 0)=true:=decide_eq_true h0
    refine zE ?_;refine zE ?_;refine zJ (fun K hK=>?_);simp (disch:=omega) only [push_cast,↓Int.cast_ofNat_Int,simprocAttr,cW,hd];refine hK _ ?_;clear hK K
    refine yD rfl ?_;refine zE ?_;refine zJ (fun K hK=>?_);simp (disch:=omega) only [push_cast,↓Int.cast_ofNat_Int,simprocAttr];refine hK _ ?_;clear hK K
    refine zA ?_;refine zW ?_;refine zK ?_;simp only [yA,yM,yH,yE,aA,aC,yK,yJ,zS,zM,Nat.reduceEqDiff,reduceIte,reduceCtorEq];exact aJ rfl
   ·have h1:(L.length:Int) < n:=by omega
    refine zE ?_;refine zE ?_;refine zJ (fun K hK=>?_);simp (disch:=omega) only [push_cast,↓Int.cast_ofNat_Int,simprocAttr,cW];refine hK _ ?_;clear hK K
    refine yD rfl ?_;refine zE ?_;refine zJ (fun K hK=>?_);simp (disch:=omega) only [push_cast,↓Int.cast_ofNat_Int,simprocAttr];refine hK _ ?_;clear hK K
    refine zA ?_;refine zW ?_;refine zK ?_;simp only [yA,yM,yH,yE,aA,aC,yK,yJ,zS,zM,Nat.reduceEqDiff,reduceIte,reduceCtorEq];exact aJ rfl
theorem qVw (old now:List Ent) (n:Int) (p:ByteArray) (hu:fw (.lst false (aG old)) + (fw (.lst false (aG now)) + (fw (.v (.int .i64 n)) + (fw (.v (.string p)) + 0)))≤1048576):HFun Tryz.prog 6 [.lst false (aG old),.lst false (aG now),.v (.int .i64 n),.v (.string p)] (fun h st=>h=.v (.bool true)):=by
 obtain ⟨h1,h2⟩:=qF7 old;obtain ⟨h3,h4⟩:=qF7 now;exact qVx old now n p (by omega) (fun e he=>by have:=(h2 e he).1;omega) (by omega) (fun e he=>by have:=(h4 e he).1;omega)
end Go.Proofs.YtbdomkfdkfdfgaaGreatDoor
end
