/-
  plan.put: trees that lie in a variable, written through a row of pointers.
-/
import Derived.Test.YtbdomkfdkfdfgaaGreatDoorSrt
import Derived.Test.YtbdomkfdkfdfgaaGreatDoorTqC
set_option linter.unusedSimpArgs false
set_option linter.unusedVariables false
set_option maxRecDepth 20000
namespace Go.Tr
open Go Go.Eng Go.RowKit
abbrev T3:=List Ent × List Ent × List Ent
def t3 (x:T3):Nat→List Ent
|0=>x.1
|1=>x.2.1
|_=>x.2.2
def qFq (x:T3) (u:List Ent):Nat→T3
|0=>(u,x.2.1,x.2.2)
|1=>(x.1,u,x.2.2)
|_=>(x.1,x.2.1,u)
def pR (p:ByteArray) (u:List Ent):List Nat→T3→T3 × Int
|[],x=>(x,0)
|k :: r,x=>if lV (t3 x k) p u=0 then pR p u r (qFq x (tL (t3 x k) p u) k) else (x,lV (t3 x k) p u)
def pT (ks:List Nat):List (List HV):=ks.map fun k=>[.ptr 0 4 0 k]
theorem wT (ks:List Nat):(pT ks).length=ks.length:=by simp [pT]
theorem zFc {ks:List Nat} {i k:Nat} {d:List HV} (h:i < ks.length) (hk:ks[i]=k):(pT ks).getD i d=[.ptr 0 4 0 k]:=by
 subst hk;unfold pT;rw [sR h]
theorem qA1 (ks:List Nat):List.map (List.map (HV.kill (eG 184))) (pT ks)=pT ks:=by
 unfold pT;rw [List.map_map];exact List.map_congr_left fun k _=>by simp [HV.kill,eG];rfl
theorem qEf (ks:List Nat) (m:Nat) (hm:0≠m):List.map (List.map (HV.ren (nm 184 m))) (pT ks)=pT ks:=by
 unfold pT;rw [List.map_map];exact List.map_congr_left fun k _=>by simp [HV.ren,nm,hm]
structure B3 (t:List Ent):Prop where
 len:t.length≤1048576
 sz:∀ e ∈ t,e.1.size≤1048576
theorem B3.rpl {t u:List Ent} {p:ByteArray} (h:B3 t) (hu:B3 u):B3 (tL t p u):=by
 unfold tL;split
 ·rename_i h0
  have hc:cQ (sortS (zGy t p u))=0:=by
   unfold lV at h0;split at h0
   ·cases h0
   ·split at h0
    ·cases h0
    ·exact h0
  refine ⟨Nat.le_trans (sW hc).1 (by decide),fun e he=>?_⟩
  have hm:=(oC _).mem_iff.1 he
  rcases List.mem_append.1 hm with h1|h1
  ·exact h.sz e (List.mem_filter.1 h1).1
  ·exact hu.sz e h1
 ·exact ⟨Nat.zero_le _,fun e he=>by cases he⟩
def BT (x:T3):Prop:=∀ k,B3 (t3 x k)
theorem BT.set {x:T3} {u:List Ent} (h:BT x) (hu:B3 u) (k:Nat):BT (qFq x u k):=fun j=>by
 have h0:=h 0;have h1:=h 1;have h2:=h 2
 match k,j with
|0,0=>exact hu
|0,1=>exact h1
|0,j + 2=>exact h2
|1,0=>exact h0
|1,1=>exact hu
|1,j + 2=>exact h2
|k + 2,0=>exact h0
|k + 2,1=>exact h1
|k + 2,j + 2=>exact hu
theorem rR {p:ByteArray} {u:List Ent} {k:Nat} {r:List Nat} {x:T3} (h:lV (t3 x k) p u=0):pR p u (k :: r) x=pR p u r (qFq x (tL (t3 x k) p u) k):=by rw [pR,if_pos h]
theorem qD8 {p:ByteArray} {u:List Ent} {k:Nat} {r:List Nat} {x:T3} (h:lV (t3 x k) p u≠0):pR p u (k :: r) x=(x,lV (t3 x k) p u):=by rw [pR,if_neg h]
abbrev qZs (c:HV) (x:T3) (nw0 nw1 nw2 nw3:Bool):aB:=[(0,.bx nw0 28 [.own 1,.own 2,.own 3,c]),(1,.sl nw1 67 3 (aL x.1)),(2,.sl nw2 67 3 (aL x.2.1)),(3,.sl nw3 67 3 (aL x.2.2))]
end Go.Tr
namespace Go.Proofs.YtbdomkfdkfdfgaaGreatDoor
open Go Go.Eng Go.RowKit Go.Tr
set_option maxHeartbeats 8000000 in
theorem zQ2 (p:ByteArray) (u:List Ent) (ks:List Nat) (hks:∀ k ∈ ks,k < 3) (hkl:ks.length≤3) (v:Value) (x:T3) (sp:p.size≤1048576) (hu:B3 u) (hx:BT x) :
  HFunS Tryz.prog 53 [.v (.string p),.own 5,.own 4] (qZs (.v v) x false true true true ++ [(4,.hl true 96 1 (pT ks)),(5,.sl true 67 3 (aL u))]) (fun h st=>h=.v (.int .i64 (pR p u ks x).2)∧st=qZs (.v v) (pR p u ks x).1 false true true true):=by
 refine qW2 (N:=33) Tryz.func53 rfl Tryz.ntmps53 Tryz.results53 (by simp) ?_
 refine zE ?_;refine zJ (fun K hK=>?_);simp (disch:=omega) only [push_cast,↓Int.cast_ofNat_Int,simprocAttr];refine hK _ ?_;clear hK K
 refine zE ?_;refine zE ?_;refine zJ (fun K hK=>?_);simp (disch:=omega) only [push_cast,↓Int.cast_ofNat_Int,simprocAttr,wT];refine hK _ ?_;clear hK K
 refine zA ?_;refine zD ?_;refine cH (fun y:Nat × T3=>⟨[(0,.v (.string p)),(1,.own 5),(11,.own 4),(12,.v (.int .i64 ks.length)),(13,.v (.int .i64 y.1))],qZs (.v v) y.2 false true true true ++ [(4,.hl true 96 1 (pT ks)),(5,.sl true 67 3 (aL u))]⟩) (fun y=>y.1≤ks.length∧BT y.2∧pR p u ks x=pR p u (ks.drop y.1) y.2) (fun y=>ks.length - y.1) [0,1,11,12,13] [0,1,2,3,4,5] (0,x) (by simp only [zZ,zR,zP,zQ,zN,zS,zM,zX,zU,Nat.reduceEqDiff,reduceIte];rfl) ⟨Nat.zero_le _,hx,rfl⟩ ?_
 rintro ⟨i,y⟩ ⟨hi,hy,hq⟩;simp only at hi hy hq;rw [hq]
 by_cases hlt:i < ks.length
 ·have hk:=hks _ (List.getElem_mem hlt)
  have hd:ks.drop i=ks[i] :: ks.drop (i + 1):=List.drop_eq_getElem_cons hlt
  rw [hd] at hq ⊢
  have hg:=@zFc ks i _ [] hlt rfl
  have hwd:∀ x ∈ pT ks,x.length=1:=fun x hx=>by obtain ⟨k,-,rfl⟩:=List.mem_map.1 hx;rfl
  generalize ks[i]=k at *
  have k3:k=0∨k=1∨k=2:=by omega
  have cr:=zE9 (t3 y k) p u (hy k).len hu.len sp (hy k).sz hu.sz
  rcases k3 with rfl|rfl|rfl
  ·refine zE ?_;refine zJ (fun K hK=>?_);simp (disch:=omega) only [push_cast,↓Int.cast_ofNat_Int,simprocAttr];refine hK _ ?_;clear hK K
   refine zE ?_;refine yD rfl ?_;refine zC ?_;refine zE ?_;refine zD ?_;refine zE ?_;refine zJ (fun K hK=>?_);simp (disch:=omega) only [push_cast,↓Int.cast_ofNat_Int,simprocAttr,wT,hg];refine hK _ ?_;clear hK K
   refine zE ?_;refine zJ (fun K hK=>?_);simp (disch:=omega) only [push_cast,↓Int.cast_ofNat_Int,simprocAttr]
   refine hat 184 zRm cr (.cons (pX (yT _) rfl) (.cons (.v _) (.cons (pX (yT _) rfl) .nil))) ?_;rintro _ _ ⟨rfl,rfl⟩;with_reducible refine aC ?_;simp (disch:=omega) only [push_cast,↓Int.cast_ofNat_Int,simprocAttr]
   refine hK _ ?_;clear hK K
   by_cases he:lV (t3 y 0) p u=0
   ·rw [he];refine zE ?_;refine zE ?_;refine zJ (fun K hK=>?_);simp (disch:=omega) only [push_cast,↓Int.cast_ofNat_Int,simprocAttr];refine hK _ ?_;clear hK K
    refine yC rfl ?_;refine zC ?_;refine zA ?_;refine zJ (fun K hK=>?_);simp (disch:=omega) only [push_cast,↓Int.cast_ofNat_Int,simprocAttr];refine hK _ ?_;clear hK K
    refine zB ?_;refine zA ?_;refine yB [0,1,11,12,13] [0,184,2,3,4,5] (by simp only [zZ,zR,zP,zQ,zN,zS,zM,zX,zU,Nat.reduceEqDiff,reduceIte];exact rfl) ?_
    refine qUt 184 1 (by decide) rfl rfl (by simp only [qT0,zH9,qNk,qE8,qH9,qD2,qE2,sG,sF,vU,qC,sK,sE,sJ,wN,wQ,wP,Nat.reduceMul,Nat.reduceAdd,Nat.reduceEqDiff,reduceIte,List.map_cons,List.map_nil];exact rfl) ?_
    refine zJ (fun K hK=>?_);simp (disch:=omega) only [push_cast,↓Int.cast_ofNat_Int,simprocAttr];refine hK _ ?_;clear hK K
    refine zA ?_;refine ⟨(i + 1,qFq y (tL (t3 y 0) p u) 0),by simp only [zZ,zR,zP,zQ,zN,zS,zM,zX,zU,Nat.reduceEqDiff,reduceIte,qA1,qEf _ 1 (by decide)];rfl,⟨hlt,hy.set ((hy 0).rpl hu) 0,rR he⟩,by dsimp only;omega⟩
   ·have hz:decide (lV (t3 y 0) p u=0)=false:=decide_eq_false he
    rw [qD8 he];generalize lV (t3 y 0) p u=er at *
    refine zE ?_;refine zE ?_;refine zJ (fun K hK=>?_);simp (disch:=omega) only [push_cast,↓Int.cast_ofNat_Int,simprocAttr,hz];refine hK _ ?_;clear hK K
    refine yD rfl ?_;refine zE ?_;refine zJ (fun K hK=>?_);simp (disch:=omega) only [push_cast,↓Int.cast_ofNat_Int,simprocAttr];refine hK _ ?_;clear hK K
    refine zA ?_;refine zW ?_;refine zK ?_;refine zL ?_;refine zK ?_;refine zK ?_;refine zL ?_;refine zK ?_;simp only [bT,dE,yH,yE,yK,yJ,fF,zS,zM,Nat.reduceEqDiff,reduceIte,reduceCtorEq];refine oL [0,1,2,3] (by decide) (by decide) (by simp only [push_cast,simprocAttr]) (by simp only [push_cast,simprocAttr]) (by simp only [push_cast,simprocAttr];rfl) (by simp only [push_cast,simprocAttr];rfl) ?_
    exact ⟨rfl,rfl⟩
  ·refine zE ?_;refine zJ (fun K hK=>?_);simp (disch:=omega) only [push_cast,↓Int.cast_ofNat_Int,simprocAttr];refine hK _ ?_;clear hK K
   refine zE ?_;refine yD rfl ?_;refine zC ?_;refine zE ?_;refine zD ?_;refine zE ?_;refine zJ (fun K hK=>?_);simp (disch:=omega) only [push_cast,↓Int.cast_ofNat_Int,simprocAttr,wT,hg];refine hK _ ?_;clear hK K
   refine zE ?_;refine zJ (fun K hK=>?_);simp (disch:=omega) only [push_cast,↓Int.cast_ofNat_Int,simprocAttr]
   refine hat 184 zRm cr (.cons (pX (yT _) rfl) (.cons (.v _) (.cons (pX (yT _) rfl) .nil))) ?_;rintro _ _ ⟨rfl,rfl⟩;with_reducible refine aC ?_;simp (disch:=omega) only [push_cast,↓Int.cast_ofNat_Int,simprocAttr]
   refine hK _ ?_;clear hK K
   by_cases he:lV (t3 y 1) p u=0
   ·rw [he];refine zE ?_;refine zE ?_;refine zJ (fun K hK=>?_);simp (disch:=omega) only [push_cast,↓Int.cast_ofNat_Int,simprocAttr];refine hK _ ?_;clear hK K
    refine yC rfl ?_;refine zC ?_;refine zA ?_;refine zJ (fun K hK=>?_);simp (disch:=omega) only [push_cast,↓Int.cast_ofNat_Int,simprocAttr];refine hK _ ?_;clear hK K
    refine zB ?_;refine zA ?_;refine yB [0,1,11,12,13] [0,184,1,3,4,5] (by simp only [zZ,zR,zP,zQ,zN,zS,zM,zX,zU,Nat.reduceEqDiff,reduceIte];exact rfl) ?_
    refine qUt 184 2 (by decide) rfl rfl (by simp only [qT0,zH9,qNk,qE8,qH9,qD2,qE2,sG,sF,vU,qC,sK,sE,sJ,wN,wQ,wP,Nat.reduceMul,Nat.reduceAdd,Nat.reduceEqDiff,reduceIte,List.map_cons,List.map_nil];exact rfl) ?_
    refine zJ (fun K hK=>?_);simp (disch:=omega) only [push_cast,↓Int.cast_ofNat_Int,simprocAttr];refine hK _ ?_;clear hK K
    refine zA ?_;refine ⟨(i + 1,qFq y (tL (t3 y 1) p u) 1),by simp only [zZ,zR,zP,zQ,zN,zS,zM,zX,zU,Nat.reduceEqDiff,reduceIte,qA1,qEf _ 2 (by decide)];rfl,⟨hlt,hy.set ((hy 1).rpl hu) 1,rR he⟩,by dsimp only;omega⟩
   ·have hz:decide (lV (t3 y 1) p u=0)=false:=decide_eq_false he
    rw [qD8 he];generalize lV (t3 y 1) p u=er at *
    refine zE ?_;refine zE ?_;refine zJ (fun K hK=>?_);simp (disch:=omega) only [push_cast,↓Int.cast_ofNat_Int,simprocAttr,hz];refine hK _ ?_;clear hK K
    refine yD rfl ?_;refine zE ?_;refine zJ (fun K hK=>?_);simp (disch:=omega) only [push_cast,↓Int.cast_ofNat_Int,simprocAttr];refine hK _ ?_;clear hK K
    refine zA ?_;refine zW ?_;refine zK ?_;refine zL ?_;refine zK ?_;refine zK ?_;refine zL ?_;refine zK ?_;simp only [bT,dE,yH,yE,yK,yJ,fF,zS,zM,Nat.reduceEqDiff,reduceIte,reduceCtorEq];refine oL [0,1,2,3] (by decide) (by decide) (by simp only [push_cast,simprocAttr]) (by simp only [push_cast,simprocAttr]) (by simp only [push_cast,simprocAttr];rfl) (by simp only [push_cast,simprocAttr];rfl) ?_
    exact ⟨rfl,rfl⟩
  ·refine zE ?_;refine zJ (fun K hK=>?_);simp (disch:=omega) only [push_cast,↓Int.cast_ofNat_Int,simprocAttr];refine hK _ ?_;clear hK K
   refine zE ?_;refine yD rfl ?_;refine zC ?_;refine zE ?_;refine zD ?_;refine zE ?_;refine zJ (fun K hK=>?_);simp (disch:=omega) only [push_cast,↓Int.cast_ofNat_Int,simprocAttr,wT,hg];refine hK _ ?_;clear hK K
   refine zE ?_;refine zJ (fun K hK=>?_);simp (disch:=omega) only [push_cast,↓Int.cast_ofNat_Int,simprocAttr]
   refine hat 184 zRm cr (.cons (pX (yT _) rfl) (.cons (.v _) (.cons (pX (yT _) rfl) .nil))) ?_;rintro _ _ ⟨rfl,rfl⟩;with_reducible refine aC ?_;simp (disch:=omega) only [push_cast,↓Int.cast_ofNat_Int,simprocAttr]
   refine hK _ ?_;clear hK K
   by_cases he:lV (t3 y 2) p u=0
   ·rw [he];refine zE ?_;refine zE ?_;refine zJ (fun K hK=>?_);simp (disch:=omega) only [push_cast,↓Int.cast_ofNat_Int,simprocAttr];refine hK _ ?_;clear hK K
    refine yC rfl ?_;refine zC ?_;refine zA ?_;refine zJ (fun K hK=>?_);simp (disch:=omega) only [push_cast,↓Int.cast_ofNat_Int,simprocAttr];refine hK _ ?_;clear hK K
    refine zB ?_;refine zA ?_;refine yB [0,1,11,12,13] [0,184,1,2,4,5] (by simp only [zZ,zR,zP,zQ,zN,zS,zM,zX,zU,Nat.reduceEqDiff,reduceIte];exact rfl) ?_
    refine qUt 184 3 (by decide) rfl rfl (by simp only [qT0,zH9,qNk,qE8,qH9,qD2,qE2,sG,sF,vU,qC,sK,sE,sJ,wN,wQ,wP,Nat.reduceMul,Nat.reduceAdd,Nat.reduceEqDiff,reduceIte,List.map_cons,List.map_nil];exact rfl) ?_
    refine zJ (fun K hK=>?_);simp (disch:=omega) only [push_cast,↓Int.cast_ofNat_Int,simprocAttr];refine hK _ ?_;clear hK K
    refine zA ?_;refine ⟨(i + 1,qFq y (tL (t3 y 2) p u) 2),by simp only [zZ,zR,zP,zQ,zN,zS,zM,zX,zU,Nat.reduceEqDiff,reduceIte,qA1,qEf _ 3 (by decide)];rfl,⟨hlt,hy.set ((hy 2).rpl hu) 2,rR he⟩,by dsimp only;omega⟩
   ·have hz:decide (lV (t3 y 2) p u=0)=false:=decide_eq_false he
    rw [qD8 he];generalize lV (t3 y 2) p u=er at *
    refine zE ?_;refine zE ?_;refine zJ (fun K hK=>?_);simp (disch:=omega) only [push_cast,↓Int.cast_ofNat_Int,simprocAttr,hz];refine hK _ ?_;clear hK K
    refine yD rfl ?_;refine zE ?_;refine zJ (fun K hK=>?_);simp (disch:=omega) only [push_cast,↓Int.cast_ofNat_Int,simprocAttr];refine hK _ ?_;clear hK K
    refine zA ?_;refine zW ?_;refine zK ?_;refine zL ?_;refine zK ?_;refine zK ?_;refine zL ?_;refine zK ?_;simp only [bT,dE,yH,yE,yK,yJ,fF,zS,zM,Nat.reduceEqDiff,reduceIte,reduceCtorEq];refine oL [0,1,2,3] (by decide) (by decide) (by simp only [push_cast,simprocAttr]) (by simp only [push_cast,simprocAttr]) (by simp only [push_cast,simprocAttr];rfl) (by simp only [push_cast,simprocAttr];rfl) ?_
    exact ⟨rfl,rfl⟩
 ·have hne:i=ks.length:=by omega
  subst hne;rw [List.drop_length];refine zE ?_;refine zJ (fun K hK=>?_);simp (disch:=omega) only [push_cast,↓Int.cast_ofNat_Int,simprocAttr];refine hK _ ?_;clear hK K
  refine zE ?_;refine yC rfl ?_;refine zT ?_;refine zG ?_;refine zG ?_;refine zH ?_;refine zE ?_;refine zJ (fun K hK=>?_);simp (disch:=omega) only [push_cast,↓Int.cast_ofNat_Int,simprocAttr];refine hK _ ?_;clear hK K
  refine zA ?_;refine zW ?_;simp only [bT,dE,yH,yE,yK,yJ,fF,zS,zM,Nat.reduceEqDiff,reduceIte,reduceCtorEq];refine oL [0,1,2,3] (by decide) (by decide) (by simp only [push_cast,simprocAttr]) (by simp only [push_cast,simprocAttr]) (by simp only [push_cast,simprocAttr];rfl) (by simp only [push_cast,simprocAttr];rfl) ?_
  exact ⟨rfl,rfl⟩
end Go.Proofs.YtbdomkfdkfdfgaaGreatDoor
