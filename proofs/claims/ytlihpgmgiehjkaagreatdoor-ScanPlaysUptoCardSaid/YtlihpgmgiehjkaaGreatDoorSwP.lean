/-
  Scan: paths below one another: plain.
-/
import Derived.Test.YtlihpgmgiehjkaaGreatDoorSwK
import Derived.Test.YtlihpgmgiehjkaaGreatDoorDlE
import Derived.Test.YtlihpgmgiehjkaaGreatDoorTrC
import Derived.Test.YtlihpgmgiehjkaaGreatDoorDk
set_option linter.unusedSimpArgs false
set_option linter.unusedVariables false
section
set_option maxRecDepth 20000
namespace Go.Proofs.YtlihpgmgiehjkaaGreatDoor
open Go Go.Eng Go.RowKit Go.Maps Go.Tr Go.Dk
abbrev Nd:=Int × ByteArray
def nL (n:Nd):Value:=.agg #[.int .i64 n.1,.string n.2]
structure Wk where
 F:List (ByteArray × Nd)
 T:List (ByteArray × Int)
 reads:Int
 nf:Nat
 nt:Nat
def cV (v q:ByteArray):ByteArray:=q.extract (v.size + 1) q.size
def Wk.dirW (w:Wk) (o:ByteArray):Wk:={ w with F:=put o (1,ByteArray.empty) w.F,nf:=w.nf + 1 }
def Wk.fileW (w:Wk) (o:ByteArray) (n:Nd) (s:Int) (r:Int):Wk:=⟨put o n w.F,put o s w.T,w.reads + r,w.nf + 1,w.nt + 1⟩
abbrev iT:=ByteArray→Int→Option Nd
def iC (d:Dk) (v:ByteArray) (kn:iT) (w:Wk) (q:ByteArray):Wk :=
 if fD d q=1 then w.dirW (cV v q) else match kn (cV v q) (cH d q) with
 |some n=>w.fileW (cV v q) n (cH d q) 0
 |none=>w.fileW (cV v q) (2,(nH d q).1) (cH d q) 1
def eM (d:Dk) (v:ByteArray) (kn:iT) (w:Wk) (l:List ByteArray):Wk:=l.foldl (iC d v kn) w
def vis (d:Dk):Nat→ByteArray→List ByteArray
|0,_=>[]
|k + 1,p=>(gR d p).flatMap fun q=>q :: if fD d q=1 then vis d k q else []
def lC (d:Dk) (k:Nat) (q:ByteArray):List ByteArray:=q :: if fD d q=1 then vis d k q else []
theorem sG (d:Dk) (k:Nat) (p:ByteArray):vis d (k + 1) p=(gR d p).flatMap (lC d k):=rfl
theorem qPh (d:Dk) (v:ByteArray) (kn:iT) (w:Wk) (a b:List ByteArray):eM d v kn w (a ++ b)=eM d v kn (eM d v kn w a) b:=List.foldl_append ..
theorem gZ (d:Dk) (v:ByteArray) (kn:iT) (w:Wk) (a:ByteArray) (b:List ByteArray):eM d v kn w (a :: b)=eM d v kn (iC d v kn w a) b:=rfl
theorem qEt (d:Dk) (v:ByteArray) (kn:iT) (w:Wk):eM d v kn w []=w:=rfl
theorem zEb (d:Dk) (v:ByteArray) (kn:iT) (w:Wk) (q:ByteArray):(iC d v kn w q).nf=w.nf + 1∧w.nt≤(iC d v kn w q).nt∧(iC d v kn w q).nt≤w.nt + 1∧w.reads≤(iC d v kn w q).reads∧(iC d v kn w q).reads≤w.reads + 1:=by
 have gH:∀ (o:ByteArray) (n:Nd) (s r:Int),0≤r→r≤1→(w.fileW o n s r).nf=w.nf + 1∧w.nt≤(w.fileW o n s r).nt∧(w.fileW o n s r).nt≤w.nt + 1∧w.reads≤(w.fileW o n s r).reads∧(w.fileW o n s r).reads≤w.reads + 1:=fun o n s r h0 h1 =>
  ⟨rfl,Nat.le_succ _,Nat.le_refl _,by show w.reads≤w.reads + r;omega,by show w.reads + r≤w.reads + 1;omega⟩
 unfold iC;split
 ·exact ⟨rfl,Nat.le_refl _,Nat.le_succ _,Int.le_refl _,by show w.reads≤w.reads + 1;omega⟩
 ·split
  ·exact gH _ _ _ _ (by omega) (by omega)
  ·exact gH _ _ _ _ (by omega) (by omega)
theorem qEs (d:Dk) (v:ByteArray) (kn:iT):∀ (l:List ByteArray) (w:Wk),(eM d v kn w l).nf=w.nf + l.length∧w.nt≤(eM d v kn w l).nt∧(eM d v kn w l).nt≤w.nt + l.length∧w.reads≤(eM d v kn w l).reads∧(eM d v kn w l).reads≤w.reads + l.length
|[],w=>by simp [eM]
|q :: l,w=>by
  rw [gZ]
  have h:=qEs d v kn l (iC d v kn w q)
  have h1:=zEb d v kn w q
  simp only [List.length_cons];omega
theorem sW {α β:Type} (f:α→List β) (l:List α) {i:Nat} (h:i < l.length):(l.take (i + 1)).flatMap f=(l.take i).flatMap f ++ f l[i]:=by
 rw [List.take_succ_eq_append_getElem h,List.flatMap_append,List.flatMap_cons,List.flatMap_nil,List.append_nil]
theorem qEa {α β:Type} (f:α→List β) (l:List α) (i:Nat):((l.take i).flatMap f).length≤(l.flatMap f).length:=by
 conv=>rhs;rw [← List.take_append_drop i l,List.flatMap_append,List.length_append]
 omega
def Wk.maps (w:Wk) (r3 r4 r5 n3:Nat) (M3:MTab):MS:=[.map r3 85 n3 M3,.map r4 kS w.nf (tab nL w.F),.map r5 kS w.nt (tab jL w.T)]
theorem qB8 (w:Wk) (r3 r4 r5 n3:Nat) (M3:MTab):w.maps r3 r4 r5 n3 M3=[.map r3 85 n3 M3,.map r4 kS w.nf (tab nL w.F),.map r5 kS w.nt (tab jL w.T)]:=rfl
def Wk.row (w:Wk) (v:ByteArray) (r3 r4 r5:Nat):List HV:=[.ptr 1 6 0 0,.v (.string v),.v (.map (some r3)),.v (.map (some r4)),.v (.map (some r5)),.v (.int .i64 w.reads)]
theorem qB7 (w:Wk) (v:ByteArray) (r3 r4 r5:Nat):w.row v r3 r4 r5=[.ptr 1 6 0 0,.v (.string v),.v (.map (some r3)),.v (.map (some r4)),.v (.map (some r5)),.v (.int .i64 w.reads)]:=(fun h=>h) rfl
structure KnOk (M:MTab) (kn:iT):Prop where
 is:∀ p n,p.size≤maxLen→(Lit.int .i64 n).wf=true→M (qTj p n)=(kn p n).map nL
theorem mtF:MapTy Tryz.prog 79 kS 52 (nL (0,ByteArray.empty)):=⟨Tryz.underlying79,Tryz.underlying9,fun w=>by kernel_rfl⟩
theorem mtT:MapTy Tryz.prog 62 kS 3 (.int .i64 0):=mtL
theorem mtK:MapTyG Tryz.prog 78 85 52 (nL (0,ByteArray.empty)):=⟨Tryz.underlying78,Keyed.of_law law85,fun w=>by kernel_rfl⟩
end Go.Proofs.YtlihpgmgiehjkaaGreatDoor
end
section
namespace Go.Sw
open Go Go.Tr Go.Eng Go.Dk
theorem qYc (s:ByteArray) (i j:Nat):(s.extract i j).data.toList=(s.data.toList.drop i).take (j - i):=by
 rw [ByteArray.data_extract,Array.toList_extract,List.extract_eq_take_drop]
theorem kX {p q:ByteArray} (h:iL p q=true) (hq:q≠{ data:=#[] }):∃ t,p.data.toList=q.data.toList ++ t∧(t=[]∨∃ r,t=47 :: r):=by
 unfold iL at h;simp only [Bool.or_eq_true,decide_eq_true_eq] at h
 rcases h with (h|h)|h
 ·exact absurd h hq
 ·subst h;exact ⟨[],by simp,.inl rfl⟩
 ·obtain ⟨r,hr⟩:=List.isPrefixOf_iff_prefix.1 h;refine ⟨47 :: r,?_,.inr ⟨r,rfl⟩⟩;rw [← hr];simp [stroke]
theorem lH {p q:ByteArray} {t:List UInt8} (h:p.data.toList=q.data.toList ++ t) (ht:t=[]∨∃ r,t=47 :: r):iL p q=true:=by
 unfold iL
 rcases ht with rfl|⟨r,rfl⟩
 ·have:p=q:=kE (by rw [h,List.append_nil])
  rw [decide_eq_true this];simp
 ·have:(q ++ stroke).data.toList.isPrefixOf p.data.toList=true:=by
   rw [List.isPrefixOf_iff_prefix];exact ⟨r,by rw [h];simp [stroke]⟩
  rw [this];simp
theorem qJe (p:ByteArray):iL p { data:=#[] }=true:=by
 unfold iL
 have:({ data:=#[] }:ByteArray)=ByteArray.empty:=rfl
 rw [decide_eq_true this];rfl
theorem zDy (p:ByteArray):iL p p=true:=lH (t:=[]) (by simp) (.inl rfl)
theorem qY5 {a b c:ByteArray} (h1:iL a b=true) (h2:iL b c=true):iL a c=true:=by
 by_cases hc:c={ data:=#[] }
 ·rw [hc];exact qJe a
 ·obtain ⟨t2,e2,k2⟩:=kX h2 hc
  have hb:b≠{ data:=#[] }:=fun h=>by
   rw [h] at e2
   have e3:=congrArg List.length e2
   rw [List.length_append] at e3
   have e4:c.data.toList.length=0:=by
    have:(({ data:=#[] }:ByteArray).data.toList).length=0:=rfl
    omega
   exact hc (kE (by rw [List.length_eq_zero_iff.1 e4]))
  obtain ⟨t1,e1,k1⟩:=kX h1 hb;refine lH (t:=t2 ++ t1) (by rw [e1,e2,List.append_assoc]) ?_
  rcases k2 with rfl|⟨r,rfl⟩
  ·exact k1
  ·exact .inr ⟨r ++ t1,rfl⟩
theorem qPj {p q:ByteArray} (h:iL p q=true):q.size≤p.size:=by
 by_cases hq:q={ data:=#[] }
 ·subst hq;exact Nat.zero_le _
 ·obtain ⟨t,ht,-⟩:=kX h hq;rw [Lib.size_eq p,ht,List.length_append,← Lib.size_eq];omega
theorem qKv (p:ByteArray):(par p).data.toList=p.data.toList.take (qA6 p):=by
 rw [par,qYc,List.drop_zero,Nat.sub_zero]
theorem qKu {p:ByteArray} (h:¬ par p={ data:=#[] }):(par p).size < p.size:=by
 have hp:p≠ByteArray.empty:=fun e=>by
  subst e;exact h rfl
 have:=zBm hp
 rw [par,ByteArray.size_extract];omega
theorem qWl:∀ (l r:List UInt8),eB (l ++ 47 :: r)=some (l.length + (match eB r with|some i=>i + 1|none=>0))
|[],r=>by
  rw [List.nil_append,eB]
  cases eB r with
 |none=>rfl
 |some i=>simp
|c :: l,r=>by
  rw [List.cons_append,eB,qWl l r];simp only [List.length_cons]
  congr 1
  omega
theorem zGe {p:ByteArray}:iL p (par p)=true:=by
 by_cases h:par p={ data:=#[] }
 ·rw [h];exact qJe p
 ·cases hl:eB p.data.toList with
 |none =>
   have:qA6 p=0:=by rw [qA6,hl];rfl
   exact absurd (kE (by rw [qKv,this];rfl)) h
 |some i =>
   have hn:qA6 p=i:=by rw [qA6,hl];rfl
   obtain ⟨h1,h2⟩:=pQ hl;refine lH (t:=p.data.toList.drop i) (by rw [qKv,hn,List.take_append_drop]) (.inr ⟨p.data.toList.drop (i + 1),?_⟩)
   rw [List.drop_eq_getElem_cons h1];rw [List.getElem?_eq_getElem h1] at h2;rw [Option.some.inj h2]
theorem qVy {p q:ByteArray} (h:iL p q=true) (hn:p≠q) (hq:q≠{ data:=#[] }):iL (par p) q=true:=by
 obtain ⟨t,ht,hs⟩:=kX h hq
 rcases hs with rfl|⟨r,rfl⟩
 ·exact absurd (kE (by rw [ht,List.append_nil])) hn
 ·obtain ⟨m,hm⟩:∃ m,eB p.data.toList=some (q.data.toList.length + m):=⟨_,by rw [ht];exact qWl _ _⟩
  have hp:(par p).data.toList=q.data.toList ++ (47 :: r).take m:=by
   rw [qKv,qA6,hm,Option.getD_some,ht,List.take_append,List.take_of_length_le (by omega),Nat.add_sub_cancel_left]
  refine lH hp ?_
  cases m with
 |zero=>exact .inl rfl
 |succ m=>exact .inr ⟨r.take m,rfl⟩
end Go.Sw
end
