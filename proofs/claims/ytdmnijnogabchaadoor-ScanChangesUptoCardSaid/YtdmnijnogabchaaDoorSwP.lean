/-
  Scan: paths below one another: plain.
-/
import Derived.Test.YtdmnijnogabchaaDoorMt
import Derived.Test.YtdmnijnogabchaaDoorDlE
import Derived.Test.YtdmnijnogabchaaDoorTrC
import Derived.Test.YtdmnijnogabchaaDoorDkI
import Derived.Test.YtdmnijnogabchaaDoorMs
import Derived.Test.YtdmnijnogabchaaDoorDrj
import Derived.Test.YtdmnijnogabchaaDoorDk
set_option linter.unusedSimpArgs false
set_option linter.unusedVariables false
section
set_option maxRecDepth 20000
namespace Go.Proofs.YtdmnijnogabchaaDoor
open Go Go.Eng Go.RowKit Go.Maps Go.Tr Go.Dk
abbrev Nd:=Int × ByteArray
def kB (n:Nd):Value:=.agg #[.int .i64 n.1,.string n.2]
structure Wk where
 F:List (ByteArray × Nd)
 T:List (ByteArray × Int)
 reads:Int
 nf:Nat
 nt:Nat
def gM (v q:ByteArray):ByteArray:=q.extract (v.size + 1) q.size
def Wk.dirW (w:Wk) (o:ByteArray):Wk:={ w with F:=put o (1,ByteArray.empty) w.F,nf:=w.nf + 1 }
def Wk.fileW (w:Wk) (o:ByteArray) (n:Nd) (s:Int) (r:Int):Wk:=⟨put o n w.F,put o s w.T,w.reads + r,w.nf + 1,w.nt + 1⟩
abbrev kZ:=ByteArray→Int→Option Nd
def iT (d:Dk) (v:ByteArray) (kn:kZ) (w:Wk) (q:ByteArray):Wk :=
 if tN d q=1 then w.dirW (gM v q) else match kn (gM v q) (dL d q) with
 |some n=>w.fileW (gM v q) n (dL d q) 0
 |none=>w.fileW (gM v q) (2,(nB d q).1) (dL d q) 1
def eF (d:Dk) (v:ByteArray) (kn:kZ) (w:Wk) (l:List ByteArray):Wk:=l.foldl (iT d v kn) w
def vis (d:Dk):Nat→ByteArray→List ByteArray
|0,_=>[]
|k + 1,p=>(xT d p).flatMap fun q=>q :: if tN d q=1 then vis d k q else []
def nD (d:Dk) (k:Nat) (q:ByteArray):List ByteArray:=q :: if tN d q=1 then vis d k q else []
theorem qRt (d:Dk) (k:Nat) (p:ByteArray):vis d (k + 1) p=(xT d p).flatMap (nD d k):=rfl
theorem qK9 (d:Dk) (v:ByteArray) (kn:kZ) (w:Wk) (a b:List ByteArray):eF d v kn w (a ++ b)=eF d v kn (eF d v kn w a) b:=List.foldl_append ..
theorem iU (d:Dk) (v:ByteArray) (kn:kZ) (w:Wk) (a:ByteArray) (b:List ByteArray):eF d v kn w (a :: b)=eF d v kn (iT d v kn w a) b:=rfl
theorem qK8 (d:Dk) (v:ByteArray) (kn:kZ) (w:Wk):eF d v kn w []=w:=rfl
theorem zAh (d:Dk) (v:ByteArray) (kn:kZ) (w:Wk) (q:ByteArray):(iT d v kn w q).nf=w.nf + 1∧w.nt≤(iT d v kn w q).nt∧(iT d v kn w q).nt≤w.nt + 1∧w.reads≤(iT d v kn w q).reads∧(iT d v kn w q).reads≤w.reads + 1:=by
 have qU0:∀ (o:ByteArray) (n:Nd) (s r:Int),0≤r→r≤1→(w.fileW o n s r).nf=w.nf + 1∧w.nt≤(w.fileW o n s r).nt∧(w.fileW o n s r).nt≤w.nt + 1∧w.reads≤(w.fileW o n s r).reads∧(w.fileW o n s r).reads≤w.reads + 1:=fun o n s r h0 h1 =>
  ⟨rfl,Nat.le_succ _,Nat.le_refl _,by show w.reads≤w.reads + r;omega,by show w.reads + r≤w.reads + 1;omega⟩
 unfold iT;split
 ·exact ⟨rfl,Nat.le_refl _,Nat.le_succ _,Int.le_refl _,by show w.reads≤w.reads + 1;omega⟩
 ·split
  ·exact qU0 _ _ _ _ (by omega) (by omega)
  ·exact qU0 _ _ _ _ (by omega) (by omega)
theorem qAt (d:Dk) (v:ByteArray) (kn:kZ):∀ (l:List ByteArray) (w:Wk),(eF d v kn w l).nf=w.nf + l.length∧w.nt≤(eF d v kn w l).nt∧(eF d v kn w l).nt≤w.nt + l.length∧w.reads≤(eF d v kn w l).reads∧(eF d v kn w l).reads≤w.reads + l.length
|[],w=>by simp [eF]
|q :: l,w=>by
  rw [iU]
  have h:=qAt d v kn l (iT d v kn w q)
  have h1:=zAh d v kn w q
  simp only [List.length_cons];omega
theorem oY {α β:Type} (f:α→List β) (l:List α) {i:Nat} (h:i < l.length):(l.take (i + 1)).flatMap f=(l.take i).flatMap f ++ f l[i]:=by
 rw [List.take_succ_eq_append_getElem h,List.flatMap_append,List.flatMap_cons,List.flatMap_nil,List.append_nil]
theorem qAi {α β:Type} (f:α→List β) (l:List α) (i:Nat):((l.take i).flatMap f).length≤(l.flatMap f).length:=by
 conv=>rhs;rw [← List.take_append_drop i l,List.flatMap_append,List.length_append]
 omega
def Wk.maps (w:Wk) (r3 r4 r5 n3:Nat) (M3:MTab):MS:=[.map r3 70 n3 M3,.map r4 kS w.nf (tab kB w.F),.map r5 kS w.nt (tab gN w.T)]
theorem wM (w:Wk) (r3 r4 r5 n3:Nat) (M3:MTab):w.maps r3 r4 r5 n3 M3=[.map r3 70 n3 M3,.map r4 kS w.nf (tab kB w.F),.map r5 kS w.nt (tab gN w.T)]:=rfl
def Wk.row (w:Wk) (v:ByteArray) (r3 r4 r5:Nat):List HV:=[.ptr 1 6 0 0,.v (.string v),.v (.map (some r3)),.v (.map (some r4)),.v (.map (some r5)),.v (.int .i64 w.reads)]
theorem wL (w:Wk) (v:ByteArray) (r3 r4 r5:Nat):w.row v r3 r4 r5=[.ptr 1 6 0 0,.v (.string v),.v (.map (some r3)),.v (.map (some r4)),.v (.map (some r5)),.v (.int .i64 w.reads)]:=(fun h=>h) rfl
structure KnOk (M:MTab) (kn:kZ):Prop where
 is:∀ p n,p.size≤maxLen→(Lit.int .i64 n).wf=true→M (qQh p n)=(kn p n).map kB
theorem mtF:MapTy Tryd.prog 64 kS 29 (kB (0,ByteArray.empty)):=⟨Tryd.underlying64,Tryd.underlying9,fun w=>by kernel_rfl⟩
theorem mtT:MapTy Tryd.prog 48 kS 3 (.int .i64 0):=mtL
theorem mtK:MapTyG Tryd.prog 63 70 29 (kB (0,ByteArray.empty)):=⟨Tryd.underlying63,Keyed.of_law law85,fun w=>by kernel_rfl⟩
end Go.Proofs.YtdmnijnogabchaaDoor
end
section
set_option maxRecDepth 20000
namespace Go.Proofs.YtdmnijnogabchaaDoor
open Go Go.Eng Go.RowKit Go.Tr Go.Dk
end Go.Proofs.YtdmnijnogabchaaDoor
end
section
namespace Go.Eng
open Go Go.RowKit Go.Maps
inductive SK where
|mv (d k:Nat)
|fa (d off:Nat)
|ld (d j off:Nat)
|go
def zHs (P:Program) (ke:List Nat) (ops:List Oper) (ks0:List SK) (v sz i:Nat):SK→Prop
|.mv d k=>∃ o,ops[i]?=some o∧o.op=.move (.tmp k)∧o.guard=none∧o.dst=some d∧ke.contains k=true
|.fa d off=>∃ o T f,ops[i]?=some o∧o.op=.fieldAddr T (.tmp v) f∧o.guard=none∧o.dst=some d∧gH P T f=some off
|.ld d j off=>∃ o T t,ops[i]?=some o∧o.op=.load T (.tmp t)∧o.guard=none∧o.dst=some d∧bU P T=some none∧ks0[j]?=some (.fa t off)∧off < sz∧j < i
|.go=>True
def SkOk (P:Program) (ke:List Nat) (ops:List Oper) (ks0:List SK) (v sz:Nat):List SK→Nat→Prop
|[],_=>True
|k :: r,i=>zHs P ke ops ks0 v sz i k∧SkOk P ke ops ks0 v sz r (i + 1)
theorem SkOk.get {P:Program} {ke:List Nat} {ops:List Oper} {ks0:List SK} {v sz:Nat}:∀ {ks:List SK} {i j:Nat} {k:SK},SkOk P ke ops ks0 v sz ks i→ks[j]?=some k→zHs P ke ops ks0 v sz (i + j) k
|[],i,j,k,_,h=>by simp at h
|a :: r,i,0,k,H,h=>by
  simp only [List.getElem?_cons_zero,Option.some.injEq] at h;subst h;exact H.1
|a :: r,i,j + 1,k,H,h=>by
  have:=SkOk.get (j:=j) H.2 (by simpa using h)
  rw [show i + 1 + j=i + (j + 1) by omega] at this;exact this
section
variable {P:Program} {N:Nat} {S:HS} {g:MS} {Q:iD}
end
end Go.Eng
end
section
namespace Go.Sw
open Go Go.Tr Go.Eng Go.Dk
theorem zEz (s:ByteArray) (i j:Nat):(s.extract i j).data.toList=(s.data.toList.drop i).take (j - i):=by
 rw [ByteArray.data_extract,Array.toList_extract,List.extract_eq_take_drop]
theorem qLa {p q:ByteArray} (h:qD1 p q=true) (hq:q≠{ data:=#[] }):∃ t,p.data.toList=q.data.toList ++ t∧(t=[]∨∃ r,t=47 :: r):=by
 unfold qD1 at h;simp only [Bool.or_eq_true,decide_eq_true_eq] at h
 rcases h with (h|h)|h
 ·exact absurd h hq
 ·subst h;exact ⟨[],by simp,.inl rfl⟩
 ·obtain ⟨r,hr⟩:=List.isPrefixOf_iff_prefix.1 h;refine ⟨47 :: r,?_,.inr ⟨r,rfl⟩⟩;rw [← hr];simp [stroke]
theorem wQ {p q:ByteArray} {t:List UInt8} (h:p.data.toList=q.data.toList ++ t) (ht:t=[]∨∃ r,t=47 :: r):qD1 p q=true:=by
 unfold qD1
 rcases ht with rfl|⟨r,rfl⟩
 ·have:p=q:=pG (by rw [h,List.append_nil])
  rw [decide_eq_true this];simp
 ·have:(q ++ stroke).data.toList.isPrefixOf p.data.toList=true:=by
   rw [List.isPrefixOf_iff_prefix];exact ⟨r,by rw [h];simp [stroke]⟩
  rw [this];simp
theorem qEd (p:ByteArray):qD1 p { data:=#[] }=true:=by
 unfold qD1
 have:({ data:=#[] }:ByteArray)=ByteArray.empty:=rfl
 rw [decide_eq_true this];rfl
theorem qVu {a b c:ByteArray} (h1:qD1 a b=true) (h2:qD1 b c=true):qD1 a c=true:=by
 by_cases hc:c={ data:=#[] }
 ·rw [hc];exact qEd a
 ·obtain ⟨t2,e2,k2⟩:=qLa h2 hc
  have hb:b≠{ data:=#[] }:=fun h=>by
   rw [h] at e2
   have e3:=congrArg List.length e2
   rw [List.length_append] at e3
   have e4:c.data.toList.length=0:=by
    have:(({ data:=#[] }:ByteArray).data.toList).length=0:=rfl
    omega
   exact hc (pG (by rw [List.length_eq_zero_iff.1 e4]))
  obtain ⟨t1,e1,k1⟩:=qLa h1 hb;refine wQ (t:=t2 ++ t1) (by rw [e1,e2,List.append_assoc]) ?_
  rcases k2 with rfl|⟨r,rfl⟩
  ·exact k1
  ·exact .inr ⟨r ++ t1,rfl⟩
theorem qSi (p:ByteArray):(par p).data.toList=p.data.toList.take (qD3 p):=by
 rw [par,zEz,List.drop_zero,Nat.sub_zero]
theorem zC6 {p:ByteArray} (h:¬ par p={ data:=#[] }):(par p).size < p.size:=by
 have hp:p≠ByteArray.empty:=fun e=>by
  subst e;exact h rfl
 have:=zGg hp
 rw [par,ByteArray.size_extract];omega
theorem zB3 {p:ByteArray}:qD1 p (par p)=true:=by
 by_cases h:par p={ data:=#[] }
 ·rw [h];exact qEd p
 ·cases hl:gD p.data.toList with
 |none =>
   have:qD3 p=0:=by rw [qD3,hl];rfl
   exact absurd (pG (by rw [qSi,this];rfl)) h
 |some i =>
   have hn:qD3 p=i:=by rw [qD3,hl];rfl
   obtain ⟨h1,h2⟩:=mE hl;refine wQ (t:=p.data.toList.drop i) (by rw [qSi,hn,List.take_append_drop]) (.inr ⟨p.data.toList.drop (i + 1),?_⟩)
   rw [List.drop_eq_getElem_cons h1];rw [List.getElem?_eq_getElem h1] at h2;rw [Option.some.inj h2]
end Go.Sw
end
