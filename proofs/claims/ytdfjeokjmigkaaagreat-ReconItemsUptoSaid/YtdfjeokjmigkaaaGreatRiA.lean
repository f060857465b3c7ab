/-
  ReconItems: what is said, path by path: plain.
-/
import Derived.Test.YtdfjeokjmigkaaaGreatRcS
import Derived.Test.YtdfjeokjmigkaaaGreatTsB
set_option linter.unusedSimpArgs false
set_option linter.unusedVariables false
namespace Go.Rc
open Go Go.Tr Go.Eng Go.Dk
theorem qFv (p:ByteArray):(par p).data.toList=p.data.toList.take (qLm p):=by
 rw [par,qGn,List.drop_zero,Nat.sub_zero]
theorem qLl {p:ByteArray} (h:¬ par p={ data:=#[] }):(par p).size < p.size:=by
 have hp:p≠ByteArray.empty:=fun e=>by
  subst e;exact h rfl
 have:=zNm hp
 rw [par,ByteArray.size_extract];omega
def opn (H S:List Ent) (p:ByteArray):Bool :=
 if h:par p={ data:=#[] } then true
 else opn H S (par p) && (decide ((eH H (par p)).1=1) && (decide ((eH S (par p)).1=1) && !decide (eV H (par p)=eV S (par p))))
termination_by p.size
decreasing_by exact qLl h
theorem qRq {H S:List Ent} {p:ByteArray} (h:par p={ data:=#[] }):opn H S p=true:=by rw [opn,dif_pos h]
theorem qX4 {H S:List Ent} {p:ByteArray} (h:¬ par p={ data:=#[] }):opn H S p=(opn H S (par p) && (decide ((eH H (par p)).1=1) && (decide ((eH S (par p)).1=1) && !decide (eV H (par p)=eV S (par p))))):=by rw [opn,dif_neg h]
variable {mg:(Int × ByteArray)→(Int × ByteArray)→(Int × ByteArray)→Bool}
def lZ (mg:(Int × ByteArray)→(Int × ByteArray)→(Int × ByteArray)→Bool) (A H S:List Ent) (p:ByteArray):Int :=
 if eV H p=eV S p then (if eV A p=eV H p then 0 else 1)
 else if (eH H p).1=1∧(eH S p).1=1 then (if (eH A p).1=1 then 0 else 1)
 else if eV H p=eV A p then 3
 else if eV S p=eV A p then 2
 else if mg (eH A p) (eH H p) (eH S p)=true then 4 else 5
theorem qKi (r:ByteArray→LN) (A H S:List Ent) (p:ByteArray):iT mg r A H S p=(if lZ mg A H S p=0 then [] else [(p,lZ mg A H S p)]) ++ (if eV H p≠eV S p∧(eH H p).1=1∧(eH S p).1=1 then r p else []):=by
 unfold iT lZ
 by_cases h1:eV H p=eV S p
 ·by_cases h2:eV A p=eV H p
  ·simp [h1,h2]
  ·simp only [if_pos h1,if_neg h2];simp [h1]
 by_cases h2:(eH H p).1=1∧(eH S p).1=1
 ·by_cases h3:(eH A p).1=1
  ·simp [h1,h2,h3]
  ·simp [h1,h2,h3]
 by_cases h3:eV H p=eV A p
 ·simp only [if_neg h1,if_neg h2,if_pos h3,h2,and_false,if_false];simp
 by_cases h4:eV S p=eV A p
 ·simp only [if_neg h1,if_neg h2,if_neg h3,if_pos h4,h2,and_false,if_false];simp
 simp only [if_neg h1,if_neg h2,if_neg h3,if_neg h4,h2,and_false,if_false];split <;> simp
theorem qJb {r:ByteArray→LN} {A H S:List Ent} {p:ByteArray} {x:ByteArray × Int} (hx:x ∈ iT mg r A H S p):(x=(p,lZ mg A H S p)∧lZ mg A H S p≠0)∨(x ∈ r p∧eV H p≠eV S p∧(eH H p).1=1∧(eH S p).1=1):=by
 rw [qKi] at hx
 rcases List.mem_append.1 hx with hx|hx
 ·split at hx
  ·cases hx
  ·rename_i h;exact .inl ⟨List.mem_singleton.1 hx,h⟩
 ·split at hx
  ·rename_i h;exact .inr ⟨hx,h⟩
  ·cases hx
theorem qK6 {A H S:List Ent}:∀ (k:Nat) (top:ByteArray),∀ x ∈ bN mg A H S k top,x.2=lZ mg A H S x.1∧lZ mg A H S x.1≠0
|0,_,x,hx=>by simp [bN] at hx
|k + 1,top,x,hx=>by
  rw [bN] at hx;obtain ⟨q,-,hx⟩:=List.mem_flatMap.1 hx
  rcases qJb hx with ⟨rfl,h⟩|⟨h,-⟩
  ·exact ⟨rfl,h⟩
  ·exact qK6 k q x h
theorem qHq:∀ {f:List UInt8},(∀ c ∈ f,c≠47)→mE f=none
|[],_=>rfl
|c :: r,h=>by rw [mE,qHq fun x hx=>h x (by simp [hx])];simp [h c (by simp)]
theorem qL4:∀ (l r:List UInt8),mE (l ++ 47 :: r)=some (l.length + (match mE r with|some i=>i + 1|none=>0))
|[],r=>by
  rw [List.nil_append,mE]
  cases mE r with
 |none=>rfl
 |some i=>simp
|c :: l,r=>by
  rw [List.cons_append,mE,qL4 l r];simp only [List.length_cons]
  congr 1
  omega
theorem zH5 {top q:ByteArray} {e:Ent} (h:cN top e=some q):par q=top:=by
 obtain ⟨f,hq,hf⟩:=qHn h;refine jF ?_;rw [qFv,qLm,hq]
 by_cases ht:top={ data:=#[] }
 ·rw [if_pos ht,List.nil_append,qHq hf,ht];rfl
 ·rw [if_neg ht,List.append_assoc,List.singleton_append,qL4,qHq hf];simp
theorem zG7 {p:ByteArray}:gF p (par p)=true:=by
 by_cases h:par p={ data:=#[] }
 ·rw [h];exact qA5 p
 ·cases hl:mE p.data.toList with
 |none =>
   have:qLm p=0:=by rw [qLm,hl];rfl
   exact absurd (jF (by rw [qFv,this];rfl)) h
 |some i =>
   have hn:qLm p=i:=by rw [qLm,hl];rfl
   obtain ⟨h1,h2⟩:=qF6 hl;refine iK (t:=p.data.toList.drop i) (by rw [qFv,hn,List.take_append_drop]) (.inr ⟨p.data.toList.drop (i + 1),?_⟩)
   rw [List.drop_eq_getElem_cons h1];rw [List.getElem?_eq_getElem h1] at h2;rw [Option.some.inj h2]
theorem qT1 {p q:ByteArray} (h:gF p q=true) (hn:p≠q) (hq:q≠{ data:=#[] }):gF (par p) q=true:=by
 obtain ⟨t,ht,hs⟩:=jA h hq
 rcases hs with rfl|⟨r,rfl⟩
 ·exact absurd (jF (by rw [ht,List.append_nil])) hn
 ·obtain ⟨m,hm⟩:∃ m,mE p.data.toList=some (q.data.toList.length + m):=⟨_,by rw [ht];exact qL4 _ _⟩
  have hp:(par p).data.toList=q.data.toList ++ (47 :: r).take m:=by
   rw [qFv,qLm,hm,Option.getD_some,ht,List.take_append,List.take_of_length_le (by omega),Nat.add_sub_cancel_left]
  refine iK hp ?_
  cases m with
 |zero=>exact .inl rfl
 |succ m=>exact .inr ⟨r.take m,rfl⟩
theorem zEe {p:ByteArray} {d:Int} {e:Ent} (he:e.1=p) (hp:pOk p d=true):cN (par p) e=some p:=by
 have hne:p≠par p:=fun h=>by
  by_cases h0:par p={ data:=#[] }
  ·exact qXz hp (h.trans h0)
  ·have:=qLl h0
   rw [← h] at this;omega
 obtain ⟨x,hx⟩:=zEd he hp zG7 hne
 have h1:=(qHm hx (by rw [he];exact qDp hp)).2.1
 have h2:=(jX hx).1
 rw [he] at h1
 by_cases hpx:p=x
 ·rw [hx,hpx]
 ·have h3:=qDf (qT1 h1 hpx (fun z=>by rw [z] at h2;exact absurd h2 (by show ¬ _ < 0;omega)))
  omega
theorem anc {E:List Ent} (hp:∀ e ∈ E,par e.1={ data:=#[] }∨∃ x ∈ E,x.1=par e.1) {q:ByteArray} (hq:q≠{ data:=#[] }):∀ (n:Nat) (e:Ent),e ∈ E→e.1.size≤n→gF e.1 q=true→∃ x ∈ E,x.1=q
|0,e,he,hn,hu=>by
  have h1:=qDf hu
  have:=qLs hq
  omega
|n + 1,e,he,hn,hu=>by
  by_cases h:e.1=q
  ·exact ⟨e,he,h⟩
  ·have hu2:=qT1 hu h hq
   have h0:¬ par e.1={ data:=#[] }:=fun z=>by
    have h1:=qDf hu2
    rw [z] at h1
    have:=qLs hq
    have:({ data:=#[] }:ByteArray).size=0:=rfl
    omega
   rcases hp e he with hz|⟨x,hx,hxe⟩
   ·exact absurd hz h0
   ·have:=qLl h0
    exact anc hp hq n x hx (by rw [hxe];omega) (by rw [hxe];exact hu2)
structure Tri3 (A H S E:List Ent):Prop where
 all:A ++ H ++ S=E
 ok:∀ e ∈ E,pOk e.1 5=true
 up:∀ e ∈ E,par e.1={ data:=#[] }∨∃ x ∈ E,x.1=par e.1
theorem qPt {A H S E:List Ent} (h:Tri3 A H S E):∀ (k:Nat) (top:ByteArray),(top={ data:=#[] }∨(opn H S top=true∧(eH H top).1=1∧(eH S top).1=1∧eV H top≠eV S top))→∀ x ∈ bN mg A H S k top,opn H S x.1=true∧∃ e ∈ E,e.1=x.1
|0,_,_,x,hx=>by simp [bN] at hx
|k + 1,top,hT,x,hx=>by
  rw [bN,h.all] at hx;obtain ⟨q,hq,hx⟩:=List.mem_flatMap.1 hx;obtain ⟨y,hy,rfl⟩:=List.mem_map.1 hq
  rcases nL E [] hy with h0|⟨e,he,hn⟩
  ·cases h0
  have hop:opn H S y.1=true:=by
   have hpn:=zH5 hn
   by_cases ht:top={ data:=#[] }
   ·exact qRq (hpn.trans ht)
   ·rcases hT with hT|⟨a,b,c,d⟩
    ·exact absurd hT ht
    ·rw [qX4 (by rw [hpn];exact ht),hpn,a,decide_eq_true b,decide_eq_true c,decide_eq_false d];rfl
  rcases qJb hx with ⟨rfl,-⟩|⟨h1,h2,h3,h4⟩
  ·have s1:=(jX hn).1
   exact ⟨hop,anc h.up (fun z=>by rw [z] at s1;exact absurd s1 (by show ¬ _ < 0;omega)) _ e he (Nat.le_refl _) (qHm hn (qDp (h.ok e he))).2.1⟩
  ·exact qPt h k y.1 (.inr ⟨hop,h3,h4,h2⟩) x h1
theorem zJh {A H S E:List Ent} (h:Tri3 A H S E):∀ (n:Nat) (p:ByteArray),p.size≤n→(∃ e ∈ E,e.1=p)→opn H S p=true→∃ d,1≤d∧d≤p.size∧∀ (k:Nat),∀ x ∈ iT mg (bN mg A H S k) A H S p,x ∈ bN mg A H S (k + d) { data:=#[] }
|0,p,hn,⟨e,he,hep⟩,_=>by
  have:=qLs (show ¬ p={ data:=#[] } from fun z=>qXz (by have:=h.ok e he;rwa [hep,z] at this) rfl)
  omega
|n + 1,p,hn,⟨e,he,hep⟩,ho=>by
  have hpk:=h.ok e he
  rw [hep] at hpk
  have hpos:=qLs (show ¬ p={ data:=#[] } from fun z=>qXz hpk z)
  have hnm:cN (par p) e=some p:=zEe hep hpk
  have step:∀ (k:Nat),∀ x ∈ iT mg (bN mg A H S k) A H S p,x ∈ bN mg A H S (k + 1) (par p):=fun k x hx=>by
   rw [bN,h.all];exact List.mem_flatMap.2 ⟨p,qPx E [] (.inr ⟨e,he,hnm⟩),hx⟩
  by_cases h0:par p={ data:=#[] }
  ·exact ⟨1,Nat.le_refl _,by omega,fun k x hx=>by have:=step k x hx;rwa [h0] at this⟩
  ·rw [qX4 h0] at ho;simp only [Bool.and_eq_true,decide_eq_true_eq,Bool.not_eq_true',decide_eq_false_iff_not] at ho;obtain ⟨o1,o2,o3,o4⟩:=ho
   have hsz:=qLl h0
   have hen:∃ x ∈ E,x.1=par p:=by
    rcases h.up e he with z|z
    ·exact absurd (by rwa [hep] at z) h0
    ·rwa [hep] at z
   obtain ⟨d,d1,d2,hd⟩:=zJh h n (par p) (by omega) hen o1
   refine ⟨d + 1,by omega,by omega,fun k x hx=>?_⟩
   have hun:(eV H (par p)≠eV S (par p)∧(eH H (par p)).1=1∧(eH S (par p)).1=1):=⟨o4,o2,o3⟩
   have:=hd (k + 1) x (by rw [qKi];exact List.mem_append.2 (.inr (by rw [if_pos hun];exact step k x hx)))
   rwa [show k + 1 + d=k + (d + 1) by omega] at this
def zNc (mg:(Int × ByteArray)→(Int × ByteArray)→(Int × ByteArray)→Bool) (A H S:List Ent) (p:ByteArray):Bool:=opn H S p && !decide (lZ mg A H S p=0)
def zHv (mg:(Int × ByteArray)→(Int × ByteArray)→(Int × ByteArray)→Bool) (A H S:List Ent):LN:=(qBx (zNc mg A H S) none (qKy (A ++ H ++ S))).map fun p=>(p,lZ mg A H S p)
theorem qTe {A H S:List Ent}:∀ {L:LN},(∀ x ∈ L,x.2=lZ mg A H S x.1)→L=(L.map fun x=>x.1).map fun p=>(p,lZ mg A H S p)
|[],_=>rfl
|(q,n) :: r,h=>by
  have h1:=h (q,n) (by simp)
  dsimp only at h1;rw [List.map_cons,List.map_cons,← qTe (fun x hx=>h x (by simp [hx])),← h1]
theorem zEn {A H S E:List Ent} (h:Tri3 A H S E) (hs:∀ e ∈ E,e.1.size≤1048576):bN mg A H S 1048577 { data:=#[] }=zHv mg A H S:=by
 have hn:=qS8 (A ++ H ++ S)
 have hp:=qEw (A ++ H ++ S)
 rw [qTe (fun x hx=>(qK6 _ _ x hx).1)]
 unfold zHv
 congr 1
 refine qTk (List.pairwise_map.2 (qFf h.all h.ok _ _)) (qLk _ _ _ hn (fun p e=>by cases e)) fun q=>?_
 rw [qHh _ q _ _ hn (fun p e=>by cases e),List.mem_map]
 constructor
 ·rintro ⟨x,hx,rfl⟩;obtain ⟨h1,e,he,hex⟩:=qPt h 1048577 { data:=#[] } (.inl rfl) x hx
  have h2:=(qK6 _ _ x hx).2
  refine ⟨⟨e,hp.mem_iff.2 (by rw [h.all];exact he),hex⟩,?_,by simp⟩
  rw [zNc,h1,decide_eq_false h2];rfl
 ·rintro ⟨⟨e,he,hep⟩,hf,-⟩
  have he:=hp.mem_iff.1 he
  rw [h.all] at he;rw [zNc] at hf;simp only [Bool.and_eq_true,Bool.not_eq_true',decide_eq_false_iff_not] at hf;obtain ⟨d,d1,d2,hd⟩:=zJh (mg:=mg) h q.size q (Nat.le_refl _) ⟨e,he,hep⟩ hf.1
  have hqs:=hs e he
  rw [hep] at hqs
  have:=hd (1048577 - d) (q,lZ mg A H S q) (by rw [qKi,if_neg hf.2];simp)
  rw [show 1048577 - d + d=1048577 by omega] at this
  exact ⟨_,this,rfl⟩
theorem qKm {t:List Ent} (h:okR t=true):∀ e ∈ t,par e.1={ data:=#[] }∨∃ x ∈ t,x.1=par e.1:=fun e he=>by
 obtain ⟨i,hi,rfl⟩:=List.getElem_of_mem he
 have:=sN.1 h i hi
 simp only [qEy,qHe,Bool.and_eq_true,Bool.or_eq_true,decide_eq_true_eq] at this;rw [qBt hi] at this
 rcases this.2 with h|h
 ·exact .inl h
 ·refine .inr (zLn fun z=>?_)
  rw [z] at h;exact absurd h (by decide)
end Go.Rc
