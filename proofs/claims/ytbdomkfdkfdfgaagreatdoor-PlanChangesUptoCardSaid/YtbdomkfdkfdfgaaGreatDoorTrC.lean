/-
  Plain: paths: names between strokes; parents; what lies under what.
-/
import Derived.Test.YtbdomkfdkfdfgaaGreatDoorRows
import Derived.Test.YtbdomkfdkfdfgaaGreatDoorGd
import Derived.JoinedCond
import Derived.Deep.CondSized
import GoSem.Op.String
import Derived.Lib.Bytealg
import Derived.Lib.SplitLaws
import Derived.Lib.IndexBytes
set_option linter.unusedVariables false
set_option linter.unusedSimpArgs false
section
namespace Go.Proofs.YtbdomkfdkfdfgaaGreatDoor
open Go Go.Eng Go.RowKit Go.ChangeShapes Go.WideShapes Go.ChangeAt
theorem zA0 {H:Type}:∀ (l:List (DataW H)),Rows.uptoBulkAll l=(l.map Rows.uptoBulk).sum
|[]=>by simp [Rows.uptoBulkAll]
|d :: r=>by rw [Rows.uptoBulkAll,zA0 r];rfl
theorem zSq {H:Type}:∀ (d:DataW H),1≤Rows.uptoBulk d:=fun d=>by
 cases d with
|lit l=>cases l <;> simp [Rows.uptoBulk]
|_=>simp [Rows.uptoBulk]
theorem qY5 {H:Type}:Bulk (H:=H) Rows.uptoBulk:=by
 refine ⟨zSq,fun b=>?_,fun es rest=>?_,fun xs=>?_⟩
 ·rw [Rows.uptoBulk];exact Nat.le_refl _
 ·rw [Rows.uptoBulk,zA0];omega
 ·rw [Rows.uptoBulk,zA0];omega
theorem zSr {H:Type} {ds gs:List (DataW H)} (hk:Rows.uptoSmall H (ds ++ gs)=true):(ds.map Rows.uptoBulk).sum≤1048576:=by
 have h:Rows.uptoBulkAll (ds ++ gs)≤1048576:=of_decide_eq_true hk
 rw [zA0,List.map_append,List.sum_append] at h;omega
theorem zRg (s:ByteArray):fw (.v (.string s))=s.size + 1:=by rw [fw]
end Go.Proofs.YtbdomkfdkfdfgaaGreatDoor
end
section
namespace Go.Tr
open Go
def blt (a b:ByteArray):Bool:=Op.bytesLess a.toList b.toList
theorem qV2:∀ (a:List UInt8),Op.bytesLess a a=false
|[]=>rfl
|x :: r=>by simp [Op.bytesLess,qV2 r]
theorem qK3:∀ {a b c:List UInt8},Op.bytesLess a b=true→Op.bytesLess b c=true→Op.bytesLess a c=true
|_,[],c,h,_=>by cases ‹List UInt8› <;> simp [Op.bytesLess] at h
|_,_ :: _,[],_,h=>by simp [Op.bytesLess] at h
|[],_ :: _,_ :: _,_,_=>by simp [Op.bytesLess]
|x :: a,y :: b,z :: c,h1,h2=>by
  simp only [Op.bytesLess,Bool.or_eq_true,decide_eq_true_eq,Bool.and_eq_true,beq_iff_eq] at h1 h2 ⊢
  rcases h1 with h1|⟨rfl,h1⟩
  ·rcases h2 with h2|⟨rfl,h2⟩
   ·exact .inl (UInt8.lt_trans h1 h2)
   ·exact .inl h1
  ·rcases h2 with h2|⟨rfl,h2⟩
   ·exact .inl h2
   ·exact .inr ⟨rfl,qK3 h1 h2⟩
theorem qV1:∀ (a b:List UInt8),Op.bytesLess a b=true∨a=b∨Op.bytesLess b a=true
|[],[]=>.inr (.inl rfl)
|[],_ :: _=>.inl rfl
|_ :: _,[]=>.inr (.inr rfl)
|x :: a,y :: b=>by
  simp only [Op.bytesLess,Bool.or_eq_true,decide_eq_true_eq,Bool.and_eq_true,beq_iff_eq]
  by_cases h:x=y
  ·subst h
   rcases qV1 a b with h|rfl|h
   ·exact .inl (.inr ⟨rfl,h⟩)
   ·exact .inr (.inl rfl)
   ·exact .inr (.inr (.inr ⟨rfl,h⟩))
  ·have:x < y∨y < x:=by
    rcases Nat.lt_trichotomy x.toNat y.toNat with h'|h'|h'
    ·exact .inl h'
    ·exact (h (UInt8.toNat_inj.1 h')).elim
    ·exact .inr h'
   rcases this with h'|h'
   ·exact .inl (.inl h')
   ·exact .inr (.inr (.inl h'))
theorem vR:∀ (a b:List UInt8),b≠[]→Op.bytesLess a (a ++ b)=true
|[],b,h=>by cases b with
 |nil=>exact absurd rfl h
 |cons x r=>rfl
|x :: a,b,h=>by simp [Op.bytesLess,vR a b h]
theorem toList_inj {a b:ByteArray} (h:a.toList=b.toList):a=b:=by
 rw [Lib.toList_data,Lib.toList_data] at h
 cases a;cases b;simp only [ByteArray.mk.injEq];exact Array.toList_inj.1 h
theorem fP (a:ByteArray):blt a a=false:=qV2 _
theorem iP {a b c:ByteArray} (h1:blt a b=true) (h2:blt b c=true):blt a c=true:=qK3 h1 h2
theorem jJ (a b:ByteArray):blt a b=true∨a=b∨blt b a=true:=by
 rcases qV1 a.toList b.toList with h|h|h
 ·exact .inl h
 ·exact .inr (.inl (toList_inj h))
 ·exact .inr (.inr h)
theorem iQ {a b:ByteArray} (h:blt a b=true):blt b a=false:=by
 cases e:blt b a with
|false=>rfl
|true=>exact absurd (iP h e) (by rw [fP];simp)
theorem uH {a b:ByteArray} (h:blt a b=true):a≠b:=fun e=>by subst e;rw [fP] at h;cases h
theorem zK2:∀ (a b:List UInt8),decide (Lib.compareBytes a b < 0)=Op.bytesLess a b
|[],[]=>rfl
|[],_ :: _=>rfl
|_ :: _,[]=>rfl
|x :: a,y :: b=>by
  simp only [Lib.compareBytes,Op.bytesLess]
  by_cases h:x < y
  ·simp [h]
  ·by_cases h2:y < x
   ·have:x≠y:=fun e=>by subst e;exact h h2
    simp [h,h2,this]
   ·have:x=y:=by
     apply UInt8.toNat_inj.1
     have h':¬ x.toNat < y.toNat:=h
     have h2':¬ y.toNat < x.toNat:=h2
     omega
    subst this;simp only [h,if_false];rw [zK2 a b];simp
theorem zD6:∀ (a b:List UInt8),decide (Lib.compareBytes a b=0)=decide (a=b)
|[],[]=>rfl
|[],_ :: _=>by simp [Lib.compareBytes]
|_ :: _,[]=>by simp [Lib.compareBytes]
|x :: a,y :: b=>by
  simp only [Lib.compareBytes]
  by_cases h:x < y
  ·have:x≠y:=fun e=>by subst e;exact absurd h (by simp)
   simp [h,this]
  ·by_cases h2:y < x
   ·have:x≠y:=fun e=>by subst e;exact h h2
    simp [h,h2,this]
   ·have:x=y:=by
     apply UInt8.toNat_inj.1
     have h':¬ x.toNat < y.toNat:=h
     have h2':¬ y.toNat < x.toNat:=h2
     omega
    subst this;simp only [h,if_false];rw [zD6 a b];simp
def qHg (a b:ByteArray):Int:=Lib.compareBytes a.data.toList b.data.toList
theorem qDs (a b:ByteArray):decide (qHg a b < 0)=blt a b:=by rw [qHg,zK2,blt,Lib.toList_data,Lib.toList_data]
theorem zNe (a b:ByteArray):decide (qHg a b=0)=decide (a=b):=by
 rw [qHg,zD6,decide_eq_decide];exact ⟨fun h=>toList_inj (by rw [Lib.toList_data,Lib.toList_data];exact h),fun h=>by rw [h]⟩
end Go.Tr
end
section
namespace Go.Tr
open Go
abbrev Ent:=ByteArray × Int × ByteArray
def kD:Int × ByteArray:=(0,ByteArray.empty)
def aF (t:List Ent) (p:ByteArray):Int × ByteArray:=((t.find? fun e=>decide (e.1=p)).map (·.2)).getD kD
def rise (t:List Ent):Prop:=t.Pairwise fun a b=>blt a.1 b.1=true
def bG (t:List Ent) (p:ByteArray):Nat:=t.countP fun e=>blt e.1 p
def eF (t:List Ent) (p:ByteArray):Bool:=t.any fun e=>decide (e.1=p)
theorem kC {t:List Ent} (h:rise t) {i j:Nat} (hij:i < j) (hj:j < t.length):blt (t[i]'(by omega)).1 t[j].1=true:=List.pairwise_iff_getElem.1 h i j (by omega) hj hij
theorem qSw {α:Type} (f:α→Bool):∀ (t:List α) (i:Nat),i≤t.length→(∀ a (h:a < t.length),a < i→f t[a]=true)→(∀ a (h:a < t.length),i≤a→f t[a]=false)→t.countP f=i
|[],i,h,_,_=>by simp at h;subst h;rfl
|x :: r,0,h,h1,h2=>by
  rw [List.countP_eq_zero];intro a ha;obtain ⟨k,hk,rfl⟩:=List.getElem_of_mem ha;rw [h2 k hk (Nat.zero_le _)];simp
|x :: r,i + 1,h,h1,h2=>by
  rw [List.countP_cons,qSw f r i (by simpa using h) (fun a ha hi=>h1 (a + 1) (by simp;omega) (by omega)) (fun a ha hi=>h2 (a + 1) (by simp;omega) (by omega))]
  have:=h1 0 (by simp) (by omega)
  simp only [List.getElem_cons_zero] at this;simp [this]
theorem zHw {t:List Ent} {p:ByteArray} {i:Nat} (hi:i≤t.length) (h1:∀ a (h:a < t.length),a < i→blt t[a].1 p=true) (h2:∀ a (h:a < t.length),i≤a→blt t[a].1 p=false):bG t p=i:=qSw _ t i hi h1 h2
theorem qVk (t:List Ent) (p:ByteArray):bG t p≤t.length:=List.countP_le_length ..
theorem tU:∀ {t:List Ent} (h:rise t) (p:ByteArray),(∀ a (h:a < t.length),a < bG t p→blt t[a].1 p=true)∧(∀ a (h:a < t.length),bG t p≤a→blt t[a].1 p=false)
|[],_,p=>⟨fun a h=>by simp at h,fun a h=>by simp at h⟩
|x :: r,h,p=>by
  have hr:=(List.pairwise_cons.1 h)
  obtain ⟨i1,i2⟩:=tU hr.2 p;unfold bG at i1 i2 ⊢;rw [List.countP_cons]
  cases e:blt x.1 p with
 |true =>
   simp only [if_true];refine ⟨fun a ha hi=>?_,fun a ha hi=>?_⟩
   ·cases a with
   |zero=>simpa using e
   |succ a=>simpa using i1 a (by simpa using ha) (by omega)
   ·cases a with
   |zero=>omega
   |succ a=>simpa using i2 a (by simpa using ha) (by omega)
 |false =>
   have z:r.countP (fun e=>blt e.1 p)=0:=by
    rw [List.countP_eq_zero];intro y hy
    have:=hr.1 y hy
    intro hb;rw [iP this hb] at e;cases e
   rw [z];simp only [Bool.false_eq_true,if_false];refine ⟨fun a ha hi=>by omega,fun a ha hi=>?_⟩
   cases a with
  |zero=>simpa using e
  |succ a=>simpa using i2 a (by simpa using ha) (by rw [z];omega)
theorem zG1 {t:List Ent} (h:rise t) {i j:Nat} (hi:i < t.length) (hj:j < t.length) (e:t[i].1=t[j].1):i=j:=by
 rcases Nat.lt_trichotomy i j with h'|h'|h'
 ·have:=kC h h' hj
  rw [e,fP] at this;cases this
 ·exact h'
 ·have:=kC h h' hi
  rw [e,fP] at this;cases this
theorem iA {t:List Ent} (h:rise t) (p:ByteArray):eF t p=decide (∃ hp:bG t p < t.length,t[bG t p].1=p):=by
 obtain ⟨h1,h2⟩:=tU h p;unfold eF;rw [Bool.eq_iff_iff,List.any_eq_true];simp only [decide_eq_true_eq];constructor
 ·rintro ⟨e,he,rfl⟩;obtain ⟨k,hk,rfl⟩:=List.getElem_of_mem he
  have hk2:bG t t[k].1=k:=by
   refine zHw (by omega) (fun a ha hi=>kC h hi hk) (fun a ha hi=>?_)
   rcases Nat.lt_or_ge k a with h'|h'
   ·exact iQ (kC h h' ha)
   ·have:a=k:=by omega
    subst this;exact fP _
  exact ⟨by rw [hk2];exact hk,by simp only [hk2]⟩
 ·rintro ⟨hp,e⟩;exact ⟨_,List.getElem_mem hp,e⟩
theorem zM6 {t:List Ent} (h:rise t) {i:Nat} (hi:i < t.length):(t.find? fun e=>decide (e.1=t[i].1))=some t[i]:=by
 rw [List.find?_eq_some_iff_getElem];refine ⟨by simp,i,hi,rfl,fun j hj=>?_⟩
 have:=uH (kC h hj hi)
 simpa using this
theorem qHs {t:List Ent} (h:rise t) {i:Nat} (hi:i < t.length):aF t t[i].1=t[i].2:=by rw [aF,zM6 h hi];rfl
theorem sQ {t:List Ent} {p:ByteArray} (h:eF t p=false):aF t p=kD:=by
 have:(t.find? fun e=>decide (e.1=p))=none:=by
  rw [List.find?_eq_none];intro e he
  have:=List.any_eq_false.1 h e he
  exact this
 rw [aF,this];rfl
theorem zAb {t:List Ent} (h:rise t) (p:ByteArray):aF t p=if hp:bG t p < t.length∧eF t p=true then (t[bG t p]'hp.1).2 else kD:=by
 by_cases hp:bG t p < t.length∧eF t p=true
 ·rw [dif_pos hp]
  have:=hp.2
  rw [iA h p,decide_eq_true_eq] at this;obtain ⟨h1,e⟩:=this
  have:=qHs h h1
  rw [e] at this;exact this
 ·rw [dif_neg hp];refine sQ ?_
  cases e:eF t p with
 |false=>rfl
 |true =>
   have:=e
   rw [iA h p,decide_eq_true_eq] at this;exact (hp ⟨this.1,e⟩).elim
end Go.Tr
end
section
namespace Go.Tr
open Go Go.Lib
def jX:List UInt8→List (List UInt8)
|[]=>[[]]
|c :: r=>if c=47 then [] :: jX r else match jX r with
 |h :: t=>(c :: h) :: t
 |[]=>[[c]]
theorem xK (s:List UInt8):jX s≠[]:=by
 cases s with
|nil=>simp [jX]
|cons c r =>
  rw [jX];split
  ·simp
  ·split <;> simp
theorem mM (r:List UInt8):jX (47 :: r)=[] :: jX r:=by rw [jX,if_pos rfl]
theorem lN {c:UInt8} (h:c≠47) {r a:List UInt8} {t:List (List UInt8)} (e:jX r=a :: t):jX (c :: r)=(c :: a) :: t:=by rw [jX,if_neg h,e]
theorem qCx (c:UInt8) (l:List UInt8):indexByte (c :: l) c=0:=by simp [indexByte]
theorem qJa:∀ (s:List UInt8),splitK [47] 0 (s.count 47) s=jX s
|[]=>rfl
|c :: r=>by
  have ih:=qJa r
  by_cases h:c=47
  ·subst h;rw [List.count_cons_self,splitK,mM,← ih]
   have:index (47 :: r) [47]=0:=by rw [index_one];exact qCx 47 r
   rw [this];simp
  ·rw [List.count_cons_of_ne h]
   cases hk:r.count 47 with
  |zero =>
    rw [hk,splitK] at ih;rw [splitK,lN h ih.symm]
  |succ k =>
    rw [hk,splitK] at ih
    have hne:¬ (index r [47] == -1)=true:=fun e=>by
     have:=count_miss (beq_iff_eq.1 e)
     rw [count_one] at this;omega
    rw [if_neg hne] at ih
    have hge:=index_ge r [47]
    have hne':index r [47]≠-1:=fun e=>hne (beq_iff_eq.2 e)
    have hc:index (c :: r) [47]=index r [47] + 1:=by
     rw [index_drop (i:=1) (s:=c :: r) (fun j hj=>by
      have:j=0:=by omega
      subst this;simp only [occAt,List.drop_zero,List.isPrefixOf,Bool.and_true,beq_eq_false_iff_ne,ne_eq];exact fun e=>h e.symm) (by simp)]
     simp only [List.drop_succ_cons,List.drop_zero];rw [if_neg hne];rfl
    obtain ⟨i,hi⟩:∃ i:Nat,index r [47]=i:=⟨(index r [47]).toNat,by omega⟩
    have e2:index (c :: r) [47]=((i + 1:Nat):Int):=by rw [hc,hi];rfl
    rw [splitK,if_neg (by rw [e2,beq_iff_eq];omega),e2]
    rw [hi] at ih;simp only [Int.toNat_natCast,Nat.add_zero,List.length_cons,List.length_nil,Nat.zero_add] at ih ⊢;rw [show i + 1 + 1=(i + 1) + 1 from rfl,List.drop_succ_cons,List.take_succ_cons]
    exact (lN h ih.symm).symm
def mkB (l:List UInt8):ByteArray:=⟨l.toArray⟩
def parts (p:ByteArray):List ByteArray:=(jX p.data.toList).map mkB
theorem mB (s:ByteArray):mkB s.data.toList=s:=by cases s;rfl
def stroke:ByteArray:={ data:=#[47] }
theorem mZ (p:ByteArray):splitB stroke 0 (countB p stroke) p=parts p:=by
 have h:=splitB_data stroke 0 (countB p stroke) p
 have hc:countB p stroke=p.data.toList.count 47:=count_one 47 _
 rw [hc] at h ⊢;rw [show stroke.data.toList=[47] from rfl,qJa] at h
 rw [parts,← h,List.map_map]
 conv=>lhs;rw [← List.map_id (splitB stroke 0 _ p)]
 exact List.map_congr_left fun s _=>(mB s).symm
def qAe:List (List UInt8)→List UInt8→List UInt8→List (List UInt8)
|out,one,[]=>out ++ [one]
|out,one,c :: r=>if c=47 then qAe (out ++ [one]) [] r else qAe out (one ++ [c]) r
theorem qNw:∀ (s:List UInt8) (out:List (List UInt8)) (one:List UInt8),qAe out one s=out ++ (match jX s with|h :: t=>(one ++ h) :: t|[]=>[one])
|[],out,one=>by simp [qAe,jX]
|c :: r,out,one=>by
  rw [qAe]
  by_cases h:c=47
  ·subst h;rw [if_pos rfl,qNw r,mM]
   cases e:jX r with
  |nil=>exact absurd e (xK r)
  |cons a t=>simp
  ·rw [if_neg h,qNw r]
   cases e:jX r with
  |nil=>exact absurd e (xK r)
  |cons a t=>rw [lN h e];simp
theorem zF2 (s:List UInt8):qAe [] [] s=jX s:=by
 rw [qNw]
 cases e:jX s with
|nil=>exact absurd e (xK s)
|cons a t=>simp
def okC (c:UInt8):Bool:=(decide (97≤c) && decide (c≤122)) || (decide (48≤c) && decide (c≤57)) || decide (c=95)
def eQ (s:ByteArray):Bool:=decide (1≤s.size) && decide (s.size≤12) && s.data.toList.all okC
def pOk (p:ByteArray) (zNa:Int):Bool:=decide (((parts p).length:Int)≤zNa) && (parts p).all eQ
theorem qTv {p:ByteArray} {d:Int} (h:pOk p d=true):p≠ByteArray.empty:=by
 rintro rfl;simp only [pOk,Bool.and_eq_true] at h
 have:parts ByteArray.empty=[mkB []]:=rfl
 rw [this] at h;simp [eQ,mkB,ByteArray.size] at h
def gG:List UInt8→Option Nat
|[]=>none
|c :: r=>match gG r with
 |some i=>some (i + 1)
 |none=>if c=47 then some 0 else none
theorem oH:∀ {s:List UInt8} {i:Nat},gG s=some i→i < s.length∧s[i]?=some 47
|[],i,h=>by simp [gG] at h
|c :: r,i,h=>by
  rw [gG] at h;split at h
  ·rename_i j hj;simp only [Option.some.injEq] at h;subst h;obtain ⟨a,b⟩:=oH hj;exact ⟨by simp;omega,by simpa using b⟩
  ·split at h
   ·rename_i e;simp only [Option.some.injEq] at h;subst h;exact ⟨by simp,by simp [e]⟩
   ·cases h
theorem qT5 (s:List UInt8) (c:UInt8):gG (s ++ [c])=if c=47 then some s.length else gG s:=by
 induction s with
|nil =>
  simp only [List.nil_append,gG,List.length_nil]
|cons x r ih =>
  rw [List.cons_append,gG,ih]
  by_cases h:c=47
  ·rw [if_pos h,if_pos h];rfl
  ·rw [if_neg h,if_neg h];rfl
def mC (s:List UInt8):Int:=match gG s with
|some i=>i
|none=>-1
def qA5 (p:ByteArray):Nat:=(gG p.data.toList).getD 0
def par (p:ByteArray):ByteArray:=p.extract 0 (qA5 p)
theorem zMq {p:ByteArray} (h:p≠ByteArray.empty):qA5 p < p.size:=by
 unfold qA5
 cases e:gG p.data.toList with
|none =>
  show 0 < p.size
  rcases Nat.eq_zero_or_pos p.size with h0|h0
  ·exact absurd (ByteArray.size_eq_zero_iff.1 h0) h
  ·exact h0
|some i =>
  have:=(oH e).1
  show i < p.size
  rw [Lib.size_eq];exact this
theorem zB0 {p:ByteArray} (h:p≠ByteArray.empty):blt (par p) p=true:=by
 have hl:=zMq h
 rw [blt,toList_data,toList_data]
 have e:(par p).data.toList=p.data.toList.take (qA5 p):=by
  rw [par,extract_from_zero]
 rw [e]
 have:=vR (p.data.toList.take (qA5 p)) (p.data.toList.drop (qA5 p)) (by
  intro e
  have:=congrArg List.length e
  simp only [List.length_drop,List.length_nil] at this;rw [Lib.size_eq] at hl;omega)
 rwa [List.take_append_drop] at this
def eK (p top:ByteArray):Bool:=decide (top=ByteArray.empty) || decide (p=top) || (top ++ stroke).data.toList.isPrefixOf p.data.toList
end Go.Tr
end
