/-
  Plain: paths: names between strokes; parents; what lies jB what.
-/
import GoSem.Op.String
import Derived.Lib.Bytealg
import Derived.Lib.SplitLaws
import Derived.Lib.IndexBytes
set_option linter.unusedSimpArgs false
set_option linter.unusedVariables false
section
namespace Go.Tr
open Go
def blt (a b:ByteArray):Bool:=Op.bytesLess a.toList b.toList
theorem qVg:∀ (a:List UInt8),Op.bytesLess a a=false
|[]=>rfl
|x :: r=>by simp [Op.bytesLess,qVg r]
theorem qKp:∀ {a b c:List UInt8},Op.bytesLess a b=true→Op.bytesLess b c=true→Op.bytesLess a c=true
|_,[],c,h,_=>by cases ‹List UInt8› <;> simp [Op.bytesLess] at h
|_,_ :: _,[],_,h=>by simp [Op.bytesLess] at h
|[],_ :: _,_ :: _,_,_=>by simp [Op.bytesLess]
|x :: a,y :: b,z :: c,h1,h2=>by
  simp only [Op.bytesLess,Bool.or_eq_true,decide_eq_true_eq,Bool.and_eq_true,beq_iff_eq] at h1 h2 ⊢
  rcases h1 with h1|⟨rfl,h1⟩
  ·rcases h2 with h2|⟨rfl,h2⟩
   ·exact .inl (UInt8.lt_trans h1 h2)
   ·exact .inl h1
  ·rcases h2 with h2|⟨rfl,h2⟩
   ·exact .inl h2
   ·exact .inr ⟨rfl,qKp h1 h2⟩
theorem qVe:∀ (a b:List UInt8),Op.bytesLess a b=true∨a=b∨Op.bytesLess b a=true
|[],[]=>.inr (.inl rfl)
|[],_ :: _=>.inl rfl
|_ :: _,[]=>.inr (.inr rfl)
|x :: a,y :: b=>by
  simp only [Op.bytesLess,Bool.or_eq_true,decide_eq_true_eq,Bool.and_eq_true,beq_iff_eq]
  by_cases h:x=y
  ·subst h
   rcases qVe a b with h|rfl|h
   ·exact .inl (.inr ⟨rfl,h⟩)
   ·exact .inr (.inl rfl)
   ·exact .inr (.inr (.inr ⟨rfl,h⟩))
  ·have:x < y∨y < x:=by
    rcases Nat.lt_trichotomy x.toNat y.toNat with h'|h'|h'
    ·exact .inl h'
    ·exact (h (UInt8.toNat_inj.1 h')).elim
    ·exact .inr h'
   rcases this with h'|h'
   ·exact .inl (.inl h')
   ·exact .inr (.inr (.inl h'))
theorem qF6:∀ (a b:List UInt8),b≠[]→Op.bytesLess a (a ++ b)=true
|[],b,h=>by cases b with
 |nil=>exact absurd rfl h
 |cons x r=>rfl
|x :: a,b,h=>by simp [Op.bytesLess,qF6 a b h]
theorem toList_inj {a b:ByteArray} (h:a.toList=b.toList):a=b:=by
 rw [Lib.toList_data,Lib.toList_data] at h
 cases a;cases b;simp only [ByteArray.mk.injEq];exact Array.toList_inj.1 h
theorem eD (a:ByteArray):blt a a=false:=qVg _
theorem jL {a b c:ByteArray} (h1:blt a b=true) (h2:blt b c=true):blt a c=true:=qKp h1 h2
theorem qHc (a b:ByteArray):blt a b=true∨a=b∨blt b a=true:=by
 rcases qVe a.toList b.toList with h|h|h
 ·exact .inl h
 ·exact .inr (.inl (toList_inj h))
 ·exact .inr (.inr h)
theorem gG {a b:ByteArray} (h:blt a b=true):blt b a=false:=by
 cases e:blt b a with
|false=>rfl
|true=>exact absurd (jL h e) (by rw [eD];simp)
theorem qNn {a b:ByteArray} (h:blt a b=true):a≠b:=fun e=>by subst e;rw [eD] at h;cases h
theorem zLc:∀ (a b:List UInt8),decide (Lib.compareBytes a b < 0)=Op.bytesLess a b
|[],[]=>rfl
|[],_ :: _=>rfl
|_ :: _,[]=>rfl
|x :: a,y :: b=>by
  simp only [Lib.compareBytes,Op.bytesLess]
  by_cases h:x < y
  ·simp [h]
  ·by_cases h2:y < x
   ·have:x≠y:=fun e=>by subst e;exact h h2
    simp [h,h2,this]
   ·have:x=y:=by
     apply UInt8.toNat_inj.1
     have h':¬ x.toNat < y.toNat:=h
     have h2':¬ y.toNat < x.toNat:=h2
     omega
    subst this;simp only [h,if_false];rw [zLc a b];simp
theorem zCv:∀ (a b:List UInt8),decide (Lib.compareBytes a b=0)=decide (a=b)
|[],[]=>rfl
|[],_ :: _=>by simp [Lib.compareBytes]
|_ :: _,[]=>by simp [Lib.compareBytes]
|x :: a,y :: b=>by
  simp only [Lib.compareBytes]
  by_cases h:x < y
  ·have:x≠y:=fun e=>by subst e;exact absurd h (by simp)
   simp [h,this]
  ·by_cases h2:y < x
   ·have:x≠y:=fun e=>by subst e;exact h h2
    simp [h,h2,this]
   ·have:x=y:=by
     apply UInt8.toNat_inj.1
     have h':¬ x.toNat < y.toNat:=h
     have h2':¬ y.toNat < x.toNat:=h2
     omega
    subst this;simp only [h,if_false];rw [zCv a b];simp
def zFa (a b:ByteArray):Int:=Lib.compareBytes a.data.toList b.data.toList
theorem zNp (a b:ByteArray):decide (zFa a b < 0)=blt a b:=by rw [zFa,zLc,blt,Lib.toList_data,Lib.toList_data]
theorem zNq (a b:ByteArray):decide (zFa a b=0)=decide (a=b):=by
 rw [zFa,zCv,decide_eq_decide];exact ⟨fun h=>toList_inj (by rw [Lib.toList_data,Lib.toList_data];exact h),fun h=>by rw [h]⟩
end Go.Tr
end
section
namespace Go.Tr
open Go
abbrev Ent:=ByteArray × Int × ByteArray
def qBa:Int × ByteArray:=(0,ByteArray.empty)
def bP (t:List Ent) (p:ByteArray):Int × ByteArray:=((t.find? fun e=>decide (e.1=p)).map (·.2)).getD qBa
def rise (t:List Ent):Prop:=t.Pairwise fun a b=>blt a.1 b.1=true
def cL (t:List Ent) (p:ByteArray):Nat:=t.countP fun e=>blt e.1 p
def gX (t:List Ent) (p:ByteArray):Bool:=t.any fun e=>decide (e.1=p)
theorem qCc {t:List Ent} (h:rise t) {i j:Nat} (hij:i < j) (hj:j < t.length):blt (t[i]'(by omega)).1 t[j].1=true:=List.pairwise_iff_getElem.1 h i j (by omega) hj hij
theorem qR6 {α:Type} (f:α→Bool):∀ (t:List α) (i:Nat),i≤t.length→(∀ a (h:a < t.length),a < i→f t[a]=true)→(∀ a (h:a < t.length),i≤a→f t[a]=false)→t.countP f=i
|[],i,h,_,_=>by simp at h;subst h;rfl
|x :: r,0,h,h1,h2=>by
  rw [List.countP_eq_zero];intro a ha;obtain ⟨k,hk,rfl⟩:=List.getElem_of_mem ha;rw [h2 k hk (Nat.zero_le _)];simp
|x :: r,i + 1,h,h1,h2=>by
  rw [List.countP_cons,qR6 f r i (by simpa using h) (fun a ha hi=>h1 (a + 1) (by simp;omega) (by omega)) (fun a ha hi=>h2 (a + 1) (by simp;omega) (by omega))]
  have:=h1 0 (by simp) (by omega)
  simp only [List.getElem_cons_zero] at this;simp [this]
theorem zG9 {t:List Ent} {p:ByteArray} {i:Nat} (hi:i≤t.length) (h1:∀ a (h:a < t.length),a < i→blt t[a].1 p=true) (h2:∀ a (h:a < t.length),i≤a→blt t[a].1 p=false):cL t p=i:=qR6 _ t i hi h1 h2
theorem zG8 (t:List Ent) (p:ByteArray):cL t p≤t.length:=List.countP_le_length ..
theorem qA9:∀ {t:List Ent} (h:rise t) (p:ByteArray),(∀ a (h:a < t.length),a < cL t p→blt t[a].1 p=true)∧(∀ a (h:a < t.length),cL t p≤a→blt t[a].1 p=false)
|[],_,p=>⟨fun a h=>by simp at h,fun a h=>by simp at h⟩
|x :: r,h,p=>by
  have hr:=(List.pairwise_cons.1 h)
  obtain ⟨i1,i2⟩:=qA9 hr.2 p;unfold cL at i1 i2 ⊢;rw [List.countP_cons]
  cases e:blt x.1 p with
 |true =>
   simp only [if_true];refine ⟨fun a ha hi=>?_,fun a ha hi=>?_⟩
   ·cases a with
   |zero=>simpa using e
   |succ a=>simpa using i1 a (by simpa using ha) (by omega)
   ·cases a with
   |zero=>omega
   |succ a=>simpa using i2 a (by simpa using ha) (by omega)
 |false =>
   have z:r.countP (fun e=>blt e.1 p)=0:=by
    rw [List.countP_eq_zero];intro y hy
    have:=hr.1 y hy
    intro hb;rw [jL this hb] at e;cases e
   rw [z];simp only [Bool.false_eq_true,if_false];refine ⟨fun a ha hi=>by omega,fun a ha hi=>?_⟩
   cases a with
  |zero=>simpa using e
  |succ a=>simpa using i2 a (by simpa using ha) (by rw [z];omega)
theorem lN {t:List Ent} (h:rise t) (p:ByteArray):gX t p=decide (∃ hp:cL t p < t.length,t[cL t p].1=p):=by
 obtain ⟨h1,h2⟩:=qA9 h p;unfold gX;rw [Bool.eq_iff_iff,List.any_eq_true];simp only [decide_eq_true_eq];constructor
 ·rintro ⟨e,he,rfl⟩;obtain ⟨k,hk,rfl⟩:=List.getElem_of_mem he
  have hk2:cL t t[k].1=k:=by
   refine zG9 (by omega) (fun a ha hi=>qCc h hi hk) (fun a ha hi=>?_)
   rcases Nat.lt_or_ge k a with h'|h'
   ·exact gG (qCc h h' ha)
   ·have:a=k:=by omega
    subst this;exact eD _
  exact ⟨by rw [hk2];exact hk,by simp only [hk2]⟩
 ·rintro ⟨hp,e⟩;exact ⟨_,List.getElem_mem hp,e⟩
theorem zNc {t:List Ent} (h:rise t) {i:Nat} (hi:i < t.length):(t.find? fun e=>decide (e.1=t[i].1))=some t[i]:=by
 rw [List.find?_eq_some_iff_getElem];refine ⟨by simp,i,hi,rfl,fun j hj=>?_⟩
 have:=qNn (qCc h hj hi)
 simpa using this
theorem zCe {t:List Ent} (h:rise t) {i:Nat} (hi:i < t.length):bP t t[i].1=t[i].2:=by rw [bP,zNc h hi];rfl
theorem qRu {t:List Ent} {p:ByteArray} (h:gX t p=false):bP t p=qBa:=by
 have:(t.find? fun e=>decide (e.1=p))=none:=by
  rw [List.find?_eq_none];intro e he
  have:=List.any_eq_false.1 h e he
  exact this
 rw [bP,this];rfl
theorem qZp {t:List Ent} (h:rise t) (p:ByteArray):bP t p=if hp:cL t p < t.length∧gX t p=true then (t[cL t p]'hp.1).2 else qBa:=by
 by_cases hp:cL t p < t.length∧gX t p=true
 ·rw [dif_pos hp]
  have:=hp.2
  rw [lN h p,decide_eq_true_eq] at this;obtain ⟨h1,e⟩:=this
  have:=zCe h h1
  rw [e] at this;exact this
 ·rw [dif_neg hp];refine qRu ?_
  cases e:gX t p with
 |false=>rfl
 |true =>
   have:=e
   rw [lN h p,decide_eq_true_eq] at this;exact (hp ⟨this.1,e⟩).elim
end Go.Tr
end
section
namespace Go.Tr
open Go Go.Lib
def fB:List UInt8→List (List UInt8)
|[]=>[[]]
|c :: r=>if c=47 then [] :: fB r else match fB r with
 |h :: t=>(c :: h) :: t
 |[]=>[[c]]
theorem mX (s:List UInt8):fB s≠[]:=by
 cases s with
|nil=>simp [fB]
|cons c r =>
  rw [fB];split
  ·simp
  ·split <;> simp
theorem dZ (r:List UInt8):fB (47 :: r)=[] :: fB r:=by rw [fB,if_pos rfl]
theorem fN {c:UInt8} (h:c≠47) {r a:List UInt8} {t:List (List UInt8)} (e:fB r=a :: t):fB (c :: r)=(c :: a) :: t:=by rw [fB,if_neg h,e]
theorem qC2 (c:UInt8) (l:List UInt8):indexByte (c :: l) c=0:=by simp [indexByte]
theorem qHw:∀ (s:List UInt8),splitK [47] 0 (s.count 47) s=fB s
|[]=>rfl
|c :: r=>by
  have ih:=qHw r
  by_cases h:c=47
  ·subst h;rw [List.count_cons_self,splitK,dZ,← ih]
   have:index (47 :: r) [47]=0:=by rw [index_one];exact qC2 47 r
   rw [this];simp
  ·rw [List.count_cons_of_ne h]
   cases hk:r.count 47 with
  |zero =>
    rw [hk,splitK] at ih;rw [splitK,fN h ih.symm]
  |succ k =>
    rw [hk,splitK] at ih
    have hne:¬ (index r [47] == -1)=true:=fun e=>by
     have:=count_miss (beq_iff_eq.1 e)
     rw [count_one] at this;omega
    rw [if_neg hne] at ih
    have hge:=index_ge r [47]
    have hne':index r [47]≠-1:=fun e=>hne (beq_iff_eq.2 e)
    have hc:index (c :: r) [47]=index r [47] + 1:=by
     rw [index_drop (i:=1) (s:=c :: r) (fun j hj=>by
      have:j=0:=by omega
      subst this;simp only [occAt,List.drop_zero,List.isPrefixOf,Bool.and_true,beq_eq_false_iff_ne,ne_eq];exact fun e=>h e.symm) (by simp)]
     simp only [List.drop_succ_cons,List.drop_zero];rw [if_neg hne];rfl
    obtain ⟨i,hi⟩:∃ i:Nat,index r [47]=i:=⟨(index r [47]).toNat,by omega⟩
    have e2:index (c :: r) [47]=((i + 1:Nat):Int):=by rw [hc,hi];rfl
    rw [splitK,if_neg (by rw [e2,beq_iff_eq];omega),e2]
    rw [hi] at ih;simp only [Int.toNat_natCast,Nat.add_zero,List.length_cons,List.length_nil,Nat.zero_add] at ih ⊢;rw [show i + 1 + 1=(i + 1) + 1 from rfl,List.drop_succ_cons,List.take_succ_cons]
    exact (fN h ih.symm).symm
def mkB (l:List UInt8):ByteArray:=⟨l.toArray⟩
def parts (p:ByteArray):List ByteArray:=(fB p.data.toList).map mkB
theorem iD (s:ByteArray):mkB s.data.toList=s:=by cases s;rfl
def stroke:ByteArray:={ data:=#[47] }
theorem mS (p:ByteArray):splitB stroke 0 (countB p stroke) p=parts p:=by
 have h:=splitB_data stroke 0 (countB p stroke) p
 have hc:countB p stroke=p.data.toList.count 47:=count_one 47 _
 rw [hc] at h ⊢;rw [show stroke.data.toList=[47] from rfl,qHw] at h
 rw [parts,← h,List.map_map]
 conv=>lhs;rw [← List.map_id (splitB stroke 0 _ p)]
 exact List.map_congr_left fun s _=>(iD s).symm
def qAz:List (List UInt8)→List UInt8→List UInt8→List (List UInt8)
|out,one,[]=>out ++ [one]
|out,one,c :: r=>if c=47 then qAz (out ++ [one]) [] r else qAz out (one ++ [c]) r
theorem qNg:∀ (s:List UInt8) (out:List (List UInt8)) (one:List UInt8),qAz out one s=out ++ (match fB s with|h :: t=>(one ++ h) :: t|[]=>[one])
|[],out,one=>by simp [qAz,fB]
|c :: r,out,one=>by
  rw [qAz]
  by_cases h:c=47
  ·subst h;rw [if_pos rfl,qNg r,dZ]
   cases e:fB r with
  |nil=>exact absurd e (mX r)
  |cons a t=>simp
  ·rw [if_neg h,qNg r]
   cases e:fB r with
  |nil=>exact absurd e (mX r)
  |cons a t=>rw [fN h e];simp
theorem zE0 (s:List UInt8):qAz [] [] s=fB s:=by
 rw [qNg]
 cases e:fB s with
|nil=>exact absurd e (mX s)
|cons a t=>simp
def okC (c:UInt8):Bool:=(decide (97≤c) && decide (c≤122)) || (decide (48≤c) && decide (c≤57)) || decide (c=95)
def dU (s:ByteArray):Bool:=decide (1≤s.size) && decide (s.size≤12) && s.data.toList.all okC
def pOk (p:ByteArray) (qDx:Int):Bool:=decide (((parts p).length:Int)≤qDx) && (parts p).all dU
theorem qUx (p:ByteArray):parts p≠[]:=by
 intro h;exact mX _ (List.map_eq_nil_iff.1 h)
theorem jZ {p:ByteArray} {d:Int} (h:pOk p d=true):p≠ByteArray.empty:=by
 rintro rfl;simp only [pOk,Bool.and_eq_true] at h
 have:parts ByteArray.empty=[mkB []]:=rfl
 rw [this] at h;simp [dU,mkB,ByteArray.size] at h
def cU:List UInt8→Option Nat
|[]=>none
|c :: r=>match cU r with
 |some i=>some (i + 1)
 |none=>if c=47 then some 0 else none
theorem oE:∀ {s:List UInt8} {i:Nat},cU s=some i→i < s.length∧s[i]?=some 47
|[],i,h=>by simp [cU] at h
|c :: r,i,h=>by
  rw [cU] at h;split at h
  ·rename_i j hj;simp only [Option.some.injEq] at h;subst h;obtain ⟨a,b⟩:=oE hj;exact ⟨by simp;omega,by simpa using b⟩
  ·split at h
   ·rename_i e;simp only [Option.some.injEq] at h;subst h;exact ⟨by simp,by simp [e]⟩
   ·cases h
theorem qTh (s:List UInt8) (c:UInt8):cU (s ++ [c])=if c=47 then some s.length else cU s:=by
 induction s with
|nil =>
  simp only [List.nil_append,cU,List.length_nil]
|cons x r ih =>
  rw [List.cons_append,cU,ih]
  by_cases h:c=47
  ·rw [if_pos h,if_pos h];rfl
  ·rw [if_neg h,if_neg h];rfl
def mD (s:List UInt8):Int:=match cU s with
|some i=>i
|none=>-1
def pY (p:ByteArray):Nat:=(cU p.data.toList).getD 0
def par (p:ByteArray):ByteArray:=p.extract 0 (pY p)
theorem qTa {p:ByteArray} (h:p≠ByteArray.empty):pY p < p.size:=by
 unfold pY
 cases e:cU p.data.toList with
|none =>
  show 0 < p.size
  rcases Nat.eq_zero_or_pos p.size with h0|h0
  ·exact absurd (ByteArray.size_eq_zero_iff.1 h0) h
  ·exact h0
|some i =>
  have:=(oE e).1
  show i < p.size
  rw [Lib.size_eq];exact this
theorem zAw {p:ByteArray} (h:p≠ByteArray.empty):blt (par p) p=true:=by
 have hl:=qTa h
 rw [blt,toList_data,toList_data]
 have e:(par p).data.toList=p.data.toList.take (pY p):=by
  rw [par,extract_from_zero]
 rw [e]
 have:=qF6 (p.data.toList.take (pY p)) (p.data.toList.drop (pY p)) (by
  intro e
  have:=congrArg List.length e
  simp only [List.length_drop,List.length_nil] at this;rw [Lib.size_eq] at hl;omega)
 rwa [List.take_append_drop] at this
def eE (p top:ByteArray):Bool:=decide (top=ByteArray.empty) || decide (p=top) || (top ++ stroke).data.toList.isPrefixOf p.data.toList
end Go.Tr
end
