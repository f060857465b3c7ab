/-
  Plain: paths: names between strokes; parents; what lies under what.
-/
import GoSem.Op.String
import Derived.Lib.Bytealg
import Derived.Lib.SplitLaws
import Derived.Lib.IndexBytes
set_option linter.unusedSimpArgs false
set_option linter.unusedVariables false
section
namespace Go.Tr
open Go
def blt (a b:ByteArray):Bool:=Op.bytesLess a.toList b.toList
theorem qX4:∀ (a:List UInt8),Op.bytesLess a a=false
|[]=>rfl
|x :: r=>by simp [Op.bytesLess,qX4 r]
theorem qM2:∀ {a b c:List UInt8},Op.bytesLess a b=true→Op.bytesLess b c=true→Op.bytesLess a c=true
|_,[],c,h,_=>by cases ‹List UInt8› <;> simp [Op.bytesLess] at h
|_,_ :: _,[],_,h=>by simp [Op.bytesLess] at h
|[],_ :: _,_ :: _,_,_=>by simp [Op.bytesLess]
|x :: a,y :: b,z :: c,h1,h2=>by
  simp only [Op.bytesLess,Bool.or_eq_true,decide_eq_true_eq,Bool.and_eq_true,beq_iff_eq] at h1 h2 ⊢
  rcases h1 with h1|⟨rfl,h1⟩
  ·rcases h2 with h2|⟨rfl,h2⟩
   ·exact .inl (UInt8.lt_trans h1 h2)
   ·exact .inl h1
  ·rcases h2 with h2|⟨rfl,h2⟩
   ·exact .inl h2
   ·exact .inr ⟨rfl,qM2 h1 h2⟩
theorem qX3:∀ (a b:List UInt8),Op.bytesLess a b=true∨a=b∨Op.bytesLess b a=true
|[],[]=>.inr (.inl rfl)
|[],_ :: _=>.inl rfl
|_ :: _,[]=>.inr (.inr rfl)
|x :: a,y :: b=>by
  simp only [Op.bytesLess,Bool.or_eq_true,decide_eq_true_eq,Bool.and_eq_true,beq_iff_eq]
  by_cases h:x=y
  ·subst h
   rcases qX3 a b with h|rfl|h
   ·exact .inl (.inr ⟨rfl,h⟩)
   ·exact .inr (.inl rfl)
   ·exact .inr (.inr (.inr ⟨rfl,h⟩))
  ·have:x < y∨y < x:=by
    rcases Nat.lt_trichotomy x.toNat y.toNat with h'|h'|h'
    ·exact .inl h'
    ·exact (h (UInt8.toNat_inj.1 h')).elim
    ·exact .inr h'
   rcases this with h'|h'
   ·exact .inl (.inl h')
   ·exact .inr (.inr (.inl h'))
theorem qBi:∀ (a b:List UInt8),b≠[]→Op.bytesLess a (a ++ b)=true
|[],b,h=>by cases b with
 |nil=>exact absurd rfl h
 |cons x r=>rfl
|x :: a,b,h=>by simp [Op.bytesLess,qBi a b h]
theorem toList_inj {a b:ByteArray} (h:a.toList=b.toList):a=b:=by
 rw [Lib.toList_data,Lib.toList_data] at h
 cases a;cases b;simp only [ByteArray.mk.injEq];exact Array.toList_inj.1 h
theorem fD (a:ByteArray):blt a a=false:=qX4 _
theorem kK {a b c:ByteArray} (h1:blt a b=true) (h2:blt b c=true):blt a c=true:=qM2 h1 h2
theorem uS (a b:ByteArray):blt a b=true∨a=b∨blt b a=true:=by
 rcases qX3 a.toList b.toList with h|h|h
 ·exact .inl h
 ·exact .inr (.inl (toList_inj h))
 ·exact .inr (.inr h)
theorem kL {a b:ByteArray} (h:blt a b=true):blt b a=false:=by
 cases e:blt b a with
|false=>rfl
|true=>exact absurd (kK h e) (by rw [fD];simp)
theorem yZ {a b:ByteArray} (h:blt a b=true):a≠b:=fun e=>by subst e;rw [fD] at h;cases h
theorem zNf:∀ (a b:List UInt8),decide (Lib.compareBytes a b < 0)=Op.bytesLess a b
|[],[]=>rfl
|[],_ :: _=>rfl
|_ :: _,[]=>rfl
|x :: a,y :: b=>by
  simp only [Lib.compareBytes,Op.bytesLess]
  by_cases h:x < y
  ·simp [h]
  ·by_cases h2:y < x
   ·have:x≠y:=fun e=>by subst e;exact h h2
    simp [h,h2,this]
   ·have:x=y:=by
     apply UInt8.toNat_inj.1
     have h':¬ x.toNat < y.toNat:=h
     have h2':¬ y.toNat < x.toNat:=h2
     omega
    subst this;simp only [h,if_false];rw [zNf a b];simp
theorem zGh:∀ (a b:List UInt8),decide (Lib.compareBytes a b=0)=decide (a=b)
|[],[]=>rfl
|[],_ :: _=>by simp [Lib.compareBytes]
|_ :: _,[]=>by simp [Lib.compareBytes]
|x :: a,y :: b=>by
  simp only [Lib.compareBytes]
  by_cases h:x < y
  ·have:x≠y:=fun e=>by subst e;exact absurd h (by simp)
   simp [h,this]
  ·by_cases h2:y < x
   ·have:x≠y:=fun e=>by subst e;exact h h2
    simp [h,h2,this]
   ·have:x=y:=by
     apply UInt8.toNat_inj.1
     have h':¬ x.toNat < y.toNat:=h
     have h2':¬ y.toNat < x.toNat:=h2
     omega
    subst this;simp only [h,if_false];rw [zGh a b];simp
def qKl (a b:ByteArray):Int:=Lib.compareBytes a.data.toList b.data.toList
theorem qGq (a b:ByteArray):decide (qKl a b < 0)=blt a b:=by rw [qKl,zNf,blt,Lib.toList_data,Lib.toList_data]
theorem zQm (a b:ByteArray):decide (qKl a b=0)=decide (a=b):=by
 rw [qKl,zGh,decide_eq_decide];exact ⟨fun h=>toList_inj (by rw [Lib.toList_data,Lib.toList_data];exact h),fun h=>by rw [h]⟩
end Go.Tr
end
section
namespace Go.Tr
open Go
abbrev Ent:=ByteArray × Int × ByteArray
def mF:Int × ByteArray:=(0,ByteArray.empty)
def aN (t:List Ent) (p:ByteArray):Int × ByteArray:=((t.find? fun e=>decide (e.1=p)).map (·.2)).getD mF
def rise (t:List Ent):Prop:=t.Pairwise fun a b=>blt a.1 b.1=true
def aQ (t:List Ent) (p:ByteArray):Nat:=t.countP fun e=>blt e.1 p
def aU (t:List Ent) (p:ByteArray):Bool:=t.any fun e=>decide (e.1=p)
theorem mX {t:List Ent} (h:rise t) {i j:Nat} (hij:i < j) (hj:j < t.length):blt (t[i]'(by omega)).1 t[j].1=true:=List.pairwise_iff_getElem.1 h i j (by omega) hj hij
theorem qU7 {α:Type} (f:α→Bool):∀ (t:List α) (i:Nat),i≤t.length→(∀ a (h:a < t.length),a < i→f t[a]=true)→(∀ a (h:a < t.length),i≤a→f t[a]=false)→t.countP f=i
|[],i,h,_,_=>by simp at h;subst h;rfl
|x :: r,0,h,h1,h2=>by
  rw [List.countP_eq_zero];intro a ha;obtain ⟨k,hk,rfl⟩:=List.getElem_of_mem ha;rw [h2 k hk (Nat.zero_le _)];simp
|x :: r,i + 1,h,h1,h2=>by
  rw [List.countP_cons,qU7 f r i (by simpa using h) (fun a ha hi=>h1 (a + 1) (by simp;omega) (by omega)) (fun a ha hi=>h2 (a + 1) (by simp;omega) (by omega))]
  have:=h1 0 (by simp) (by omega)
  simp only [List.getElem_cons_zero] at this;simp [this]
theorem zK4 {t:List Ent} {p:ByteArray} {i:Nat} (hi:i≤t.length) (h1:∀ a (h:a < t.length),a < i→blt t[a].1 p=true) (h2:∀ a (h:a < t.length),i≤a→blt t[a].1 p=false):aQ t p=i:=qU7 _ t i hi h1 h2
theorem qFg (t:List Ent) (p:ByteArray):aQ t p≤t.length:=List.countP_le_length ..
theorem rR:∀ {t:List Ent} (h:rise t) (p:ByteArray),(∀ a (h:a < t.length),a < aQ t p→blt t[a].1 p=true)∧(∀ a (h:a < t.length),aQ t p≤a→blt t[a].1 p=false)
|[],_,p=>⟨fun a h=>by simp at h,fun a h=>by simp at h⟩
|x :: r,h,p=>by
  have hr:=(List.pairwise_cons.1 h)
  obtain ⟨i1,i2⟩:=rR hr.2 p;unfold aQ at i1 i2 ⊢;rw [List.countP_cons]
  cases e:blt x.1 p with
 |true =>
   simp only [if_true];refine ⟨fun a ha hi=>?_,fun a ha hi=>?_⟩
   ·cases a with
   |zero=>simpa using e
   |succ a=>simpa using i1 a (by simpa using ha) (by omega)
   ·cases a with
   |zero=>omega
   |succ a=>simpa using i2 a (by simpa using ha) (by omega)
 |false =>
   have z:r.countP (fun e=>blt e.1 p)=0:=by
    rw [List.countP_eq_zero];intro y hy
    have:=hr.1 y hy
    intro hb;rw [kK this hb] at e;cases e
   rw [z];simp only [Bool.false_eq_true,if_false];refine ⟨fun a ha hi=>by omega,fun a ha hi=>?_⟩
   cases a with
  |zero=>simpa using e
  |succ a=>simpa using i2 a (by simpa using ha) (by rw [z];omega)
theorem zKb {t:List Ent} (h:rise t) {i j:Nat} (hi:i < t.length) (hj:j < t.length) (e:t[i].1=t[j].1):i=j:=by
 rcases Nat.lt_trichotomy i j with h'|h'|h'
 ·have:=mX h h' hj
  rw [e,fD] at this;cases this
 ·exact h'
 ·have:=mX h h' hi
  rw [e,fD] at this;cases this
theorem gN {t:List Ent} (h:rise t) (p:ByteArray):aU t p=decide (∃ hp:aQ t p < t.length,t[aQ t p].1=p):=by
 obtain ⟨h1,h2⟩:=rR h p;unfold aU;rw [Bool.eq_iff_iff,List.any_eq_true];simp only [decide_eq_true_eq];constructor
 ·rintro ⟨e,he,rfl⟩;obtain ⟨k,hk,rfl⟩:=List.getElem_of_mem he
  have hk2:aQ t t[k].1=k:=by
   refine zK4 (by omega) (fun a ha hi=>mX h hi hk) (fun a ha hi=>?_)
   rcases Nat.lt_or_ge k a with h'|h'
   ·exact kL (mX h h' ha)
   ·have:a=k:=by omega
    subst this;exact fD _
  exact ⟨by rw [hk2];exact hk,by simp only [hk2]⟩
 ·rintro ⟨hp,e⟩;exact ⟨_,List.getElem_mem hp,e⟩
theorem zQc {t:List Ent} (h:rise t) {i:Nat} (hi:i < t.length):(t.find? fun e=>decide (e.1=t[i].1))=some t[i]:=by
 rw [List.find?_eq_some_iff_getElem];refine ⟨by simp,i,hi,rfl,fun j hj=>?_⟩
 have:=yZ (mX h hj hi)
 simpa using this
theorem qKx {t:List Ent} (h:rise t) {i:Nat} (hi:i < t.length):aN t t[i].1=t[i].2:=by rw [aN,zQc h hi];rfl
theorem qCs {t:List Ent} {p:ByteArray} (h:aU t p=false):aN t p=mF:=by
 have:(t.find? fun e=>decide (e.1=p))=none:=by
  rw [List.find?_eq_none];intro e he
  have:=List.any_eq_false.1 h e he
  exact this
 rw [aN,this];rfl
theorem zCh {t:List Ent} (h:rise t) (p:ByteArray):aN t p=if hp:aQ t p < t.length∧aU t p=true then (t[aQ t p]'hp.1).2 else mF:=by
 by_cases hp:aQ t p < t.length∧aU t p=true
 ·rw [dif_pos hp]
  have:=hp.2
  rw [gN h p,decide_eq_true_eq] at this;obtain ⟨h1,e⟩:=this
  have:=qKx h h1
  rw [e] at this;exact this
 ·rw [dif_neg hp];refine qCs ?_
  cases e:aU t p with
 |false=>rfl
 |true =>
   have:=e
   rw [gN h p,decide_eq_true_eq] at this;exact (hp ⟨this.1,e⟩).elim
end Go.Tr
end
section
namespace Go.Tr
open Go Go.Lib
def pQ:List UInt8→List (List UInt8)
|[]=>[[]]
|c :: r=>if c=47 then [] :: pQ r else match pQ r with
 |h :: t=>(c :: h) :: t
 |[]=>[[c]]
theorem qGm (s:List UInt8):pQ s≠[]:=by
 cases s with
|nil=>simp [pQ]
|cons c r =>
  rw [pQ];split
  ·simp
  ·split <;> simp
theorem uR (r:List UInt8):pQ (47 :: r)=[] :: pQ r:=by rw [pQ,if_pos rfl]
theorem tG {c:UInt8} (h:c≠47) {r a:List UInt8} {t:List (List UInt8)} (e:pQ r=a :: t):pQ (c :: r)=(c :: a) :: t:=by rw [pQ,if_neg h,e]
theorem qFp (c:UInt8) (l:List UInt8):indexByte (c :: l) c=0:=by simp [indexByte]
theorem qLc:∀ (s:List UInt8),splitK [47] 0 (s.count 47) s=pQ s
|[]=>rfl
|c :: r=>by
  have ih:=qLc r
  by_cases h:c=47
  ·subst h;rw [List.count_cons_self,splitK,uR,← ih]
   have:index (47 :: r) [47]=0:=by rw [index_one];exact qFp 47 r
   rw [this];simp
  ·rw [List.count_cons_of_ne h]
   cases hk:r.count 47 with
  |zero =>
    rw [hk,splitK] at ih;rw [splitK,tG h ih.symm]
  |succ k =>
    rw [hk,splitK] at ih
    have hne:¬ (index r [47] == -1)=true:=fun e=>by
     have:=count_miss (beq_iff_eq.1 e)
     rw [count_one] at this;omega
    rw [if_neg hne] at ih
    have hge:=index_ge r [47]
    have hne':index r [47]≠-1:=fun e=>hne (beq_iff_eq.2 e)
    have hc:index (c :: r) [47]=index r [47] + 1:=by
     rw [index_drop (i:=1) (s:=c :: r) (fun j hj=>by
      have:j=0:=by omega
      subst this;simp only [occAt,List.drop_zero,List.isPrefixOf,Bool.and_true,beq_eq_false_iff_ne,ne_eq];exact fun e=>h e.symm) (by simp)]
     simp only [List.drop_succ_cons,List.drop_zero];rw [if_neg hne];rfl
    obtain ⟨i,hi⟩:∃ i:Nat,index r [47]=i:=⟨(index r [47]).toNat,by omega⟩
    have e2:index (c :: r) [47]=((i + 1:Nat):Int):=by rw [hc,hi];rfl
    rw [splitK,if_neg (by rw [e2,beq_iff_eq];omega),e2]
    rw [hi] at ih;simp only [Int.toNat_natCast,Nat.add_zero,List.length_cons,List.length_nil,Nat.zero_add] at ih ⊢;rw [show i + 1 + 1=(i + 1) + 1 from rfl,List.drop_succ_cons,List.take_succ_cons]
    exact (tG h ih.symm).symm
def mkB (l:List UInt8):ByteArray:=⟨l.toArray⟩
def parts (p:ByteArray):List ByteArray:=(pQ p.data.toList).map mkB
theorem pC (s:ByteArray):mkB s.data.toList=s:=by cases s;rfl
def stroke:ByteArray:={ data:=#[47] }
theorem pY (p:ByteArray):splitB stroke 0 (countB p stroke) p=parts p:=by
 have h:=splitB_data stroke 0 (countB p stroke) p
 have hc:countB p stroke=p.data.toList.count 47:=count_one 47 _
 rw [hc] at h ⊢;rw [show stroke.data.toList=[47] from rfl,qLc] at h
 rw [parts,← h,List.map_map]
 conv=>lhs;rw [← List.map_id (splitB stroke 0 _ p)]
 exact List.map_congr_left fun s _=>(pC s).symm
def qDn:List (List UInt8)→List UInt8→List UInt8→List (List UInt8)
|out,one,[]=>out ++ [one]
|out,one,c :: r=>if c=47 then qDn (out ++ [one]) [] r else qDn out (one ++ [c]) r
theorem qQs:∀ (s:List UInt8) (out:List (List UInt8)) (one:List UInt8),qDn out one s=out ++ (match pQ s with|h :: t=>(one ++ h) :: t|[]=>[one])
|[],out,one=>by simp [qDn,pQ]
|c :: r,out,one=>by
  rw [qDn]
  by_cases h:c=47
  ·subst h;rw [if_pos rfl,qQs r,uR]
   cases e:pQ r with
  |nil=>exact absurd e (qGm r)
  |cons a t=>simp
  ·rw [if_neg h,qQs r]
   cases e:pQ r with
  |nil=>exact absurd e (qGm r)
  |cons a t=>rw [tG h e];simp
theorem zJd (s:List UInt8):qDn [] [] s=pQ s:=by
 rw [qQs]
 cases e:pQ s with
|nil=>exact absurd e (qGm s)
|cons a t=>simp
def okC (c:UInt8):Bool:=(decide (97≤c) && decide (c≤122)) || (decide (48≤c) && decide (c≤57)) || decide (c=95)
def gC (s:ByteArray):Bool:=decide (1≤s.size) && decide (s.size≤12) && s.data.toList.all okC
def pOk (p:ByteArray) (zQg:Int):Bool:=decide (((parts p).length:Int)≤zQg) && (parts p).all gC
theorem qHb {p:ByteArray} {d:Int} (h:pOk p d=true):p≠ByteArray.empty:=by
 rintro rfl;simp only [pOk,Bool.and_eq_true] at h
 have:parts ByteArray.empty=[mkB []]:=rfl
 rw [this] at h;simp [gC,mkB,ByteArray.size] at h
def iR:List UInt8→Option Nat
|[]=>none
|c :: r=>match iR r with
 |some i=>some (i + 1)
 |none=>if c=47 then some 0 else none
theorem rV:∀ {s:List UInt8} {i:Nat},iR s=some i→i < s.length∧s[i]?=some 47
|[],i,h=>by simp [iR] at h
|c :: r,i,h=>by
  rw [iR] at h;split at h
  ·rename_i j hj;simp only [Option.some.injEq] at h;subst h;obtain ⟨a,b⟩:=rV hj;exact ⟨by simp;omega,by simpa using b⟩
  ·split at h
   ·rename_i e;simp only [Option.some.injEq] at h;subst h;exact ⟨by simp,by simp [e]⟩
   ·cases h
theorem qV4 (s:List UInt8) (c:UInt8):iR (s ++ [c])=if c=47 then some s.length else iR s:=by
 induction s with
|nil =>
  simp only [List.nil_append,iR,List.length_nil]
|cons x r ih =>
  rw [List.cons_append,iR,ih]
  by_cases h:c=47
  ·rw [if_pos h,if_pos h];rfl
  ·rw [if_neg h,if_neg h];rfl
def pD (s:List UInt8):Int:=match iR s with
|some i=>i
|none=>-1
def qD2 (p:ByteArray):Nat:=(iR p.data.toList).getD 0
def par (p:ByteArray):ByteArray:=p.extract 0 (qD2 p)
theorem zPs {p:ByteArray} (h:p≠ByteArray.empty):qD2 p < p.size:=by
 unfold qD2
 cases e:iR p.data.toList with
|none =>
  show 0 < p.size
  rcases Nat.eq_zero_or_pos p.size with h0|h0
  ·exact absurd (ByteArray.size_eq_zero_iff.1 h0) h
  ·exact h0
|some i =>
  have:=(rV e).1
  show i < p.size
  rw [Lib.size_eq];exact this
theorem zEb {p:ByteArray} (h:p≠ByteArray.empty):blt (par p) p=true:=by
 have hl:=zPs h
 rw [blt,toList_data,toList_data]
 have e:(par p).data.toList=p.data.toList.take (qD2 p):=by
  rw [par,extract_from_zero]
 rw [e]
 have:=qBi (p.data.toList.take (qD2 p)) (p.data.toList.drop (qD2 p)) (by
  intro e
  have:=congrArg List.length e
  simp only [List.length_drop,List.length_nil] at this;rw [Lib.size_eq] at hl;omega)
 rwa [List.take_append_drop] at this
def dY (p top:ByteArray):Bool:=decide (top=ByteArray.empty) || decide (p=top) || (top ++ stroke).data.toList.isPrefixOf p.data.toList
end Go.Tr
end
