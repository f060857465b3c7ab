/-
  Plain: paths: names between strokes; parents; what lies qCc what.
-/
import Derived.Test.YtdmnijnogabchaaDoorRows
import Derived.Test.YtdmnijnogabchaaDoorGd
import Derived.JoinedCond
import Derived.Deep.CondSized
import GoSem.Op.String
import Derived.Lib.Bytealg
import Derived.Lib.SplitLaws
import Derived.Lib.IndexBytes
set_option linter.unusedVariables false
set_option linter.unusedSimpArgs false
section
namespace Go.Proofs.YtdmnijnogabchaaDoor
open Go Go.Eng Go.RowKit Go.ChangeShapes Go.WideShapes Go.ChangeAt
theorem qXr {H:Type}:∀ (l:List (DataW H)),Rows.uptoBulkAll l=(l.map Rows.uptoBulk).sum
|[]=>by simp [Rows.uptoBulkAll]
|d :: r=>by rw [Rows.uptoBulkAll,qXr r];rfl
theorem zKe {H:Type}:∀ (d:DataW H),1≤Rows.uptoBulk d:=fun d=>by
 cases d with
|lit l=>cases l <;> simp [Rows.uptoBulk]
|_=>simp [Rows.uptoBulk]
theorem qVt {H:Type}:Bulk (H:=H) Rows.uptoBulk:=by
 refine ⟨zKe,fun b=>?_,fun es rest=>?_,fun xs=>?_⟩
 ·rw [Rows.uptoBulk];exact Nat.le_refl _
 ·rw [Rows.uptoBulk,qXr];omega
 ·rw [Rows.uptoBulk,qXr];omega
theorem zKf {H:Type} {ds gs:List (DataW H)} (hk:Rows.uptoSmall H (ds ++ gs)=true):(ds.map Rows.uptoBulk).sum≤1048576:=by
 have h:Rows.uptoBulkAll (ds ++ gs)≤1048576:=of_decide_eq_true hk
 rw [qXr,List.map_append,List.sum_append] at h;omega
theorem zJg (s:ByteArray):fw (.v (.string s))=s.size + 1:=by rw [fw]
end Go.Proofs.YtdmnijnogabchaaDoor
end
section
namespace Go.Tr
open Go
def blt (a b:ByteArray):Bool:=Op.bytesLess a.toList b.toList
theorem qSy:∀ (a:List UInt8),Op.bytesLess a a=false
|[]=>rfl
|x :: r=>by simp [Op.bytesLess,qSy r]
theorem qGm:∀ {a b c:List UInt8},Op.bytesLess a b=true→Op.bytesLess b c=true→Op.bytesLess a c=true
|_,[],c,h,_=>by cases ‹List UInt8› <;> simp [Op.bytesLess] at h
|_,_ :: _,[],_,h=>by simp [Op.bytesLess] at h
|[],_ :: _,_ :: _,_,_=>by simp [Op.bytesLess]
|x :: a,y :: b,z :: c,h1,h2=>by
  simp only [Op.bytesLess,Bool.or_eq_true,decide_eq_true_eq,Bool.and_eq_true,beq_iff_eq] at h1 h2 ⊢
  rcases h1 with h1|⟨rfl,h1⟩
  ·rcases h2 with h2|⟨rfl,h2⟩
   ·exact .inl (UInt8.lt_trans h1 h2)
   ·exact .inl h1
  ·rcases h2 with h2|⟨rfl,h2⟩
   ·exact .inl h2
   ·exact .inr ⟨rfl,qGm h1 h2⟩
theorem qSx:∀ (a b:List UInt8),Op.bytesLess a b=true∨a=b∨Op.bytesLess b a=true
|[],[]=>.inr (.inl rfl)
|[],_ :: _=>.inl rfl
|_ :: _,[]=>.inr (.inr rfl)
|x :: a,y :: b=>by
  simp only [Op.bytesLess,Bool.or_eq_true,decide_eq_true_eq,Bool.and_eq_true,beq_iff_eq]
  by_cases h:x=y
  ·subst h
   rcases qSx a b with h|rfl|h
   ·exact .inl (.inr ⟨rfl,h⟩)
   ·exact .inr (.inl rfl)
   ·exact .inr (.inr (.inr ⟨rfl,h⟩))
  ·have:x < y∨y < x:=by
    rcases Nat.lt_trichotomy x.toNat y.toNat with h'|h'|h'
    ·exact .inl h'
    ·exact (h (UInt8.toNat_inj.1 h')).elim
    ·exact .inr h'
   rcases this with h'|h'
   ·exact .inl (.inl h')
   ·exact .inr (.inr (.inl h'))
theorem toList_inj {a b:ByteArray} (h:a.toList=b.toList):a=b:=by
 rw [Lib.toList_data,Lib.toList_data] at h
 cases a;cases b;simp only [ByteArray.mk.injEq];exact Array.toList_inj.1 h
theorem jU (a:ByteArray):blt a a=false:=qSy _
theorem lS {a b c:ByteArray} (h1:blt a b=true) (h2:blt b c=true):blt a c=true:=qGm h1 h2
theorem qAm (a b:ByteArray):blt a b=true∨a=b∨blt b a=true:=by
 rcases qSx a.toList b.toList with h|h|h
 ·exact .inl h
 ·exact .inr (.inl (toList_inj h))
 ·exact .inr (.inr h)
theorem jN {a b:ByteArray} (h:blt a b=true):blt b a=false:=by
 cases e:blt b a with
|false=>rfl
|true=>exact absurd (lS h e) (by rw [jU];simp)
theorem qXh {a b:ByteArray} (h:blt a b=true):a≠b:=fun e=>by subst e;rw [jU] at h;cases h
end Go.Tr
end
section
namespace Go.Tr
open Go
abbrev Ent:=ByteArray × Int × ByteArray
def xS:Int × ByteArray:=(0,ByteArray.empty)
def eR (t:List Ent) (p:ByteArray):Int × ByteArray:=((t.find? fun e=>decide (e.1=p)).map (·.2)).getD xS
def rise (t:List Ent):Prop:=t.Pairwise fun a b=>blt a.1 b.1=true
def kA (t:List Ent) (p:ByteArray):Nat:=t.countP fun e=>blt e.1 p
def qLe (t:List Ent) (p:ByteArray):Bool:=t.any fun e=>decide (e.1=p)
theorem zCf {t:List Ent} (h:rise t) {i j:Nat} (hij:i < j) (hj:j < t.length):blt (t[i]'(by omega)).1 t[j].1=true:=List.pairwise_iff_getElem.1 h i j (by omega) hj hij
theorem qPf {t:List Ent} {p:ByteArray} (h:qLe t p=false):eR t p=xS:=by
 have:(t.find? fun e=>decide (e.1=p))=none:=by
  rw [List.find?_eq_none];intro e he
  have:=List.any_eq_false.1 h e he
  exact this
 rw [eR,this];rfl
end Go.Tr
end
section
namespace Go.Tr
open Go Go.Lib
def iE:List UInt8→List (List UInt8)
|[]=>[[]]
|c :: r=>if c=47 then [] :: iE r else match iE r with
 |h :: t=>(c :: h) :: t
 |[]=>[[c]]
theorem tF (s:List UInt8):iE s≠[]:=by
 cases s with
|nil=>simp [iE]
|cons c r =>
  rw [iE];split
  ·simp
  ·split <;> simp
theorem kK (r:List UInt8):iE (47 :: r)=[] :: iE r:=by rw [iE,if_pos rfl]
theorem jM {c:UInt8} (h:c≠47) {r a:List UInt8} {t:List (List UInt8)} (e:iE r=a :: t):iE (c :: r)=(c :: a) :: t:=by rw [iE,if_neg h,e]
theorem xW (c:UInt8) (l:List UInt8):indexByte (c :: l) c=0:=by simp [indexByte]
theorem qEr:∀ (s:List UInt8),splitK [47] 0 (s.count 47) s=iE s
|[]=>rfl
|c :: r=>by
  have ih:=qEr r
  by_cases h:c=47
  ·subst h;rw [List.count_cons_self,splitK,kK,← ih]
   have:index (47 :: r) [47]=0:=by rw [index_one];exact xW 47 r
   rw [this];simp
  ·rw [List.count_cons_of_ne h]
   cases hk:r.count 47 with
  |zero =>
    rw [hk,splitK] at ih;rw [splitK,jM h ih.symm]
  |succ k =>
    rw [hk,splitK] at ih
    have hne:¬ (index r [47] == -1)=true:=fun e=>by
     have:=count_miss (beq_iff_eq.1 e)
     rw [count_one] at this;omega
    rw [if_neg hne] at ih
    have hge:=index_ge r [47]
    have hne':index r [47]≠-1:=fun e=>hne (beq_iff_eq.2 e)
    have hc:index (c :: r) [47]=index r [47] + 1:=by
     rw [index_drop (i:=1) (s:=c :: r) (fun j hj=>by
      have:j=0:=by omega
      subst this;simp only [occAt,List.drop_zero,List.isPrefixOf,Bool.and_true,beq_eq_false_iff_ne,ne_eq];exact fun e=>h e.symm) (by simp)]
     simp only [List.drop_succ_cons,List.drop_zero];rw [if_neg hne];rfl
    obtain ⟨i,hi⟩:∃ i:Nat,index r [47]=i:=⟨(index r [47]).toNat,by omega⟩
    have e2:index (c :: r) [47]=((i + 1:Nat):Int):=by rw [hc,hi];rfl
    rw [splitK,if_neg (by rw [e2,beq_iff_eq];omega),e2]
    rw [hi] at ih;simp only [Int.toNat_natCast,Nat.add_zero,List.length_cons,List.length_nil,Nat.zero_add] at ih ⊢;rw [show i + 1 + 1=(i + 1) + 1 from rfl,List.drop_succ_cons,List.take_succ_cons]
    exact (jM h ih.symm).symm
def mkB (l:List UInt8):ByteArray:=⟨l.toArray⟩
def parts (p:ByteArray):List ByteArray:=(iE p.data.toList).map mkB
theorem gP (s:ByteArray):mkB s.data.toList=s:=by cases s;rfl
def stroke:ByteArray:={ data:=#[47] }
theorem lA (p:ByteArray):splitB stroke 0 (countB p stroke) p=parts p:=by
 have h:=splitB_data stroke 0 (countB p stroke) p
 have hc:countB p stroke=p.data.toList.count 47:=count_one 47 _
 rw [hc] at h ⊢;rw [show stroke.data.toList=[47] from rfl,qEr] at h
 rw [parts,← h,List.map_map]
 conv=>lhs;rw [← List.map_id (splitB stroke 0 _ p)]
 exact List.map_congr_left fun s _=>(gP s).symm
def uG:List (List UInt8)→List UInt8→List UInt8→List (List UInt8)
|out,one,[]=>out ++ [one]
|out,one,c :: r=>if c=47 then uG (out ++ [one]) [] r else uG out (one ++ [c]) r
theorem qKl:∀ (s:List UInt8) (out:List (List UInt8)) (one:List UInt8),uG out one s=out ++ (match iE s with|h :: t=>(one ++ h) :: t|[]=>[one])
|[],out,one=>by simp [uG,iE]
|c :: r,out,one=>by
  rw [uG]
  by_cases h:c=47
  ·subst h;rw [if_pos rfl,qKl r,kK]
   cases e:iE r with
  |nil=>exact absurd e (tF r)
  |cons a t=>simp
  ·rw [if_neg h,qKl r]
   cases e:iE r with
  |nil=>exact absurd e (tF r)
  |cons a t=>rw [jM h e];simp
theorem zBp (s:List UInt8):uG [] [] s=iE s:=by
 rw [qKl]
 cases e:iE s with
|nil=>exact absurd e (tF s)
|cons a t=>simp
def okC (c:UInt8):Bool:=(decide (97≤c) && decide (c≤122)) || (decide (48≤c) && decide (c≤57)) || decide (c=95)
def dG (s:ByteArray):Bool:=decide (1≤s.size) && decide (s.size≤12) && s.data.toList.all okC
def pOk (p:ByteArray) (qK4:Int):Bool:=decide (((parts p).length:Int)≤qK4) && (parts p).all dG
theorem qQz {p:ByteArray} {d:Int} (h:pOk p d=true):p≠ByteArray.empty:=by
 rintro rfl;simp only [pOk,Bool.and_eq_true] at h
 have:parts ByteArray.empty=[mkB []]:=rfl
 rw [this] at h;simp [dG,mkB,ByteArray.size] at h
def gD:List UInt8→Option Nat
|[]=>none
|c :: r=>match gD r with
 |some i=>some (i + 1)
 |none=>if c=47 then some 0 else none
theorem mE:∀ {s:List UInt8} {i:Nat},gD s=some i→i < s.length∧s[i]?=some 47
|[],i,h=>by simp [gD] at h
|c :: r,i,h=>by
  rw [gD] at h;split at h
  ·rename_i j hj;simp only [Option.some.injEq] at h;subst h;obtain ⟨a,b⟩:=mE hj;exact ⟨by simp;omega,by simpa using b⟩
  ·split at h
   ·rename_i e;simp only [Option.some.injEq] at h;subst h;exact ⟨by simp,by simp [e]⟩
   ·cases h
theorem qQ7 (s:List UInt8) (c:UInt8):gD (s ++ [c])=if c=47 then some s.length else gD s:=by
 induction s with
|nil =>
  simp only [List.nil_append,gD,List.length_nil]
|cons x r ih =>
  rw [List.cons_append,gD,ih]
  by_cases h:c=47
  ·rw [if_pos h,if_pos h];rfl
  ·rw [if_neg h,if_neg h];rfl
def kD (s:List UInt8):Int:=match gD s with
|some i=>i
|none=>-1
def qD3 (p:ByteArray):Nat:=(gD p.data.toList).getD 0
def par (p:ByteArray):ByteArray:=p.extract 0 (qD3 p)
theorem zGg {p:ByteArray} (h:p≠ByteArray.empty):qD3 p < p.size:=by
 unfold qD3
 cases e:gD p.data.toList with
|none =>
  show 0 < p.size
  rcases Nat.eq_zero_or_pos p.size with h0|h0
  ·exact absurd (ByteArray.size_eq_zero_iff.1 h0) h
  ·exact h0
|some i =>
  have:=(mE e).1
  show i < p.size
  rw [Lib.size_eq];exact this
def qD1 (p top:ByteArray):Bool:=decide (top=ByteArray.empty) || decide (p=top) || (top ++ stroke).data.toList.isPrefixOf p.data.toList
end Go.Tr
end
