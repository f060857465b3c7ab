/-
  Plain: paths: names between strokes; parents; what lies fF what.
-/
import Derived.Test.YtlihpgmgiehjkaaGreatDoorTrB
import Derived.Lib.SplitLaws
import Derived.Lib.IndexBytes
set_option linter.unusedSimpArgs false
set_option linter.unusedVariables false
namespace Go.Tr
open Go Go.Lib
def kW:List UInt8→List (List UInt8)
|[]=>[[]]
|c :: r=>if c=47 then [] :: kW r else match kW r with
 |h :: t=>(c :: h) :: t
 |[]=>[[c]]
theorem qAz (s:List UInt8):kW s≠[]:=by
 cases s with
|nil=>simp [kW]
|cons c r =>
  rw [kW];split
  ·simp
  ·split <;> simp
theorem jF (r:List UInt8):kW (47 :: r)=[] :: kW r:=by rw [kW,if_pos rfl]
theorem kV {c:UInt8} (h:c≠47) {r a:List UInt8} {t:List (List UInt8)} (e:kW r=a :: t):kW (c :: r)=(c :: a) :: t:=by rw [kW,if_neg h,e]
theorem qDq (c:UInt8) (l:List UInt8):indexByte (c :: l) c=0:=by simp [indexByte]
theorem qJq:∀ (s:List UInt8),splitK [47] 0 (s.count 47) s=kW s
|[]=>rfl
|c :: r=>by
  have ih:=qJq r
  by_cases h:c=47
  ·subst h;rw [List.count_cons_self,splitK,jF,← ih]
   have:index (47 :: r) [47]=0:=by rw [index_one];exact qDq 47 r
   rw [this];simp
  ·rw [List.count_cons_of_ne h]
   cases hk:r.count 47 with
  |zero =>
    rw [hk,splitK] at ih;rw [splitK,kV h ih.symm]
  |succ k =>
    rw [hk,splitK] at ih
    have hne:¬ (index r [47] == -1)=true:=fun e=>by
     have:=count_miss (beq_iff_eq.1 e)
     rw [count_one] at this;omega
    rw [if_neg hne] at ih
    have hge:=index_ge r [47]
    have hne':index r [47]≠-1:=fun e=>hne (beq_iff_eq.2 e)
    have hc:index (c :: r) [47]=index r [47] + 1:=by
     rw [index_drop (i:=1) (s:=c :: r) (fun j hj=>by
      have:j=0:=by omega
      subst this;simp only [occAt,List.drop_zero,List.isPrefixOf,Bool.and_true,beq_eq_false_iff_ne,ne_eq];exact fun e=>h e.symm) (by simp)]
     simp only [List.drop_succ_cons,List.drop_zero];rw [if_neg hne];rfl
    obtain ⟨i,hi⟩:∃ i:Nat,index r [47]=i:=⟨(index r [47]).toNat,by omega⟩
    have e2:index (c :: r) [47]=((i + 1:Nat):Int):=by rw [hc,hi];rfl
    rw [splitK,if_neg (by rw [e2,beq_iff_eq];omega),e2]
    rw [hi] at ih;simp only [Int.toNat_natCast,Nat.add_zero,List.length_cons,List.length_nil,Nat.zero_add] at ih ⊢;rw [show i + 1 + 1=(i + 1) + 1 from rfl,List.drop_succ_cons,List.take_succ_cons]
    exact (kV h ih.symm).symm
def mkB (l:List UInt8):ByteArray:=⟨l.toArray⟩
def parts (p:ByteArray):List ByteArray:=(kW p.data.toList).map mkB
theorem iZ (s:ByteArray):mkB s.data.toList=s:=by cases s;rfl
def stroke:ByteArray:={ data:=#[47] }
theorem oE (p:ByteArray):splitB stroke 0 (countB p stroke) p=parts p:=by
 have h:=splitB_data stroke 0 (countB p stroke) p
 have hc:countB p stroke=p.data.toList.count 47:=count_one 47 _
 rw [hc] at h ⊢;rw [show stroke.data.toList=[47] from rfl,qJq] at h
 rw [parts,← h,List.map_map]
 conv=>lhs;rw [← List.map_id (splitB stroke 0 _ p)]
 exact List.map_congr_left fun s _=>(iZ s).symm
def qBl:List (List UInt8)→List UInt8→List UInt8→List (List UInt8)
|out,one,[]=>out ++ [one]
|out,one,c :: r=>if c=47 then qBl (out ++ [one]) [] r else qBl out (one ++ [c]) r
theorem qN0:∀ (s:List UInt8) (out:List (List UInt8)) (one:List UInt8),qBl out one s=out ++ (match kW s with|h :: t=>(one ++ h) :: t|[]=>[one])
|[],out,one=>by simp [qBl,kW]
|c :: r,out,one=>by
  rw [qBl]
  by_cases h:c=47
  ·subst h;rw [if_pos rfl,qN0 r,jF]
   cases e:kW r with
  |nil=>exact absurd e (qAz r)
  |cons a t=>simp
  ·rw [if_neg h,qN0 r]
   cases e:kW r with
  |nil=>exact absurd e (qAz r)
  |cons a t=>rw [kV h e];simp
theorem zFn (s:List UInt8):qBl [] [] s=kW s:=by
 rw [qN0]
 cases e:kW s with
|nil=>exact absurd e (qAz s)
|cons a t=>simp
def okC (c:UInt8):Bool:=(decide (97≤c) && decide (c≤122)) || (decide (48≤c) && decide (c≤57)) || decide (c=95)
def fJ (s:ByteArray):Bool:=decide (1≤s.size) && decide (s.size≤12) && s.data.toList.all okC
def pOk (p:ByteArray) (qFo:Int):Bool:=decide (((parts p).length:Int)≤qFo) && (parts p).all fJ
theorem nZ {p:ByteArray} {d:Int} (h:pOk p d=true):p≠ByteArray.empty:=by
 rintro rfl;simp only [pOk,Bool.and_eq_true] at h
 have:parts ByteArray.empty=[mkB []]:=rfl
 rw [this] at h;simp [fJ,mkB,ByteArray.size] at h
def eB:List UInt8→Option Nat
|[]=>none
|c :: r=>match eB r with
 |some i=>some (i + 1)
 |none=>if c=47 then some 0 else none
theorem pQ:∀ {s:List UInt8} {i:Nat},eB s=some i→i < s.length∧s[i]?=some 47
|[],i,h=>by simp [eB] at h
|c :: r,i,h=>by
  rw [eB] at h;split at h
  ·rename_i j hj;simp only [Option.some.injEq] at h;subst h;obtain ⟨a,b⟩:=pQ hj;exact ⟨by simp;omega,by simpa using b⟩
  ·split at h
   ·rename_i e;simp only [Option.some.injEq] at h;subst h;exact ⟨by simp,by simp [e]⟩
   ·cases h
theorem qT9 (s:List UInt8) (c:UInt8):eB (s ++ [c])=if c=47 then some s.length else eB s:=by
 induction s with
|nil =>
  simp only [List.nil_append,eB,List.length_nil]
|cons x r ih =>
  rw [List.cons_append,eB,ih]
  by_cases h:c=47
  ·rw [if_pos h,if_pos h];rfl
  ·rw [if_neg h,if_neg h];rfl
def nP (s:List UInt8):Int:=match eB s with
|some i=>i
|none=>-1
def qA6 (p:ByteArray):Nat:=(eB p.data.toList).getD 0
def par (p:ByteArray):ByteArray:=p.extract 0 (qA6 p)
theorem zBm {p:ByteArray} (h:p≠ByteArray.empty):qA6 p < p.size:=by
 unfold qA6
 cases e:eB p.data.toList with
|none =>
  show 0 < p.size
  rcases Nat.eq_zero_or_pos p.size with h0|h0
  ·exact absurd (ByteArray.size_eq_zero_iff.1 h0) h
  ·exact h0
|some i =>
  have:=(pQ e).1
  show i < p.size
  rw [Lib.size_eq];exact this
def iL (p top:ByteArray):Bool:=decide (top=ByteArray.empty) || decide (p=top) || (top ++ stroke).data.toList.isPrefixOf p.data.toList
end Go.Tr
