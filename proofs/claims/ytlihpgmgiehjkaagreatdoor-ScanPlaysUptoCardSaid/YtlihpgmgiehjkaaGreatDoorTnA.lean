/-
  A bit gP: the program's and the reference's Turn.
-/
import Derived.Test.YtlihpgmgiehjkaaGreatDoorTrB
import Derived.Test.YtlihpgmgiehjkaaGreatDoorTyS
import Derived.Lib.ConvBytes
import Derived.Shelf.RegionOpenPlain
set_option linter.unusedSimpArgs false
set_option linter.unusedVariables false
set_option maxRecDepth 20000
namespace Go.Proofs.YtlihpgmgiehjkaaGreatDoor
open Go Go.Eng Go.RowKit
theorem qH6:xG Tryz.prog 127 9=true:=by kernel_rfl
def sb (s:ByteArray):List Nat:=s.data.toList.map UInt8.toNat
theorem qKa (s:ByteArray):(sb s).length=s.size:=by simp [sb]
theorem zA2 {l:List Int} (h:∀ n ∈ l,0≤n∧n < 256):sb (strOfNums l)=l.map Int.toNat:=by
 unfold sb strOfNums;simp only [List.map_map]
 apply List.map_congr_left
 intro n hn;obtain ⟨h1,h2⟩:=h n hn;simp;omega
theorem zMx (s:ByteArray):∀ c ∈ sb s,c < 256:=fun c hc=>by
 obtain ⟨b,-,rfl⟩:=List.mem_map.1 hc;exact b.toNat_lt
theorem zP4 {s t:ByteArray} (h:sb s=sb t):s=t:=by
 apply ByteArray.ext
 apply Array.toList_inj.1
 have:∀ (a b:List UInt8),a.map UInt8.toNat=b.map UInt8.toNat→a=b:=by
  intro a
  induction a with
 |nil=>intro b h;cases b with
  |nil=>rfl
  |cons y b=>simp at h
 |cons x a ih=>intro b h;cases b with
  |nil=>simp at h
  |cons y b =>
    simp only [List.map_cons,List.cons.injEq] at h;rw [UInt8.toNat_inj.1 h.1,ih b h.2]
 exact this _ _ h
theorem zGv (a b:ByteArray):sb (a ++ b)=sb a ++ sb b:=by simp [sb]
theorem qZg (s:ByteArray) (n:Nat):sb (s.extract 0 n)=(sb s).take n:=by
 unfold sb;rw [← List.map_take]
 congr 1
 simp [ByteArray.data_extract,Array.toList_extract,List.extract_eq_take_drop]
theorem zFw (s:ByteArray) {j:Nat} (h:j < s.size):∃ c:Nat,qB s j=(c:Int)∧c < 256∧(sb s).drop j=c :: (sb s).drop (j + 1):=by
 have hj:j < (sb s).length:=by rw [qKa];exact h
 have hj':j < s.data.toList.length:=by simpa using h
 refine ⟨(sb s)[j],?_,?_,List.drop_eq_getElem_cons hj⟩
 ·have:(sb s)[j]=(s.data.toList[j]).toNat:=by simp [sb]
  rw [this];unfold qB
  congr 1
  rw [Array.getD_eq_getD_getElem?,← Array.getElem?_toList,List.getElem?_eq_getElem hj'];rfl
 ·have:(sb s)[j]=(s.data.toList[j]).toNat:=by simp [sb]
  rw [this];exact UInt8.toNat_lt _
def qJf (s:ByteArray) (bit:Int):Nat:=((bit.tmod (8 * (s.size:Int)) + 8 * (s.size:Int)).tmod (8 * (s.size:Int))).toNat
def qN (s:ByteArray) (k:Nat):List Nat:=(sb s).set (k / 8) ((sb s).getD (k / 8) 0 ^^^ 2 ^ (k % 8))
def dM (s:ByteArray) (bit:Int):ByteArray:=if s.size=0 then ⟨#[]⟩ else strOfNums ((qN s (qJf s bit)).map Int.ofNat)
theorem qTn (s:ByteArray) (i:Nat):(sb s).getD i 0=(s.data.toList.getD i 0).toNat:=by
 simp only [sb,List.getD_eq_getElem?_getD,List.getElem?_map]
 cases s.data.toList[i]? <;> rfl
theorem zGu (s:ByteArray) (i:Nat):(sb s).getD i 0 < 256:=by
 rw [qTn];exact UInt8.toNat_lt _
theorem qU0 {s:ByteArray} (bit:Int) (h0:0 < s.size):qJf s bit < 8 * s.size∧(bit.tmod (8 * (s.size:Int)) + 8 * (s.size:Int)).tmod (8 * (s.size:Int))=(qJf s bit:Int):=by
 have hp:0 < 8 * (s.size:Int):=by omega
 have a1:=Int.tmod_lt_of_pos bit hp
 have a2:=Int.lt_tmod_of_pos bit hp
 have b1:=Int.tmod_lt_of_pos (bit.tmod (8 * (s.size:Int)) + 8 * (s.size:Int)) hp
 have b2:0≤(bit.tmod (8 * (s.size:Int)) + 8 * (s.size:Int)).tmod (8 * (s.size:Int)):=Int.tmod_nonneg _ (by omega)
 unfold qJf;omega
theorem zTs {a b:Nat} (ha:a < 256) (hb:b < 256):bits .xor .u8 (a:Int) (b:Int)=((a ^^^ b:Nat):Int):=by
 have hx:a ^^^ b < 2 ^ 8:=Nat.xor_lt_two_pow (n:=8) ha hb
 show IntKind.u8.wrap ((BitVec.ofInt 8 (a:Int) ^^^ BitVec.ofInt 8 (b:Int)).toNat:Nat)=_
 rw [BitVec.toNat_xor,BitVec.toNat_ofInt,BitVec.toNat_ofInt,IntKind.wrap_u8]
 have a1:((a:Int) % ((2 ^ 8:Nat):Int)).toNat=a:=by omega
 have a2:((b:Int) % ((2 ^ 8:Nat):Int)).toNat=b:=by omega
 rw [a1,a2];omega
theorem qTv {j:Nat} (h:j < 8):2 ^ j < 256:=by
 rcases j with _|_|_|_|_|_|_|_|j <;> first|decide|omega
theorem zL3 (w:World) (s:ByteArray) (k i:Nat) (v:Value) (hi:i < s.size) :
  ((Lib.bytesWorld w 5 s).setCell ⟨w.heap.size,k,none⟩ v).drew.cell? ⟨w.heap.size,i,none⟩=some (if i=k then v else .int .u8 (s.data.toList.getD i 0).toNat):=by
 have hb:(Lib.bytesWorld w 5 s).heap[w.heap.size]?=_:=Lib.bytesWorld_at_new w 5 s
 have hc:=Lib.bytesWorld_cell w 5 s i hi
 simp only [World.cell?,hb] at hc
 have hsz:s.size≤(Lib.bytesCells w 5 s).size:=by simp [Lib.bytesCells]
 have hb':((Lib.bytesWorld w 5 s).setCell ⟨w.heap.size,k,none⟩ v).drew.heap[w.heap.size]?=some (.cells ((Lib.bytesCells w 5 s).setIfInBounds k v) 5 ((Lib.bytesCells w 5 s).size,(Lib.bytesCells w 5 s).size + 1)):=by
  show ((Lib.bytesWorld w 5 s).setCell ⟨w.heap.size,k,none⟩ v).heap[w.heap.size]?=_
  simp only [World.setCell,Array.getElem?_modify];rw [if_pos trivial,hb];rfl
 simp only [World.cell?,hb'];simp only [Option.isSome_none,Bool.false_eq_true,if_false] at hc ⊢;rw [Array.getElem?_setIfInBounds]
 by_cases h:k=i
 ·subst h;rw [if_pos rfl,if_pos (by omega),if_pos rfl]
 ·rw [if_neg h,if_neg (fun e=>h e.symm),hc]
theorem zGh (s:ByteArray) (k i:Nat) (hi:i < s.size):((qN s k).map Int.ofNat).getD i 0=if i=k / 8 then (((sb s).getD (k / 8) 0 ^^^ 2 ^ (k % 8):Nat):Int) else ((sb s).getD i 0:Nat):=by
 have hl:=qKa s
 have hget:(sb s)[i]?=some ((sb s).getD i 0):=by
  rw [List.getD_eq_getElem?_getD,List.getElem?_eq_getElem (by omega)];rfl
 rw [List.getD_eq_getElem?_getD,List.getElem?_map,qN,List.getElem?_set]
 by_cases h:k / 8=i
 ·rw [if_pos h,if_pos (by omega),if_pos h.symm];rfl
 ·rw [if_neg h,if_neg (fun e=>h e.symm),hget];rfl
theorem qPl (s:ByteArray) (k:Nat):(qN s k).length=s.size:=by rw [qN,List.length_set,qKa]
set_option maxHeartbeats 400000 in
theorem qY6 (s:ByteArray) (bit:Int) (w:World) (h0:0 < s.size) (hs:s.size≤140737488355328) (h1:-9223372036854775808≤bit) (h2:bit≤9223372036854775807) :
  Calls Tryz.prog 78 #[.string s,.int .i64 bit] w (Ret fun e w'=>e=.string (dM s bit)∧Below w.heap.size w w'):=by
 have hm:IntKind.i64.wrap (8 * (s.size:Int))=8 * (s.size:Int):=by rw [IntKind.wrap_i64];omega
 obtain ⟨k,hkd⟩:∃ k,k=qJf s bit:=⟨_,rfl⟩;obtain ⟨hk1,hk3⟩:=qU0 (s:=s) bit h0
 have hk2:(wrap64 (bit.tmod (8 * (s.size:Int)) + 8 * (s.size:Int))).tmod (8 * (s.size:Int))=(k:Int):=by
  have hp:0 < 8 * (s.size:Int):=by omega
  have a1:=Int.tmod_lt_of_pos bit hp
  have a2:=Int.lt_tmod_of_pos bit hp
  rw [show wrap64 (bit.tmod (8 * (s.size:Int)) + 8 * (s.size:Int))=bit.tmod (8 * (s.size:Int)) + 8 * (s.size:Int) by unfold wrap64;omega,hk3,hkd]
 rw [← hkd] at hk1;clear hk3
 have fin:dM s bit=strOfNums ((qN s k).map Int.ofNat):=by rw [dM,if_neg (by omega),hkd]
 rw [fin];clear fin hkd
 have mixed:=mixed
 have hk8:k / 8 < s.size:=by omega
 obtain ⟨c,hcc⟩:∃ c:Nat,c=(s.data.toList.getD (k / 8) 0).toNat:=⟨_,rfl⟩
 have hc1:(Lib.bytesWorld w 5 s).drew.cell? ⟨w.heap.size,k / 8,none⟩=some (.int .u8 c):=by
  rw [hcc];exact Lib.bytesWorld_cell w 5 s (k / 8) hk8
 have hf1:(Lib.bytesWorld w 5 s).drew.frozen? ⟨w.heap.size,k / 8,none⟩=false:=by
  have hb:(Lib.bytesWorld w 5 s).drew.heap[w.heap.size]?=_:=Lib.bytesWorld_at_new w 5 s
  have hsz:s.size≤(Lib.bytesCells w 5 s).size:=by simp [Lib.bytesCells]
  simp only [World.frozen?,hb];simp;omega
 have hback:∀ v:Int,v=(((sb s).getD (k / 8) 0 ^^^ 2 ^ (k % 8):Nat):Int)→(convert 127 9 (.slice (some ⟨w.heap.size,0,none⟩) s.size (grownCap w s.size 0 5))).run Tryz.prog ((Lib.bytesWorld w 5 s).setCell ⟨w.heap.size,k / 8,none⟩ (.int .u8 v)).drew=.ok (.string (strOfNums ((qN s k).map Int.ofNat))) ((Lib.bytesWorld w 5 s).setCell ⟨w.heap.size,k / 8,none⟩ (.int .u8 v)).drew:=fun v hv =>
  run_convert_bytes_arg _ 127 5 Tryz.underlying127 Tryz.underlying5 w.heap.size 0 s.size _ ((qN s k).map Int.ofNat) (by rw [List.length_map,qPl]) (fun i hi=>by
   rw [zGh s k i hi,Nat.zero_add,zL3 w s (k / 8) i _ hi,← qTn]
   by_cases h:i=k / 8
   ·rw [if_pos h,if_pos h,hv]
   ·rw [if_neg h,if_neg h]) 9 Tryz.underlying9
 have B0:Below w.heap.size w (Lib.bytesWorld w 5 s):=⟨rfl,rfl,rfl,by rw [Lib.bytesWorld_size w 5 s];omega,fun j hj=>Lib.bytesWorld_at_old w 5 s j hj⟩
 have hbelow:∀ v:Value,Below w.heap.size w ((Lib.bytesWorld w 5 s).setCell ⟨w.heap.size,k / 8,none⟩ v).drew:=fun v=>(B0.setCell (Nat.le_refl _) v).drew
 have hval:bits .xor .u8 ((s.data[k / 8]'hk8).toNat:Int) (2 ^ (k % 8) % 256)=(((sb s).getD (k / 8) 0 ^^^ 2 ^ (k % 8):Nat):Int):=by
  have hj:k % 8 < 8:=Nat.mod_lt _ (by decide)
  have e1:((2:Int) ^ (k % 8) % 256)=((2 ^ (k % 8):Nat):Int):=by
   have:=qTv hj
   rw [show (2:Int) ^ (k % 8)=((2 ^ (k % 8):Nat):Int) from (Int.natCast_pow 2 _).symm]
   exact Int.emod_eq_of_lt (Int.natCast_nonneg _) (by exact_mod_cast this)
  have e2:((s.data[k / 8]'hk8).toNat)=(sb s).getD (k / 8) 0:=by
   rw [qTn,List.getD_eq_getElem?_getD,List.getElem?_eq_getElem (by simpa using hk8)];simp
  rw [e1,e2,zTs (zGu s _) (qTv hj)]
 have HB:Hid (∀ v:Int,_→_):=hback
 have HL:Hid (∀ v:Value,_):=hbelow
 have HV:Hid (_=_):=hval
 clear hback hbelow hval B0
 go_enter Tryz.func78,Tryz.ntmps78
 go_wp2
 rw [Lib.run_convert_string_bytes w 9 127 5 s Tryz.underlying9 Tryz.underlying127 Tryz.underlying5];simp only [Result.andThen];rw [Oper.upon_value]
 go_wp2
 go_region_o
 all_goals
  go_wp2
  rw [HB.out _ HV.out];simp only [Result.andThen];rw [Oper.upon_value]
  go_wp2
  go_ret
  exact ⟨rfl,HL.out _⟩
theorem qUz (s:ByteArray) (bit:Int) (w:World) (h0:s.size=0) :
  Calls Tryz.prog 78 #[.string s,.int .i64 bit] w (Ret fun e w'=>e=.string (dM s bit)∧Below w.heap.size w w'):=by
 have fin:dM s bit=⟨#[]⟩:=by rw [dM,if_pos h0]
 rw [fin]
 have hn:(s.size:Int)=0:=by omega
 clear fin
 go_enter Tryz.func78,Tryz.ntmps78
 go_wp2
 go_ret
 exact ⟨rfl,Below.refl _ _⟩
theorem zGg (s:ByteArray) (bit:Int) (hs:s.size≤140737488355328) (h1:-9223372036854775808≤bit) (h2:bit≤9223372036854775807) :
  HFun Tryz.prog 78 [.v (.string s),.v (.int .i64 bit)] (fun h st=>h=.v (.string (dM s bit))∧st=[]):=qD1 fun w vs R=>by
 obtain ⟨r1,r2⟩:=R
 match vs,r1 with
|[a,b],_ =>
 have ha:=r2 0 (by simp) (by simp)
 have hb:=r2 1 (by simp) (by simp)
 simp only [List.getElem_cons_zero,List.getElem_cons_succ] at ha hb
 have:=bN ha
 subst this
 have:=bN hb
 subst this
 by_cases h0:s.size=0
 ·exact qUz s bit w h0
 ·exact qY6 s bit w (by omega) hs h1 h2
theorem zMj {c j:Nat} (hc:c < 256) (hj:j < 8):c ^^^ 2 ^ j=if c / 2 ^ j % 2=1 then c - 2 ^ j else c + 2 ^ j:=by
 have key:∀ (z:Fin 256) (y:Fin 8),z.val ^^^ 2 ^ y.val=if z.val / 2 ^ y.val % 2=1 then z.val - 2 ^ y.val else z.val + 2 ^ y.val:=by decide +kernel
 exact key ⟨c,hc⟩ ⟨j,hj⟩
theorem zP3 (s:ByteArray) (n:Nat):sb (s.extract n s.size)=(sb s).drop n:=by
 unfold sb;rw [← List.map_drop]
 congr 1
 simp only [ByteArray.data_extract,Array.toList_extract,List.extract_eq_take_drop];rw [List.take_of_length_le];simp
theorem qY7 (s:ByteArray) (k:Nat):∀ n ∈ (qN s k).map Int.ofNat,0≤n∧n < 256:=by
 intro n hn;obtain ⟨m,hm,rfl⟩:=List.mem_map.1 hn
 have:m < 256:=by
  rcases List.mem_or_eq_of_mem_set hm with h|h
  ·exact zMx s m h
  ·rw [h];exact Nat.xor_lt_two_pow (n:=8) (zGu s _) (qTv (Nat.mod_lt _ (by decide)))
 exact ⟨Int.natCast_nonneg _,Int.ofNat_lt.2 this⟩
theorem zMw (s:ByteArray) (k:Nat):sb (strOfNums ((qN s k).map Int.ofNat))=qN s k:=by
 rw [zA2 (qY7 s k),List.map_map];exact (List.map_congr_left fun a _=>rfl).trans (List.map_id _)
theorem zGf (s:ByteArray) (k q c:Nat) (hq:q=k / 8) (hk:q < s.size) (hc:c=(sb s).getD (k / 8) 0 ^^^ 2 ^ (k % 8)) :
  s.extract 0 q ++ strOfNums [(c:Int)] ++ s.extract (q + 1) s.size=strOfNums ((qN s k).map Int.ofNat):=by
 apply zP4
 have hc2:c < 256:=by rw [hc];exact Nat.xor_lt_two_pow (n:=8) (zGu s _) (qTv (Nat.mod_lt _ (by decide)))
 rw [zMw,zGv,zGv,qZg,zP3,zA2 (by intro n hn;simp only [List.mem_singleton] at hn;omega),qN,← hc,← hq,List.set_eq_take_append_cons_drop,if_pos (by rw [qKa];exact hk)]
 simp
def uE (s:ByteArray) (k:Nat) (j:Nat):HS:=⟨[(0,.v (.string s)),(1,.v (.int .i64 k)),(6,.v (.int .i64 (2 ^ j:Nat))),(7,.v (.int .i64 j))],[]⟩
set_option maxHeartbeats 4000000 in
theorem qP6 (s:ByteArray) (bit:Int) (hs:s.size≤140737488355328) (h1:-9223372036854775808≤bit) (h2:bit≤9223372036854775807) :
  HFun Tryz.prog 79 [.v (.string s),.v (.int .i64 bit)] (fun h st=>h=.v (.string (dM s bit))):=by
 refine iD (N:=62) Tryz.func79 rfl Tryz.ntmps79 Tryz.results79 (by simp) ?_
 by_cases h0:s.size=0
 ·have fin:dM s bit=⟨#[]⟩:=by rw [dM,if_pos h0]
  rw [fin];refine zE ?_;refine zJ (fun K hK=>?_);simp (disch:=omega) only [push_cast,↓iC9,Nat.reduceBEq,Nat.reduceAdd,Nat.reduceLT,Nat.reduceEqDiff,reduceIte,reduceCtorEq,Nat.reduceLeDiff,Nat.reduceSub,List.reduceReplicate,Nat.reduceMul,Int.reduceToNat,Nat.reducePow];refine hK _ ?_;clear hK K
  refine zE ?_;refine zE ?_;refine zJ (fun K hK=>?_);simp (disch:=omega) only [push_cast,↓iC9,Nat.reduceBEq,Nat.reduceAdd,Nat.reduceLT,Nat.reduceEqDiff,reduceIte,reduceCtorEq,Nat.reduceLeDiff,Nat.reduceSub,List.reduceReplicate,Nat.reduceMul,Int.reduceToNat,Nat.reducePow];refine hK _ ?_;clear hK K
  refine yD rfl ?_;refine zE ?_;refine zJ (fun K hK=>?_);simp (disch:=omega) only [push_cast,↓iC9,Nat.reduceBEq,Nat.reduceAdd,Nat.reduceLT,Nat.reduceEqDiff,reduceIte,reduceCtorEq,Nat.reduceLeDiff,Nat.reduceSub,List.reduceReplicate,Nat.reduceMul,Int.reduceToNat,Nat.reducePow];refine hK _ ?_;clear hK K
  refine zA ?_;refine zW ?_;refine zK ?_;simp only [yA,yM,yH,yE,aL,aU,yK,yJ,zS,zM,Nat.reduceEqDiff,reduceIte,reduceCtorEq];exact bK rfl
 ·have hp:0 < 8 * (s.size:Int):=by omega
  have a1:=Int.tmod_lt_of_pos bit hp
  have a2:=Int.lt_tmod_of_pos bit hp
  obtain ⟨hk1,hk3⟩:=qU0 (s:=s) bit (by omega)
  have fin:dM s bit=strOfNums ((qN s (qJf s bit)).map Int.ofNat):=by rw [dM,if_neg h0]
  rw [fin];clear fin;obtain ⟨k,hkd⟩:∃ k,k=qJf s bit:=⟨_,rfl⟩;rw [← hkd] at hk1 hk3 ⊢;clear hkd;obtain ⟨r,hr⟩:∃ r,r=bit.tmod (8 * (s.size:Int)):=⟨_,rfl⟩;rw [← hr] at a1 a2 hk3
  have hrr:=hr.symm
  clear hr
  have hkr:(r < 0→r + 8 * (s.size:Int)=k)∧(0≤r→r=k):=by
   constructor
   ·intro h;rw [Int.tmod_eq_of_lt (by omega) (by omega)] at hk3
    exact hk3
   ·intro h;rw [Int.tmod_eq_emod_of_nonneg (by omega),Int.add_emod_right,Int.emod_eq_of_lt h a1] at hk3
    exact hk3
  clear hk3;refine zE ?_;refine zJ (fun K hK=>?_);simp (disch:=omega) only [push_cast,↓iC9,Nat.reduceBEq,Nat.reduceAdd,Nat.reduceLT,Nat.reduceEqDiff,reduceIte,reduceCtorEq,Nat.reduceLeDiff,Nat.reduceSub,List.reduceReplicate,Nat.reduceMul,Int.reduceToNat,Nat.reducePow];refine hK _ ?_;clear hK K
  refine zE ?_;refine zE ?_;refine zJ (fun K hK=>?_);simp (disch:=omega) only [push_cast,↓iC9,Nat.reduceBEq,Nat.reduceAdd,Nat.reduceLT,Nat.reduceEqDiff,reduceIte,reduceCtorEq,Nat.reduceLeDiff,Nat.reduceSub,List.reduceReplicate,Nat.reduceMul,Int.reduceToNat,Nat.reducePow];refine hK _ ?_;clear hK K
  refine yC rfl ?_;refine zC ?_;refine zE ?_;refine zJ (fun K hK=>?_);simp (disch:=omega) only [push_cast,↓iC9,Nat.reduceBEq,Nat.reduceAdd,Nat.reduceLT,Nat.reduceEqDiff,reduceIte,reduceCtorEq,Nat.reduceLeDiff,Nat.reduceSub,List.reduceReplicate,Nat.reduceMul,Int.reduceToNat,Nat.reducePow];refine hK _ ?_;clear hK K
  refine zE ?_;refine zJ (fun K hK=>?_);simp (disch:=omega) only [push_cast,↓iC9,Nat.reduceBEq,Nat.reduceAdd,Nat.reduceLT,Nat.reduceEqDiff,reduceIte,reduceCtorEq,Nat.reduceLeDiff,Nat.reduceSub,List.reduceReplicate,Nat.reduceMul,Int.reduceToNat,Nat.reducePow,hrr]
  refine ⟨by omega,?_⟩
  refine hK _ ?_;clear hK K;obtain ⟨q,hq⟩:∃ q,q=k / 8:=⟨_,rfl⟩;obtain ⟨j8,hj8⟩:∃ j,j=k % 8:=⟨_,rfl⟩
  have hj:j8 < 8:=by omega
  have hqs:q < s.size:=by omega
  have q1:(k:Int).tdiv 8=(q:Int):=by rw [Int.tdiv_eq_ediv_of_nonneg (by omega)];omega
  have q2:(k:Int).tmod 8=(j8:Int):=by rw [Int.tmod_eq_emod_of_nonneg (by omega)];omega
  obtain ⟨c,hc,hc2,hd⟩:=zFw s hqs
  have hcg:(sb s).getD (k / 8) 0=c:=by
   have hl:q < (sb s).length:=by rw [qKa];exact hqs
   rw [List.drop_eq_getElem_cons hl] at hd;simp only [List.cons.injEq] at hd;rw [← hq,List.getD_eq_getElem?_getD,List.getElem?_eq_getElem hl,hd.1];rfl
  clear hd
  have hx:=zMj hc2 hj
  have hpw:=qTv hj
  have hcut:=zGf s k q (c ^^^ 2 ^ j8) hq hqs (by rw [hcg,hj8])
  rw [← hcut];clear hcut hcg
  have hlast:c ^^^ 2 ^ j8 < 256:=Nat.xor_lt_two_pow (n:=8) hc2 (by omega)
  obtain ⟨x,hxx⟩:∃ x,x=c ^^^ 2 ^ j8:=⟨_,rfl⟩;rw [← hxx] at hx hlast ⊢;clear hxx
  rcases (show r < 0∨0≤r by omega) with hneg|hpos
  ·have hk:=hkr.1 hneg
   refine zE ?_;refine zE ?_;refine zJ (fun K hK=>?_);simp (disch:=omega) only [push_cast,↓iC9,Nat.reduceBEq,Nat.reduceAdd,Nat.reduceLT,Nat.reduceEqDiff,reduceIte,reduceCtorEq,Nat.reduceLeDiff,Nat.reduceSub,List.reduceReplicate,Nat.reduceMul,Int.reduceToNat,Nat.reducePow];refine hK _ ?_;clear hK K
   refine yD rfl ?_;refine zJ (fun K hK=>?_);simp (disch:=omega) only [push_cast,↓iC9,Nat.reduceBEq,Nat.reduceAdd,Nat.reduceLT,Nat.reduceEqDiff,reduceIte,reduceCtorEq,Nat.reduceLeDiff,Nat.reduceSub,List.reduceReplicate,Nat.reduceMul,Int.reduceToNat,Nat.reducePow,hk];(repeat refine ⟨by first|omega|decide|((repeat' apply And.intro) <;> first|omega|decide),?_⟩);refine hK _ ?_;clear hK K
   refine zE ?_;refine yB [0,1] [] (by simp only [zZ,zR,zP,zQ,zN,zS,zM,zX,zU,Nat.reduceEqDiff,reduceIte];exact rfl) ?_
   refine zJ (fun K hK=>?_);simp (disch:=omega) only [push_cast,↓iC9,Nat.reduceBEq,Nat.reduceAdd,Nat.reduceLT,Nat.reduceEqDiff,reduceIte,reduceCtorEq,Nat.reduceLeDiff,Nat.reduceSub,List.reduceReplicate,Nat.reduceMul,Int.reduceToNat,Nat.reducePow];refine hK _ ?_;clear hK K
   refine zE ?_;refine zE ?_;refine zJ (fun K hK=>?_);simp (disch:=omega) only [push_cast,↓iC9,Nat.reduceBEq,Nat.reduceAdd,Nat.reduceLT,Nat.reduceEqDiff,reduceIte,reduceCtorEq,Nat.reduceLeDiff,Nat.reduceSub,List.reduceReplicate,Nat.reduceMul,Int.reduceToNat,Nat.reducePow];refine hK _ ?_;clear hK K
   refine zA ?_;refine zD ?_;refine dW (uE s k) (fun j=>j≤j8) (fun j=>j8 - j) [0,1,6,7] [] 0 (by simp only [zZ,zR,zP,zQ,zN,zS,zM,zX,zU,Nat.reduceEqDiff,reduceIte,uE,Nat.pow_zero];rfl) (Nat.zero_le _) ?_
   intro j hjj;simp only [uE]
   have hpj:=qTv (show j < 8 by omega)
   have hps:=Nat.pow_succ (n:=2) (m:=j)
   by_cases h:j < j8
   ·have hpj2:=qTv (show j + 1 < 8 by omega)
    obtain ⟨p,hpp⟩:∃ p,p=2 ^ j:=⟨_,rfl⟩;rw [← hpp] at hpj hps ⊢;obtain ⟨p2,hp2⟩:∃ p,p=2 ^ (j + 1):=⟨_,rfl⟩
    have e5:(2:Int) * (p:Int)=(p2:Int):=by omega
    rw [← hp2] at hpj2;refine zE ?_;refine zE ?_;refine zJ (fun K hK=>?_);simp (disch:=omega) only [push_cast,↓iC9,Nat.reduceBEq,Nat.reduceAdd,Nat.reduceLT,Nat.reduceEqDiff,reduceIte,reduceCtorEq,Nat.reduceLeDiff,Nat.reduceSub,List.reduceReplicate,Nat.reduceMul,Int.reduceToNat,Nat.reducePow,q2];(repeat refine ⟨by first|omega|decide|((repeat' apply And.intro) <;> first|omega|decide),?_⟩);refine hK _ ?_;clear hK K
    refine zA ?_;refine yD rfl ?_;refine zC ?_;refine zE ?_;refine zD ?_;refine zJ (fun K hK=>?_);simp (disch:=omega) only [push_cast,↓iC9,Nat.reduceBEq,Nat.reduceAdd,Nat.reduceLT,Nat.reduceEqDiff,reduceIte,reduceCtorEq,Nat.reduceLeDiff,Nat.reduceSub,List.reduceReplicate,Nat.reduceMul,Int.reduceToNat,Nat.reducePow,e5];(repeat refine ⟨by first|omega|decide|((repeat' apply And.intro) <;> first|omega|decide),?_⟩);refine hK _ ?_;clear hK K
    refine zB ?_;refine zA ?_;refine zJ (fun K hK=>?_);simp (disch:=omega) only [push_cast,↓iC9,Nat.reduceBEq,Nat.reduceAdd,Nat.reduceLT,Nat.reduceEqDiff,reduceIte,reduceCtorEq,Nat.reduceLeDiff,Nat.reduceSub,List.reduceReplicate,Nat.reduceMul,Int.reduceToNat,Nat.reducePow];refine hK _ ?_;clear hK K
    refine zA ?_;exact ⟨j + 1,by simp only [zZ,zR,zP,zQ,zN,zS,zM,zX,zU,Nat.reduceEqDiff,reduceIte,uE,← hp2];try rfl,h,by omega⟩
   ·have hje:j=j8:=by omega
    subst hje;obtain ⟨p,hpp⟩:∃ p,p=2 ^ j:=⟨_,rfl⟩
    have hp0:0 < p:=by rw [hpp];exact Nat.pow_pos (by decide)
    rw [← hpp] at hpj hx hpw ⊢;clear hps hpp;obtain ⟨y,hy⟩:∃ y,y=c / p:=⟨_,rfl⟩;obtain ⟨d,hdd⟩:∃ d,d=y % 2:=⟨_,rfl⟩
    have e5:(c:Int).tdiv (p:Int)=(y:Int):=by rw [hy];rfl
    have e6:(y:Int).tmod 2=(d:Int):=by rw [Int.tmod_eq_emod_of_nonneg (by omega)];omega
    rw [← hy,← hdd] at hx
    have hpc:d=1→p≤c:=fun h1=>Nat.le_of_not_lt fun hlt=>by
     rw [Nat.div_eq_of_lt hlt] at hy;omega
    refine zE ?_;refine zE ?_;refine zJ (fun K hK=>?_);simp (disch:=omega) only [push_cast,↓iC9,Nat.reduceBEq,Nat.reduceAdd,Nat.reduceLT,Nat.reduceEqDiff,reduceIte,reduceCtorEq,Nat.reduceLeDiff,Nat.reduceSub,List.reduceReplicate,Nat.reduceMul,Int.reduceToNat,Nat.reducePow,q2];(repeat refine ⟨by first|omega|decide|((repeat' apply And.intro) <;> first|omega|decide),?_⟩);refine hK _ ?_;clear hK K
    refine zA ?_;refine yC rfl ?_;refine zT ?_;refine zG ?_;refine zG ?_;refine zH ?_;refine zE ?_;refine zJ (fun K hK=>?_);simp (disch:=omega) only [push_cast,↓iC9,Nat.reduceBEq,Nat.reduceAdd,Nat.reduceLT,Nat.reduceEqDiff,reduceIte,reduceCtorEq,Nat.reduceLeDiff,Nat.reduceSub,List.reduceReplicate,Nat.reduceMul,Int.reduceToNat,Nat.reducePow,q1,hc]
    refine ⟨by decide,by omega,?_⟩
    refine hK _ ?_;clear hK K;refine yB [0,1,6,8] [] (by simp only [zZ,zR,zP,zQ,zN,zS,zM,zX,zU,Nat.reduceEqDiff,reduceIte];exact rfl) ?_
    have hyc:y≤c:=by rw [hy];exact Nat.div_le_self _ _
    have hwy:IntKind.i64.wrap (y:Int)=(y:Int):=by rw [IntKind.wrap_i64];omega
    have hs1:(s.extract 0 q).size=q:=by rw [ByteArray.size_extract];omega
    have hs2:(s.extract (q + 1) s.size).size=s.size - (q + 1):=by rw [ByteArray.size_extract];omega
    have hs3:(strOfNums [(x:Int)]).size=1:=by rw [strOfNums_size];rfl
    have hn1:((q:Int) + 1).toNat=q + 1:=by omega
    have hwx:IntKind.u8.wrap (x:Int)=(x:Int):=by rw [IntKind.wrap_u8];omega
    have hz1:(s.extract 0 q).size + (strOfNums [(x:Int)]).size≤9223372036854775807:=by omega
    have hz2:(s.extract 0 q ++ strOfNums [(x:Int)]).size + (s.extract (q + 1) s.size).size≤9223372036854775807:=by rw [ByteArray.size_append];omega
    by_cases hd1:d=1
    ·have:=hpc hd1
     rw [if_pos hd1] at hx
     have e7:(c:Int) - (p:Int)=(x:Int):=by omega
     have e8:decide ((d:Int)=1)=true:=by rw [decide_eq_true_eq];omega
     refine zE ?_;refine zE ?_;refine zJ (fun K hK=>?_);simp (disch:=omega) only [push_cast,↓iC9,Nat.reduceBEq,Nat.reduceAdd,Nat.reduceLT,Nat.reduceEqDiff,reduceIte,reduceCtorEq,Nat.reduceLeDiff,Nat.reduceSub,List.reduceReplicate,Nat.reduceMul,Int.reduceToNat,Nat.reducePow,e5,hwy,e6,e8]
     refine ⟨by omega,by decide,?_⟩
     refine hK _ ?_;clear hK K;refine yD rfl ?_;refine zJ (fun K hK=>?_);simp (disch:=omega) only [push_cast,↓iC9,Nat.reduceBEq,Nat.reduceAdd,Nat.reduceLT,Nat.reduceEqDiff,reduceIte,reduceCtorEq,Nat.reduceLeDiff,Nat.reduceSub,List.reduceReplicate,Nat.reduceMul,Int.reduceToNat,Nat.reducePow,e7];(repeat refine ⟨by first|omega|decide|((repeat' apply And.intro) <;> first|omega|decide),?_⟩);refine hK _ ?_;clear hK K
     refine zE ?_;refine yB [0,1,8] [] (by simp only [zZ,zR,zP,zQ,zN,zS,zM,zX,zU,Nat.reduceEqDiff,reduceIte];exact rfl) ?_
     refine kL 16 mixed (by kernel_rfl) (fun K hK=>?_);simp (disch:=omega) only [push_cast,↓iC9,Nat.reduceBEq,Nat.reduceAdd,Nat.reduceLT,Nat.reduceEqDiff,reduceIte,reduceCtorEq,Nat.reduceLeDiff,Nat.reduceSub,List.reduceReplicate,Nat.reduceMul,Int.reduceToNat,Nat.reducePow,q1,hn1,hwx,qH6]
     refine ⟨by decide,by omega,hz1,by decide,by omega,hz2,?_⟩
     with_reducible refine aM ?_;simp (disch:=omega) only [push_cast,↓iC9,Nat.reduceBEq,Nat.reduceAdd,Nat.reduceLT,Nat.reduceEqDiff,reduceIte,reduceCtorEq,Nat.reduceLeDiff,Nat.reduceSub,List.reduceReplicate,Nat.reduceMul,Int.reduceToNat,Nat.reducePow]
     refine hK _ ?_;clear hK K;refine zA ?_;refine zW ?_;simp only [yA,yM,yH,yE,aL,aU,yK,yJ,zS,zM,Nat.reduceEqDiff,reduceIte,reduceCtorEq];exact bK rfl
    ·rw [if_neg hd1] at hx
     have e7:(c:Int) + (p:Int)=(x:Int):=by omega
     have e8:decide ((d:Int)=1)=false:=by rw [decide_eq_false_iff_not];omega
     refine zE ?_;refine zE ?_;refine zJ (fun K hK=>?_);simp (disch:=omega) only [push_cast,↓iC9,Nat.reduceBEq,Nat.reduceAdd,Nat.reduceLT,Nat.reduceEqDiff,reduceIte,reduceCtorEq,Nat.reduceLeDiff,Nat.reduceSub,List.reduceReplicate,Nat.reduceMul,Int.reduceToNat,Nat.reducePow,e5,hwy,e6,e8]
     refine ⟨by omega,by decide,?_⟩
     refine hK _ ?_;clear hK K;refine yC rfl ?_;refine zJ (fun K hK=>?_);simp (disch:=omega) only [push_cast,↓iC9,Nat.reduceBEq,Nat.reduceAdd,Nat.reduceLT,Nat.reduceEqDiff,reduceIte,reduceCtorEq,Nat.reduceLeDiff,Nat.reduceSub,List.reduceReplicate,Nat.reduceMul,Int.reduceToNat,Nat.reducePow,e7];(repeat refine ⟨by first|omega|decide|((repeat' apply And.intro) <;> first|omega|decide),?_⟩);refine hK _ ?_;clear hK K
     refine yB [0,1,8] [] (by simp only [zZ,zR,zP,zQ,zN,zS,zM,zX,zU,Nat.reduceEqDiff,reduceIte];exact rfl) ?_
     refine zE ?_;refine kL 16 mixed (by kernel_rfl) (fun K hK=>?_);simp (disch:=omega) only [push_cast,↓iC9,Nat.reduceBEq,Nat.reduceAdd,Nat.reduceLT,Nat.reduceEqDiff,reduceIte,reduceCtorEq,Nat.reduceLeDiff,Nat.reduceSub,List.reduceReplicate,Nat.reduceMul,Int.reduceToNat,Nat.reducePow,q1,hn1,hwx,qH6]
     refine ⟨by decide,by omega,hz1,by decide,by omega,hz2,?_⟩
     with_reducible refine aM ?_;simp (disch:=omega) only [push_cast,↓iC9,Nat.reduceBEq,Nat.reduceAdd,Nat.reduceLT,Nat.reduceEqDiff,reduceIte,reduceCtorEq,Nat.reduceLeDiff,Nat.reduceSub,List.reduceReplicate,Nat.reduceMul,Int.reduceToNat,Nat.reducePow]
     refine hK _ ?_;clear hK K;refine zA ?_;refine zW ?_;simp only [yA,yM,yH,yE,aL,aU,yK,yJ,zS,zM,Nat.reduceEqDiff,reduceIte,reduceCtorEq];exact bK rfl
  ·have hk:=hkr.2 hpos
   refine zE ?_;refine zE ?_;refine zJ (fun K hK=>?_);simp (disch:=omega) only [push_cast,↓iC9,Nat.reduceBEq,Nat.reduceAdd,Nat.reduceLT,Nat.reduceEqDiff,reduceIte,reduceCtorEq,Nat.reduceLeDiff,Nat.reduceSub,List.reduceReplicate,Nat.reduceMul,Int.reduceToNat,Nat.reducePow];refine hK _ ?_;clear hK K
   refine yC rfl ?_;refine zC ?_;refine zE ?_;subst hk;refine yB [0,1] [] (by simp only [zZ,zR,zP,zQ,zN,zS,zM,zX,zU,Nat.reduceEqDiff,reduceIte];exact rfl) ?_
   refine zJ (fun K hK=>?_);simp (disch:=omega) only [push_cast,↓iC9,Nat.reduceBEq,Nat.reduceAdd,Nat.reduceLT,Nat.reduceEqDiff,reduceIte,reduceCtorEq,Nat.reduceLeDiff,Nat.reduceSub,List.reduceReplicate,Nat.reduceMul,Int.reduceToNat,Nat.reducePow];refine hK _ ?_;clear hK K
   refine zE ?_;refine zE ?_;refine zJ (fun K hK=>?_);simp (disch:=omega) only [push_cast,↓iC9,Nat.reduceBEq,Nat.reduceAdd,Nat.reduceLT,Nat.reduceEqDiff,reduceIte,reduceCtorEq,Nat.reduceLeDiff,Nat.reduceSub,List.reduceReplicate,Nat.reduceMul,Int.reduceToNat,Nat.reducePow];refine hK _ ?_;clear hK K
   refine zA ?_;refine zD ?_;refine dW (uE s k) (fun j=>j≤j8) (fun j=>j8 - j) [0,1,6,7] [] 0 (by simp only [zZ,zR,zP,zQ,zN,zS,zM,zX,zU,Nat.reduceEqDiff,reduceIte,uE,Nat.pow_zero];rfl) (Nat.zero_le _) ?_
   intro j hjj;simp only [uE]
   have hpj:=qTv (show j < 8 by omega)
   have hps:=Nat.pow_succ (n:=2) (m:=j)
   by_cases h:j < j8
   ·have hpj2:=qTv (show j + 1 < 8 by omega)
    obtain ⟨p,hpp⟩:∃ p,p=2 ^ j:=⟨_,rfl⟩;rw [← hpp] at hpj hps ⊢;obtain ⟨p2,hp2⟩:∃ p,p=2 ^ (j + 1):=⟨_,rfl⟩
    have e5:(2:Int) * (p:Int)=(p2:Int):=by omega
    rw [← hp2] at hpj2;refine zE ?_;refine zE ?_;refine zJ (fun K hK=>?_);simp (disch:=omega) only [push_cast,↓iC9,Nat.reduceBEq,Nat.reduceAdd,Nat.reduceLT,Nat.reduceEqDiff,reduceIte,reduceCtorEq,Nat.reduceLeDiff,Nat.reduceSub,List.reduceReplicate,Nat.reduceMul,Int.reduceToNat,Nat.reducePow,q2];(repeat refine ⟨by first|omega|decide|((repeat' apply And.intro) <;> first|omega|decide),?_⟩);refine hK _ ?_;clear hK K
    refine zA ?_;refine yD rfl ?_;refine zC ?_;refine zE ?_;refine zD ?_;refine zJ (fun K hK=>?_);simp (disch:=omega) only [push_cast,↓iC9,Nat.reduceBEq,Nat.reduceAdd,Nat.reduceLT,Nat.reduceEqDiff,reduceIte,reduceCtorEq,Nat.reduceLeDiff,Nat.reduceSub,List.reduceReplicate,Nat.reduceMul,Int.reduceToNat,Nat.reducePow,e5];(repeat refine ⟨by first|omega|decide|((repeat' apply And.intro) <;> first|omega|decide),?_⟩);refine hK _ ?_;clear hK K
    refine zB ?_;refine zA ?_;refine zJ (fun K hK=>?_);simp (disch:=omega) only [push_cast,↓iC9,Nat.reduceBEq,Nat.reduceAdd,Nat.reduceLT,Nat.reduceEqDiff,reduceIte,reduceCtorEq,Nat.reduceLeDiff,Nat.reduceSub,List.reduceReplicate,Nat.reduceMul,Int.reduceToNat,Nat.reducePow];refine hK _ ?_;clear hK K
    refine zA ?_;exact ⟨j + 1,by simp only [zZ,zR,zP,zQ,zN,zS,zM,zX,zU,Nat.reduceEqDiff,reduceIte,uE,← hp2];try rfl,h,by omega⟩
   ·have hje:j=j8:=by omega
    subst hje;obtain ⟨p,hpp⟩:∃ p,p=2 ^ j:=⟨_,rfl⟩
    have hp0:0 < p:=by rw [hpp];exact Nat.pow_pos (by decide)
    rw [← hpp] at hpj hx hpw ⊢;clear hps hpp;obtain ⟨y,hy⟩:∃ y,y=c / p:=⟨_,rfl⟩;obtain ⟨d,hdd⟩:∃ d,d=y % 2:=⟨_,rfl⟩
    have e5:(c:Int).tdiv (p:Int)=(y:Int):=by rw [hy];rfl
    have e6:(y:Int).tmod 2=(d:Int):=by rw [Int.tmod_eq_emod_of_nonneg (by omega)];omega
    rw [← hy,← hdd] at hx
    have hpc:d=1→p≤c:=fun h1=>Nat.le_of_not_lt fun hlt=>by
     rw [Nat.div_eq_of_lt hlt] at hy;omega
    refine zE ?_;refine zE ?_;refine zJ (fun K hK=>?_);simp (disch:=omega) only [push_cast,↓iC9,Nat.reduceBEq,Nat.reduceAdd,Nat.reduceLT,Nat.reduceEqDiff,reduceIte,reduceCtorEq,Nat.reduceLeDiff,Nat.reduceSub,List.reduceReplicate,Nat.reduceMul,Int.reduceToNat,Nat.reducePow,q2];(repeat refine ⟨by first|omega|decide|((repeat' apply And.intro) <;> first|omega|decide),?_⟩);refine hK _ ?_;clear hK K
    refine zA ?_;refine yC rfl ?_;refine zT ?_;refine zG ?_;refine zG ?_;refine zH ?_;refine zE ?_;refine zJ (fun K hK=>?_);simp (disch:=omega) only [push_cast,↓iC9,Nat.reduceBEq,Nat.reduceAdd,Nat.reduceLT,Nat.reduceEqDiff,reduceIte,reduceCtorEq,Nat.reduceLeDiff,Nat.reduceSub,List.reduceReplicate,Nat.reduceMul,Int.reduceToNat,Nat.reducePow,q1,hc]
    refine ⟨by decide,by omega,?_⟩
    refine hK _ ?_;clear hK K;refine yB [0,1,6,8] [] (by simp only [zZ,zR,zP,zQ,zN,zS,zM,zX,zU,Nat.reduceEqDiff,reduceIte];exact rfl) ?_
    have hyc:y≤c:=by rw [hy];exact Nat.div_le_self _ _
    have hwy:IntKind.i64.wrap (y:Int)=(y:Int):=by rw [IntKind.wrap_i64];omega
    have hs1:(s.extract 0 q).size=q:=by rw [ByteArray.size_extract];omega
    have hs2:(s.extract (q + 1) s.size).size=s.size - (q + 1):=by rw [ByteArray.size_extract];omega
    have hs3:(strOfNums [(x:Int)]).size=1:=by rw [strOfNums_size];rfl
    have hn1:((q:Int) + 1).toNat=q + 1:=by omega
    have hwx:IntKind.u8.wrap (x:Int)=(x:Int):=by rw [IntKind.wrap_u8];omega
    have hz1:(s.extract 0 q).size + (strOfNums [(x:Int)]).size≤9223372036854775807:=by omega
    have hz2:(s.extract 0 q ++ strOfNums [(x:Int)]).size + (s.extract (q + 1) s.size).size≤9223372036854775807:=by rw [ByteArray.size_append];omega
    by_cases hd1:d=1
    ·have:=hpc hd1
     rw [if_pos hd1] at hx
     have e7:(c:Int) - (p:Int)=(x:Int):=by omega
     have e8:decide ((d:Int)=1)=true:=by rw [decide_eq_true_eq];omega
     refine zE ?_;refine zE ?_;refine zJ (fun K hK=>?_);simp (disch:=omega) only [push_cast,↓iC9,Nat.reduceBEq,Nat.reduceAdd,Nat.reduceLT,Nat.reduceEqDiff,reduceIte,reduceCtorEq,Nat.reduceLeDiff,Nat.reduceSub,List.reduceReplicate,Nat.reduceMul,Int.reduceToNat,Nat.reducePow,e5,hwy,e6,e8]
     refine ⟨by omega,by decide,?_⟩
     refine hK _ ?_;clear hK K;refine yD rfl ?_;refine zJ (fun K hK=>?_);simp (disch:=omega) only [push_cast,↓iC9,Nat.reduceBEq,Nat.reduceAdd,Nat.reduceLT,Nat.reduceEqDiff,reduceIte,reduceCtorEq,Nat.reduceLeDiff,Nat.reduceSub,List.reduceReplicate,Nat.reduceMul,Int.reduceToNat,Nat.reducePow,e7];(repeat refine ⟨by first|omega|decide|((repeat' apply And.intro) <;> first|omega|decide),?_⟩);refine hK _ ?_;clear hK K
     refine zE ?_;refine yB [0,1,8] [] (by simp only [zZ,zR,zP,zQ,zN,zS,zM,zX,zU,Nat.reduceEqDiff,reduceIte];exact rfl) ?_
     refine kL 16 mixed (by kernel_rfl) (fun K hK=>?_);simp (disch:=omega) only [push_cast,↓iC9,Nat.reduceBEq,Nat.reduceAdd,Nat.reduceLT,Nat.reduceEqDiff,reduceIte,reduceCtorEq,Nat.reduceLeDiff,Nat.reduceSub,List.reduceReplicate,Nat.reduceMul,Int.reduceToNat,Nat.reducePow,q1,hn1,hwx,qH6]
     refine ⟨by decide,by omega,hz1,by decide,by omega,hz2,?_⟩
     with_reducible refine aM ?_;simp (disch:=omega) only [push_cast,↓iC9,Nat.reduceBEq,Nat.reduceAdd,Nat.reduceLT,Nat.reduceEqDiff,reduceIte,reduceCtorEq,Nat.reduceLeDiff,Nat.reduceSub,List.reduceReplicate,Nat.reduceMul,Int.reduceToNat,Nat.reducePow]
     refine hK _ ?_;clear hK K;refine zA ?_;refine zW ?_;simp only [yA,yM,yH,yE,aL,aU,yK,yJ,zS,zM,Nat.reduceEqDiff,reduceIte,reduceCtorEq];exact bK rfl
    ·rw [if_neg hd1] at hx
     have e7:(c:Int) + (p:Int)=(x:Int):=by omega
     have e8:decide ((d:Int)=1)=false:=by rw [decide_eq_false_iff_not];omega
     refine zE ?_;refine zE ?_;refine zJ (fun K hK=>?_);simp (disch:=omega) only [push_cast,↓iC9,Nat.reduceBEq,Nat.reduceAdd,Nat.reduceLT,Nat.reduceEqDiff,reduceIte,reduceCtorEq,Nat.reduceLeDiff,Nat.reduceSub,List.reduceReplicate,Nat.reduceMul,Int.reduceToNat,Nat.reducePow,e5,hwy,e6,e8]
     refine ⟨by omega,by decide,?_⟩
     refine hK _ ?_;clear hK K;refine yC rfl ?_;refine zJ (fun K hK=>?_);simp (disch:=omega) only [push_cast,↓iC9,Nat.reduceBEq,Nat.reduceAdd,Nat.reduceLT,Nat.reduceEqDiff,reduceIte,reduceCtorEq,Nat.reduceLeDiff,Nat.reduceSub,List.reduceReplicate,Nat.reduceMul,Int.reduceToNat,Nat.reducePow,e7];(repeat refine ⟨by first|omega|decide|((repeat' apply And.intro) <;> first|omega|decide),?_⟩);refine hK _ ?_;clear hK K
     refine yB [0,1,8] [] (by simp only [zZ,zR,zP,zQ,zN,zS,zM,zX,zU,Nat.reduceEqDiff,reduceIte];exact rfl) ?_
     refine zE ?_;refine kL 16 mixed (by kernel_rfl) (fun K hK=>?_);simp (disch:=omega) only [push_cast,↓iC9,Nat.reduceBEq,Nat.reduceAdd,Nat.reduceLT,Nat.reduceEqDiff,reduceIte,reduceCtorEq,Nat.reduceLeDiff,Nat.reduceSub,List.reduceReplicate,Nat.reduceMul,Int.reduceToNat,Nat.reducePow,q1,hn1,hwx,qH6]
     refine ⟨by decide,by omega,hz1,by decide,by omega,hz2,?_⟩
     with_reducible refine aM ?_;simp (disch:=omega) only [push_cast,↓iC9,Nat.reduceBEq,Nat.reduceAdd,Nat.reduceLT,Nat.reduceEqDiff,reduceIte,reduceCtorEq,Nat.reduceLeDiff,Nat.reduceSub,List.reduceReplicate,Nat.reduceMul,Int.reduceToNat,Nat.reducePow]
     refine hK _ ?_;clear hK K;refine zA ?_;refine zW ?_;simp only [yA,yM,yH,yE,aL,aU,yK,yJ,zS,zM,Nat.reduceEqDiff,reduceIte,reduceCtorEq];exact bK rfl
end Go.Proofs.YtlihpgmgiehjkaaGreatDoor
