/- What the walk of the law stands on. -/
import Derived.Test.YtlfenddhppoflaaSmH
import Derived.Test.YtlfenddhppoflaaJoin
set_option linter.unusedSimpArgs false
set_option linter.unusedVariables false
set_option maxRecDepth 20000
namespace Go.Proofs.Ytlfenddhppoflaa
open Go Go.Eng Go.RowKit
def spl : List UInt8 → List (List UInt8)
 | [] => []
 | b :: l => if b = 10 then [b] :: spl l else match spl l with
  | [] => [[b]]
  | x :: r => (b :: x) :: r
def bs (l : List UInt8) : ByteArray := ⟨l.toArray⟩
def splS (s : ByteArray) : List ByteArray := (spl s.data.toList).map bs
theorem bs_list (s : ByteArray) : bs s.data.toList = s := by
 apply ByteArray.ext; apply Array.toList_inj.1; simp [bs]
theorem spl_cut (p q : List UInt8) (h : ∀ b ∈ p, b ≠ 10) : spl (p ++ 10 :: q) = (p ++ [10]) :: spl q := by
 induction p with
 | nil => simp [spl]
 | cons b p ih =>
  rw [List.cons_append, spl, if_neg (h b (by simp)), ih (fun x hx => h x (by simp [hx]))]
  rfl
theorem spl_one (p : List UInt8) (h : ∀ b ∈ p, b ≠ 10) (hne : p ≠ []) : spl p = [p] := by
 induction p with
 | nil => exact absurd rfl hne
 | cons b p ih =>
  rw [spl, if_neg (h b (by simp))]
  cases p with
  | nil => rfl
  | cons c r => rw [ih (fun x hx => h x (by simp [hx])) (by simp)]
theorem index_ten (l : List UInt8) : (Lib.indexByte l 10 = -1 ∧ ∀ b ∈ l, b ≠ 10) ∨ ∃ p q, l = p ++ 10 :: q ∧ (∀ b ∈ p, b ≠ 10) ∧ Lib.indexByte l 10 = p.length := by
 induction l with
 | nil => exact .inl ⟨rfl, by simp⟩
 | cons b l ih =>
  rw [Lib.indexByte]
  by_cases e : b = 10
  ·subst e; exact .inr ⟨[], l, rfl, by simp, by simp⟩
  ·rw [if_neg (by simpa using e)]
   rcases ih with ⟨h1, h2⟩ | ⟨p, q, rfl, h2, h3⟩
   ·left
    rw [h1]
    exact ⟨rfl, fun x hx => by rcases List.mem_cons.1 hx with rfl | hx; exact e; exact h2 x hx⟩
   ·right
    refine ⟨b :: p, q, rfl, fun x hx => by rcases List.mem_cons.1 hx with rfl | hx; exact e; exact h2 x hx, ?_⟩
    rw [h3, if_neg (by simp)]
    simp
theorem ext_data (s : ByteArray) (a b : Nat) : (s.extract a b).data.toList = (s.data.toList.take b).drop a := by
 rw [ByteArray.data_extract, Array.toList_extract, List.extract_eq_take_drop, List.drop_take]
theorem size_data (s : ByteArray) : s.data.toList.length = s.size := by rw [Array.length_toList]; rfl
theorem splS_step (u : ByteArray) (h : u ≠ ⟨#[]⟩) : ∃ n : Nat, 1 ≤ n ∧ n ≤ u.size ∧ (Lib.indexByte u.data.toList 10 + 1 = 0 ∧ n = u.size ∨ Lib.indexByte u.data.toList 10 + 1 = (n : Int)) ∧ splS u = u.extract 0 n :: splS (u.extract n u.size) := by
 have hs := size_data u
 rcases index_ten u.data.toList with ⟨h1, h2⟩ | ⟨p, q, h1, h2, h3⟩
 ·have hne : u.data.toList ≠ [] := fun e => h (by rw [← bs_list u, e]; rfl)
  have hpos : 0 < u.data.toList.length := List.length_pos_iff.2 hne
  refine ⟨u.size, by omega, Nat.le_refl _, .inl ⟨by omega, rfl⟩, ?_⟩
  have e1 : u.extract 0 u.size = u := by rw [← bs_list (u.extract 0 u.size), ext_data, List.take_of_length_le (by omega), List.drop_zero, bs_list]
  have e2 : splS (u.extract u.size u.size) = [] := by unfold splS; rw [ext_data, List.drop_eq_nil_of_le (by simp)]; rfl
  rw [e1, e2]
  unfold splS
  rw [spl_one _ h2 hne, List.map_cons, List.map_nil, bs_list]
 ·have hl : u.size = p.length + 1 + q.length := by rw [← hs, h1]; simp; omega
  refine ⟨p.length + 1, by omega, by omega, .inr (by omega), ?_⟩
  unfold splS
  rw [ext_data, h1, spl_cut p q h2, List.map_cons]
  congr 1
  ·rw [← bs_list (u.extract 0 (p.length + 1)), ext_data, h1, List.drop_zero]
   congr 1
   rw [List.take_append, List.take_of_length_le (by omega)]; simp
  ·congr 2
   rw [List.take_of_length_le (by simp; omega), List.drop_append, List.drop_eq_nil_of_le (by omega)]; simp
theorem spl_len (l : List UInt8) : (spl l).length ≤ l.length := by
 induction l with
 | nil => simp [spl]
 | cons b l ih =>
  rw [spl]
  split
  ·simpa using ih
  ·split
   ·simp
   ·rename_i x r e; rw [e] at ih; simp at ih ⊢; omega
theorem splS_len (s : ByteArray) : (splS s).length ≤ s.size := by
 unfold splS; rw [List.length_map, ← size_data]; exact spl_len _
theorem indexTen_H (s : ByteArray) : HFun Try.prog 64 [.v (.string s), .v (.int .u8 10)] (fun h st => h = .v (.int .i64 (Lib.indexByte s.data.toList 10))) := by
 refine (hfun_low fun w vs R => ?_).mono fun h st q => q.1
 obtain ⟨r1, r2⟩ := R
 match vs, r1 with
 | [a, b], _ =>
 have ha := repH_v (r2 0 (by simp) (by simp))
 have hb := repH_v (r2 1 (by simp) (by simp))
 simp only [List.getElem_cons_zero, List.getElem_cons_succ] at ha hb
 subst ha; subst hb
 refine (Try.strings_IndexByte s 10 w).mono ?_
 rintro e w' ⟨rfl, rfl⟩
 exact ret_of ⟨rfl, Below.refl _ _⟩
theorem countTen_H (s : ByteArray) : HFun Try.prog 65 [.v (.string s), .v (.string ⟨#[10]⟩)] (fun h st => h = .v (.int .i64 (s.data.toList.count 10 : Nat))) := by
 refine (hfun_low fun w vs R => ?_).mono fun h st q => q.1
 obtain ⟨r1, r2⟩ := R
 match vs, r1 with
 | [a, b], _ =>
 have ha := repH_v (r2 0 (by simp) (by simp))
 have hb := repH_v (r2 1 (by simp) (by simp))
 simp only [List.getElem_cons_zero, List.getElem_cons_succ] at ha hb
 subst ha; subst hb
 refine (Try.strings_Count_one s 10 w).mono ?_
 rintro e w' ⟨rfl, rfl⟩
 exact ret_of ⟨rfl, Below.refl _ _⟩
def endsTen (l : List UInt8) : Bool := l.getLast? == some 10
theorem suffix_ten (l : List UInt8) : Lib.hasSuffix l [10] = endsTen l := by
 unfold Lib.hasSuffix endsTen
 rcases List.eq_nil_or_concat l with rfl | ⟨p, b, rfl⟩
 ·rfl
 ·rw [Bool.eq_iff_iff, List.isSuffixOf_iff_suffix]
  simp only [List.concat_eq_append, List.getLast?_concat, List.getLast?_append, List.getLast?_singleton, Option.some_or, beq_iff_eq, Option.some.injEq]
  constructor
  ·rintro ⟨t, h⟩
   have := congrArg List.getLast? h
   simpa using this.symm
  ·rintro rfl
   exact ⟨p, rfl⟩
theorem suffixTen_H (s : ByteArray) (hs : s.size ≤ 9223372036854775807) : HFun Try.prog 66 [.v (.string s), .v (.string ⟨#[10]⟩)] (fun h st => h = .v (.bool (endsTen s.data.toList))) := by
 refine (hfun_low fun w vs R => ?_).mono fun h st q => q.1
 obtain ⟨r1, r2⟩ := R
 match vs, r1 with
 | [a, b], _ =>
 have ha := repH_v (r2 0 (by simp) (by simp))
 have hb := repH_v (r2 1 (by simp) (by simp))
 simp only [List.getElem_cons_zero, List.getElem_cons_succ] at ha hb
 subst ha; subst hb
 refine (Try.strings_HasSuffix s ⟨#[10]⟩ w hs).mono ?_
 rintro e w' ⟨rfl, rfl⟩
 refine ret_of ⟨?_, Below.refl _ _⟩
 show Value.bool (Lib.hasSuffix s.data.toList [10]) = _
 rw [suffix_ten]
theorem at_data (s : ByteArray) (i : Nat) (h : i < s.size) : ∃ b : UInt8, s.data.toList[i]? = some b ∧ byteAt s i = (b.toNat : Int) := by
 have h' : i < s.data.size := h
 refine ⟨s.data[i], by rw [Array.getElem?_toList, Array.getElem?_eq_getElem h'], ?_⟩
 unfold byteAt
 rw [Array.getD_eq_getD_getElem?, Array.getElem?_eq_getElem h']; rfl
theorem ten_iff (b : UInt8) : (b.toNat : Int) = 10 ↔ b = 10 := by
 constructor
 ·intro h; apply UInt8.toNat_inj.1; have e : (10 : UInt8).toNat = 10 := rfl; omega
 ·rintro rfl; rfl
theorem splS_at (s : ByteArray) (a i : Nat) (ha : a ≤ i) (hi : i < s.size) (hno : ∀ j, a ≤ j → j < i → byteAt s j ≠ 10) (hb : byteAt s i = 10 ∨ i + 1 = s.size) :
  splS (s.extract a s.size) = s.extract a (i + 1) :: splS (s.extract (i + 1) s.size) := by
 have hs := size_data s
 obtain ⟨b, b1, b2⟩ := at_data s i hi
 have hl : s.data.toList.drop a = (s.data.toList.drop a).take (i - a) ++ b :: s.data.toList.drop (i + 1) := by
  conv => lhs; rw [← List.take_append_drop (i - a) (s.data.toList.drop a)]
  congr 1
  rw [List.drop_drop, show a + (i - a) = i by omega]
  obtain ⟨h1, h2⟩ := List.getElem?_eq_some_iff.1 b1
  rw [List.drop_eq_getElem_cons h1, h2]
 have hp : ∀ x ∈ (s.data.toList.drop a).take (i - a), x ≠ 10 := fun x hx e => by
  obtain ⟨j, hj, rfl⟩ := List.getElem_of_mem hx
  simp only [List.length_take, List.length_drop] at hj
  simp only [List.getElem_take, List.getElem_drop] at e
  obtain ⟨c, c1, c2⟩ := at_data s (a + j) (by omega)
  refine hno (a + j) (by omega) (by omega) ?_
  rw [c2, ten_iff, ← e]
  rw [List.getElem?_eq_getElem (by omega)] at c1
  exact (Option.some.inj c1).symm
 have hx : ((s.data.toList.drop a).take (i - a) ++ [b]) = (s.data.toList.take (i + 1)).drop a := by
  have : (s.data.toList.drop a).take (i + 1 - a) = (s.data.toList.take (i + 1)).drop a := by rw [List.drop_take]
  rw [← this, show i + 1 - a = (i - a) + 1 by omega]
  obtain ⟨h1, h2⟩ := List.getElem?_eq_some_iff.1 b1
  rw [List.take_succ_eq_append_getElem (by simp; omega)]
  congr 2
  rw [List.getElem_drop, ← h2]
  congr 1
  omega
 unfold splS
 rw [ext_data, ext_data, List.take_of_length_le (by omega), hl]
 rw [b2, ten_iff] at hb
 by_cases hten : b = 10
 ·subst hten
  rw [spl_cut _ _ hp, List.map_cons]
  congr 1
  rw [hx, ← ext_data, bs_list]
 ·have he : i + 1 = s.size := hb.resolve_left hten
  have hd : s.data.toList.drop (i + 1) = [] := List.drop_eq_nil_of_le (by omega)
  rw [hd, spl_one _ (fun x hx => by rcases List.mem_append.1 hx with h | h; exact hp x h; simp at h; rw [h]; exact hten) (by simp), List.map_cons, hx, ← ext_data, bs_list]
  simp [spl]
theorem spl_count (l : List UInt8) : (spl l).length = l.count 10 + (if l ≠ [] ∧ endsTen l = false then 1 else 0) := by
 induction l with
 | nil => rfl
 | cons b l ih =>
  have hend : ∀ c r, endsTen (b :: c :: r) = endsTen (c :: r) := fun c r => by simp [endsTen]
  rw [spl]
  by_cases e : b = 10
  ·subst e
   rw [if_pos rfl, List.length_cons, ih]
   cases l with
   | nil => rfl
   | cons c r => rw [hend, List.count_cons_self]; simp; omega
  ·rw [if_neg e, List.count_cons_of_ne (Ne.symm (Ne.symm e))]
   cases l with
   | nil => simp [spl, endsTen, e]
   | cons c r =>
    rw [hend]
    have : ∃ x y, spl (c :: r) = x :: y := by
     rw [spl]; split
     ·exact ⟨_, _, rfl⟩
     ·split <;> exact ⟨_, _, rfl⟩
    obtain ⟨x, y, hxy⟩ := this
    rw [hxy] at ih ⊢
    simp only [List.length_cons] at ih ⊢
    rw [ih]; simp
theorem ends_at (s : ByteArray) (h : 0 < s.size) : endsTen s.data.toList = decide (byteAt s (s.size - 1) = 10) := by
 obtain ⟨b, b1, b2⟩ := at_data s (s.size - 1) (by omega)
 have hs := size_data s
 rw [b2, endsTen, List.getLast?_eq_getElem?, hs, b1, Bool.eq_iff_iff, decide_eq_true_iff, ten_iff]
 simp
theorem splS_count (s : ByteArray) : (splS s).length = s.data.toList.count 10 + (if s ≠ ⟨#[]⟩ ∧ byteAt s (s.size - 1) ≠ 10 then 1 else 0) := by
 unfold splS
 rw [List.length_map, spl_count]
 congr 1
 by_cases h : s = ⟨#[]⟩
 ·subst h; rfl
 ·have hne : s.data.toList ≠ [] := fun e => h (by rw [← bs_list s, e]; rfl)
  have hp : 0 < s.size := by rw [← size_data]; exact List.length_pos_iff.2 hne
  rw [ends_at s hp]
  simp [h, hne]
def nl : ByteArray := ⟨#[10]⟩
def closeS (x : ByteArray) : ByteArray := if endsTen x.data.toList then x else x ++ nl
def closedS (l : List ByteArray) : List ByteArray := match l.getLast? with
 | none => []
 | some x => l.set (l.length - 1) (closeS x)
theorem closedS_len (l : List ByteArray) : (closedS l).length = l.length := by
 unfold closedS
 split
 ·rename_i h; rw [List.getLast?_eq_none_iff.1 h]
 ·simp
theorem closedS_get (l : List ByteArray) (i : Nat) (h : i < l.length) : (closedS l)[i]'(by rw [closedS_len]; exact h) = if i = l.length - 1 then closeS l[i] else l[i] := by
 have hl : l.getLast? = some l[l.length - 1] := by rw [List.getLast?_eq_getElem?, List.getElem?_eq_getElem (by omega)]
 unfold closedS
 simp only [hl, List.getElem_set]
 by_cases e : i = l.length - 1
 ·subst e; simp
 ·rw [if_neg (by omega), if_neg e]
def textS (s : ByteArray) : Int := if (∃ i, i < s.size ∧ byteAt s i = 0) then 21 else if 400 < (splS s).length then 4 else 0
theorem byteE_len (s : ByteArray) : (byteE s).length = s.size := by simp [byteE]
theorem byteE_wid (s : ByteArray) : Wid 1 (byteE s) = True := eq_true fun x hx => by
 simp only [byteE, List.mem_map] at hx; obtain ⟨b, -, rfl⟩ := hx; rfl
theorem byteE_get {s : ByteArray} {i : Nat} {d : List FV} (h : i < s.size) : (byteE s).getD i d = [.v (.int .u8 (byteAt s i))] := by
 obtain ⟨b, b1, b2⟩ := at_data s i h
 rw [b2, List.getD_eq_getElem?_getD, byteE, List.getElem?_map, b1]; rfl

structure LI where
 u : ByteArray
 l : List ByteArray
def lsE (k : LI) : HS := ⟨[(0, .v (.string k.u)), (3, .own 40)], [(40, .sl true 9 1 (strs k.l))]⟩
def lsI (s : ByteArray) (k : LI) : Prop := k.l.length + k.u.size ≤ s.size ∧ splS s = k.l ++ splS k.u
abbrev lsQ (s : ByteArray) (h : HV) (st : Store) : Prop := h = .own 0 ∧ st = [(0, .sl true 9 1 (strs (splS s)))]
set_option maxHeartbeats 4000000 in
theorem split_H (s : ByteArray) (hs : s.size ≤ 4294967296) : HFun Try.prog 37 [.v (.string s)] (lsQ s) := by
 refine hfun (N := 25) Try.func37 rfl Try.ntmps37 Try.results37 (by simp) ?_
 (repeat first | refine qE ?_ | refine qA ?_ | refine qC ?_ | refine qB ?_ | refine qD ?_); refine qJ (fun K hK => ?_); simp (maxSteps := 2000000) (disch := omega) only [push_cast, ↓Int.cast_ofNat_Int, Nat.reduceBEq, Nat.reduceAdd, Nat.reduceLT, Nat.reduceEqDiff, reduceIte, reduceCtorEq, Nat.reduceLeDiff, Nat.reduceSub, List.reduceReplicate, Nat.reduceMul, Int.reduceToNat, Nat.reducePow]; refine hK _ ?_; clear hK K
 (repeat first | refine qE ?_ | refine qA ?_ | refine qC ?_ | refine qB ?_ | refine qD ?_); refine qJ (fun K hK => ?_); simp (maxSteps := 2000000) (disch := omega) only [push_cast, ↓Int.cast_ofNat_Int, Nat.reduceBEq, Nat.reduceAdd, Nat.reduceLT, Nat.reduceEqDiff, reduceIte, reduceCtorEq, Nat.reduceLeDiff, Nat.reduceSub, List.reduceReplicate, Nat.reduceMul, Int.reduceToNat, Nat.reducePow]; refine hK _ ?_; clear hK K
 (repeat first | refine qE ?_ | refine qA ?_ | refine qC ?_ | refine qB ?_ | refine qD ?_)
 refine HW_loop lsE (lsI s) (fun k => k.u.size) [0, 3] [40] ⟨s, []⟩ (by simp only [qZ, qR, qP, qQ, qN, qS, qM, qX, qU, Nat.reduceEqDiff, reduceIte, lsE]; rfl) ⟨by simp, by simp⟩ ?_
 rintro ⟨u, l⟩ ⟨hl, hsp⟩
 dsimp only at hl hsp
 simp only [lsE]
 by_cases hu : u = ⟨#[]⟩
 ·have hd : decide (u = ⟨#[]⟩) = true := decide_eq_true hu
  (repeat first | refine qE ?_ | refine qA ?_ | refine qC ?_ | refine qB ?_ | refine qD ?_); refine qJ (fun K hK => ?_); simp (maxSteps := 2000000) (disch := omega) only [push_cast, ↓Int.cast_ofNat_Int, Nat.reduceBEq, Nat.reduceAdd, Nat.reduceLT, Nat.reduceEqDiff, reduceIte, reduceCtorEq, Nat.reduceLeDiff, Nat.reduceSub, List.reduceReplicate, Nat.reduceMul, Int.reduceToNat, Nat.reducePow, hd]; refine hK _ ?_; clear hK K
  refine zC rfl ?_
  (repeat first | refine qK ?_ | refine qG ?_ | refine qH ?_ | refine qF rfl ?_ | refine qL ?_ | refine qB ?_ | refine qE ?_ | refine qA ?_ | refine qC ?_ | refine qT ?_ | refine qW ?_)
  (repeat first | refine qE ?_ | refine qA ?_ | refine qC ?_ | refine qB ?_ | refine qD ?_); refine qJ (fun K hK => ?_); simp (maxSteps := 2000000) (disch := omega) only [push_cast, ↓Int.cast_ofNat_Int, Nat.reduceBEq, Nat.reduceAdd, Nat.reduceLT, Nat.reduceEqDiff, reduceIte, reduceCtorEq, Nat.reduceLeDiff, Nat.reduceSub, List.reduceReplicate, Nat.reduceMul, Int.reduceToNat, Nat.reducePow]; refine hK _ ?_; clear hK K
  (repeat first | refine qK ?_ | refine qG ?_ | refine qH ?_ | refine qF rfl ?_ | refine qL ?_ | refine qB ?_ | refine qE ?_ | refine qA ?_ | refine qC ?_ | refine qT ?_ | refine qW ?_)
  simp only [zA, zM, zH, zE, zK, zJ, qS, qM, Nat.reduceEqDiff, reduceIte, reduceCtorEq]
  have e : splS s = l := by rw [hsp, hu]; simp [splS, spl]
  exact hres_o rfl (strs_fresh _) ⟨rfl, by rw [e]⟩
 ·have hd : decide (u = ⟨#[]⟩) = false := decide_eq_false hu
  obtain ⟨n, n1, n2, n3, n4⟩ := splS_step u hu
  have hi := indexTen_H u
  obtain ⟨k, hk⟩ : ∃ k, k = Lib.indexByte u.data.toList 10 := ⟨_, rfl⟩
  rw [← hk] at hi n3
  (repeat first | refine qE ?_ | refine qA ?_ | refine qC ?_ | refine qB ?_ | refine qD ?_); refine qJ (fun K hK => ?_); simp (maxSteps := 2000000) (disch := omega) only [push_cast, ↓Int.cast_ofNat_Int, Nat.reduceBEq, Nat.reduceAdd, Nat.reduceLT, Nat.reduceEqDiff, reduceIte, reduceCtorEq, Nat.reduceLeDiff, Nat.reduceSub, List.reduceReplicate, Nat.reduceMul, Int.reduceToNat, Nat.reducePow, hd]; refine hK _ ?_; clear hK K
  refine zD rfl ?_
  (repeat first | refine qE ?_ | refine qA ?_ | refine qC ?_ | refine qB ?_ | refine qD ?_)
  (repeat first | refine qE ?_ | refine qA ?_ | refine qC ?_ | refine qB ?_ | refine qD ?_); refine qJ (fun K hK => ?_); simp (maxSteps := 2000000) (disch := omega) only [push_cast, ↓Int.cast_ofNat_Int, Nat.reduceBEq, Nat.reduceAdd, Nat.reduceLT, Nat.reduceEqDiff, reduceIte, reduceCtorEq, Nat.reduceLeDiff, Nat.reduceSub, List.reduceReplicate, Nat.reduceMul, Int.reduceToNat, Nat.reducePow]
  refine hatv cl64 hi (.cons (.v _) (.cons (.v _) .nil)) ?_
  with_reducible refine hstop ?_; simp (maxSteps := 2000000) (disch := omega) only [push_cast, ↓Int.cast_ofNat_Int, Nat.reduceBEq, Nat.reduceAdd, Nat.reduceLT, Nat.reduceEqDiff, reduceIte, reduceCtorEq, Nat.reduceLeDiff, Nat.reduceSub, List.reduceReplicate, Nat.reduceMul, Int.reduceToNat, Nat.reducePow]
  refine hK _ ?_; clear hK K
  refine zB [0, 3, 4] [40] (by simp only [qZ, qR, qP, qQ, qN, qS, qM, qX, qU, Nat.reduceEqDiff, reduceIte]; exact rfl) ?_
  have hz : (u.extract n u.size).size = u.size - n := by rw [ByteArray.size_extract]; omega
  have fin : (l ++ [u.extract 0 n]).length + (u.extract n u.size).size ≤ s.size ∧ splS s = (l ++ [u.extract 0 n]) ++ splS (u.extract n u.size) := ⟨by rw [List.length_append, hz]; simp; omega, by rw [hsp, n4]; simp⟩
  rcases n3 with ⟨e1, e2⟩ | e1
  ·(repeat first | refine qE ?_ | refine qA ?_ | refine qC ?_ | refine qB ?_ | refine qD ?_); refine qJ (fun K hK => ?_); simp (maxSteps := 2000000) (disch := omega) only [push_cast, ↓Int.cast_ofNat_Int, Nat.reduceBEq, Nat.reduceAdd, Nat.reduceLT, Nat.reduceEqDiff, reduceIte, reduceCtorEq, Nat.reduceLeDiff, Nat.reduceSub, List.reduceReplicate, Nat.reduceMul, Int.reduceToNat, Nat.reducePow, e1]; refine hK _ ?_; clear hK K
   refine zD rfl ?_
   (repeat first | refine qE ?_ | refine qA ?_ | refine qC ?_ | refine qB ?_ | refine qD ?_); refine qJ (fun K hK => ?_); simp (maxSteps := 2000000) (disch := omega) only [push_cast, ↓Int.cast_ofNat_Int, Nat.reduceBEq, Nat.reduceAdd, Nat.reduceLT, Nat.reduceEqDiff, reduceIte, reduceCtorEq, Nat.reduceLeDiff, Nat.reduceSub, List.reduceReplicate, Nat.reduceMul, Int.reduceToNat, Nat.reducePow]; refine hK _ ?_; clear hK K
   rw [← e2]
   (repeat first | refine qK ?_ | refine qG ?_ | refine qH ?_ | refine qF rfl ?_ | refine qL ?_ | refine qB ?_ | refine qE ?_ | refine qA ?_ | refine qC ?_ | refine qT ?_ | refine qW ?_)
   (repeat first | refine qE ?_ | refine qA ?_ | refine qC ?_ | refine qB ?_ | refine qD ?_); refine qJ (fun K hK => ?_); simp (maxSteps := 2000000) (disch := omega) only [push_cast, ↓Int.cast_ofNat_Int, Nat.reduceBEq, Nat.reduceAdd, Nat.reduceLT, Nat.reduceEqDiff, reduceIte, reduceCtorEq, Nat.reduceLeDiff, Nat.reduceSub, List.reduceReplicate, Nat.reduceMul, Int.reduceToNat, Nat.reducePow, strs_len]; (repeat refine ⟨by first | omega | decide | ((repeat' apply And.intro) <;> first | omega | decide), ?_⟩); refine hK _ ?_; clear hK K
   (repeat first | refine qE ?_ | refine qA ?_ | refine qC ?_ | refine qB ?_ | refine qD ?_); refine qJ (fun K hK => ?_); simp (maxSteps := 2000000) (disch := omega) only [push_cast, ↓Int.cast_ofNat_Int, Nat.reduceBEq, Nat.reduceAdd, Nat.reduceLT, Nat.reduceEqDiff, reduceIte, reduceCtorEq, Nat.reduceLeDiff, Nat.reduceSub, List.reduceReplicate, Nat.reduceMul, Int.reduceToNat, Nat.reducePow]; (repeat refine ⟨by first | omega | decide | ((repeat' apply And.intro) <;> first | omega | decide), ?_⟩); refine hK _ ?_; clear hK K
   (repeat first | refine qK ?_ | refine qG ?_ | refine qH ?_ | refine qF rfl ?_ | refine qL ?_ | refine qB ?_ | refine qE ?_ | refine qA ?_ | refine qC ?_ | refine qT ?_ | refine qW ?_)
   exact ⟨⟨u.extract n u.size, l ++ [u.extract 0 n]⟩, by simp only [qZ, qR, qP, qQ, qN, qS, qM, qX, qU, Nat.reduceEqDiff, reduceIte, lsE, strs_snoc]; try rfl, fin, by dsimp only; omega⟩
  ·rw [e1]
   (repeat first | refine qE ?_ | refine qA ?_ | refine qC ?_ | refine qB ?_ | refine qD ?_); refine qJ (fun K hK => ?_); simp (maxSteps := 2000000) (disch := omega) only [push_cast, ↓Int.cast_ofNat_Int, Nat.reduceBEq, Nat.reduceAdd, Nat.reduceLT, Nat.reduceEqDiff, reduceIte, reduceCtorEq, Nat.reduceLeDiff, Nat.reduceSub, List.reduceReplicate, Nat.reduceMul, Int.reduceToNat, Nat.reducePow]; refine hK _ ?_; clear hK K
   refine zC rfl ?_
   (repeat first | refine qK ?_ | refine qG ?_ | refine qH ?_ | refine qF rfl ?_ | refine qL ?_ | refine qB ?_ | refine qE ?_ | refine qA ?_ | refine qC ?_ | refine qT ?_ | refine qW ?_)
   (repeat first | refine qE ?_ | refine qA ?_ | refine qC ?_ | refine qB ?_ | refine qD ?_); refine qJ (fun K hK => ?_); simp (maxSteps := 2000000) (disch := omega) only [push_cast, ↓Int.cast_ofNat_Int, Nat.reduceBEq, Nat.reduceAdd, Nat.reduceLT, Nat.reduceEqDiff, reduceIte, reduceCtorEq, Nat.reduceLeDiff, Nat.reduceSub, List.reduceReplicate, Nat.reduceMul, Int.reduceToNat, Nat.reducePow, strs_len]; (repeat refine ⟨by first | omega | decide | ((repeat' apply And.intro) <;> first | omega | decide), ?_⟩); refine hK _ ?_; clear hK K
   (repeat first | refine qE ?_ | refine qA ?_ | refine qC ?_ | refine qB ?_ | refine qD ?_); refine qJ (fun K hK => ?_); simp (maxSteps := 2000000) (disch := omega) only [push_cast, ↓Int.cast_ofNat_Int, Nat.reduceBEq, Nat.reduceAdd, Nat.reduceLT, Nat.reduceEqDiff, reduceIte, reduceCtorEq, Nat.reduceLeDiff, Nat.reduceSub, List.reduceReplicate, Nat.reduceMul, Int.reduceToNat, Nat.reducePow]; (repeat refine ⟨by first | omega | decide | ((repeat' apply And.intro) <;> first | omega | decide), ?_⟩); refine hK _ ?_; clear hK K
   (repeat first | refine qK ?_ | refine qG ?_ | refine qH ?_ | refine qF rfl ?_ | refine qL ?_ | refine qB ?_ | refine qE ?_ | refine qA ?_ | refine qC ?_ | refine qT ?_ | refine qW ?_)
   exact ⟨⟨u.extract n u.size, l ++ [u.extract 0 n]⟩, by simp only [qZ, qR, qP, qQ, qN, qS, qM, qX, qU, Nat.reduceEqDiff, reduceIte, lsE, strs_snoc]; try rfl, fin, by dsimp only; omega⟩
set_option maxHeartbeats 4000000 in
theorem count_H (s : ByteArray) (hs : s.size ≤ 4294967296) : HFun Try.prog 40 [.v (.string s)] (fun h st => h = .v (.int .i64 ((splS s).length : Nat))) := by
 have hc := splS_count s
 have hct := countTen_H s
 have hle : s.data.toList.count 10 ≤ s.size := by rw [← size_data]; exact List.count_le_length
 obtain ⟨c, hcc⟩ : ∃ c, c = s.data.toList.count 10 := ⟨_, rfl⟩
 rw [← hcc] at hc hct hle
 obtain ⟨n, hn⟩ : ∃ n, n = (splS s).length := ⟨_, rfl⟩
 rw [← hn] at hc ⊢
 refine hfun (N := 19) Try.func40 rfl Try.ntmps40 Try.results40 (by simp) ?_
 (repeat first | refine qE ?_ | refine qA ?_ | refine qC ?_ | refine qB ?_ | refine qD ?_); refine qJ (fun K hK => ?_); simp (maxSteps := 2000000) (disch := omega) only [push_cast, ↓Int.cast_ofNat_Int, Nat.reduceBEq, Nat.reduceAdd, Nat.reduceLT, Nat.reduceEqDiff, reduceIte, reduceCtorEq, Nat.reduceLeDiff, Nat.reduceSub, List.reduceReplicate, Nat.reduceMul, Int.reduceToNat, Nat.reducePow]; refine hK _ ?_; clear hK K
 (repeat first | refine qE ?_ | refine qA ?_ | refine qC ?_ | refine qB ?_ | refine qD ?_); refine qJ (fun K hK => ?_); simp (maxSteps := 2000000) (disch := omega) only [push_cast, ↓Int.cast_ofNat_Int, Nat.reduceBEq, Nat.reduceAdd, Nat.reduceLT, Nat.reduceEqDiff, reduceIte, reduceCtorEq, Nat.reduceLeDiff, Nat.reduceSub, List.reduceReplicate, Nat.reduceMul, Int.reduceToNat, Nat.reducePow]
 refine hatv cl65 hct (.cons (.v _) (.cons (.v _) .nil)) ?_
 with_reducible refine hstop ?_; simp (maxSteps := 2000000) (disch := omega) only [push_cast, ↓Int.cast_ofNat_Int, Nat.reduceBEq, Nat.reduceAdd, Nat.reduceLT, Nat.reduceEqDiff, reduceIte, reduceCtorEq, Nat.reduceLeDiff, Nat.reduceSub, List.reduceReplicate, Nat.reduceMul, Int.reduceToNat, Nat.reducePow]
 refine hK _ ?_; clear hK K
 by_cases h : s = ⟨#[]⟩
 ·have hd : decide (s = ⟨#[]⟩) = true := decide_eq_true h
  rw [if_neg (by simp [h])] at hc
  (repeat first | refine qE ?_ | refine qA ?_ | refine qC ?_ | refine qB ?_ | refine qD ?_); refine qJ (fun K hK => ?_); simp (maxSteps := 2000000) (disch := omega) only [push_cast, ↓Int.cast_ofNat_Int, Nat.reduceBEq, Nat.reduceAdd, Nat.reduceLT, Nat.reduceEqDiff, reduceIte, reduceCtorEq, Nat.reduceLeDiff, Nat.reduceSub, List.reduceReplicate, Nat.reduceMul, Int.reduceToNat, Nat.reducePow, hd]; refine hK _ ?_; clear hK K
  refine zC rfl ?_
  (repeat first | refine qK ?_ | refine qG ?_ | refine qH ?_ | refine qF rfl ?_ | refine qL ?_ | refine qB ?_ | refine qE ?_ | refine qA ?_ | refine qC ?_ | refine qT ?_ | refine qW ?_)
  (repeat first | refine qE ?_ | refine qA ?_ | refine qC ?_ | refine qB ?_ | refine qD ?_); refine qJ (fun K hK => ?_); simp (maxSteps := 2000000) (disch := omega) only [push_cast, ↓Int.cast_ofNat_Int, Nat.reduceBEq, Nat.reduceAdd, Nat.reduceLT, Nat.reduceEqDiff, reduceIte, reduceCtorEq, Nat.reduceLeDiff, Nat.reduceSub, List.reduceReplicate, Nat.reduceMul, Int.reduceToNat, Nat.reducePow]; refine hK _ ?_; clear hK K
  (repeat first | refine qK ?_ | refine qG ?_ | refine qH ?_ | refine qF rfl ?_ | refine qL ?_ | refine qB ?_ | refine qE ?_ | refine qA ?_ | refine qC ?_ | refine qT ?_ | refine qW ?_)
  simp only [zA, zM, zH, zE, zK, zJ, qS, qM, Nat.reduceEqDiff, reduceIte, reduceCtorEq]
  subst hc
  exact hres_v rfl
 ·have hd : decide (s = ⟨#[]⟩) = false := decide_eq_false h
  have hp : 0 < s.size := by
   rcases Nat.eq_zero_or_pos s.size with e | e
   ·exact absurd (by rw [← bs_list s, List.eq_nil_of_length_eq_zero ((size_data s).trans e)]; rfl) h
   ·exact e
  have e1 : ((s.size : Int) - 1).toNat = s.size - 1 := by omega
  by_cases hb : byteAt s (s.size - 1) = 10
  ·rw [if_neg (by simp [hb])] at hc
   (repeat first | refine qE ?_ | refine qA ?_ | refine qC ?_ | refine qB ?_ | refine qD ?_); refine qJ (fun K hK => ?_); simp (maxSteps := 2000000) (disch := omega) only [push_cast, ↓Int.cast_ofNat_Int, Nat.reduceBEq, Nat.reduceAdd, Nat.reduceLT, Nat.reduceEqDiff, reduceIte, reduceCtorEq, Nat.reduceLeDiff, Nat.reduceSub, List.reduceReplicate, Nat.reduceMul, Int.reduceToNat, Nat.reducePow, hd, e1, hb]; (repeat refine ⟨by first | omega | decide | ((repeat' apply And.intro) <;> first | omega | decide), ?_⟩); refine hK _ ?_; clear hK K
   refine zC rfl ?_
   (repeat first | refine qK ?_ | refine qG ?_ | refine qH ?_ | refine qF rfl ?_ | refine qL ?_ | refine qB ?_ | refine qE ?_ | refine qA ?_ | refine qC ?_ | refine qT ?_ | refine qW ?_)
   (repeat first | refine qE ?_ | refine qA ?_ | refine qC ?_ | refine qB ?_ | refine qD ?_); refine qJ (fun K hK => ?_); simp (maxSteps := 2000000) (disch := omega) only [push_cast, ↓Int.cast_ofNat_Int, Nat.reduceBEq, Nat.reduceAdd, Nat.reduceLT, Nat.reduceEqDiff, reduceIte, reduceCtorEq, Nat.reduceLeDiff, Nat.reduceSub, List.reduceReplicate, Nat.reduceMul, Int.reduceToNat, Nat.reducePow]; refine hK _ ?_; clear hK K
   (repeat first | refine qK ?_ | refine qG ?_ | refine qH ?_ | refine qF rfl ?_ | refine qL ?_ | refine qB ?_ | refine qE ?_ | refine qA ?_ | refine qC ?_ | refine qT ?_ | refine qW ?_)
   simp only [zA, zM, zH, zE, zK, zJ, qS, qM, Nat.reduceEqDiff, reduceIte, reduceCtorEq]
   subst hc
   exact hres_v rfl
  ·rw [if_pos ⟨h, hb⟩] at hc
   have e2 : decide (byteAt s (s.size - 1) = 10) = false := decide_eq_false hb
   (repeat first | refine qE ?_ | refine qA ?_ | refine qC ?_ | refine qB ?_ | refine qD ?_); refine qJ (fun K hK => ?_); simp (maxSteps := 2000000) (disch := omega) only [push_cast, ↓Int.cast_ofNat_Int, Nat.reduceBEq, Nat.reduceAdd, Nat.reduceLT, Nat.reduceEqDiff, reduceIte, reduceCtorEq, Nat.reduceLeDiff, Nat.reduceSub, List.reduceReplicate, Nat.reduceMul, Int.reduceToNat, Nat.reducePow, hd, e1, e2]; (repeat refine ⟨by first | omega | decide | ((repeat' apply And.intro) <;> first | omega | decide), ?_⟩); refine hK _ ?_; clear hK K
   refine zD rfl ?_
   (repeat first | refine qE ?_ | refine qA ?_ | refine qC ?_ | refine qB ?_ | refine qD ?_); refine qJ (fun K hK => ?_); simp (maxSteps := 2000000) (disch := omega) only [push_cast, ↓Int.cast_ofNat_Int, Nat.reduceBEq, Nat.reduceAdd, Nat.reduceLT, Nat.reduceEqDiff, reduceIte, reduceCtorEq, Nat.reduceLeDiff, Nat.reduceSub, List.reduceReplicate, Nat.reduceMul, Int.reduceToNat, Nat.reducePow]; refine hK _ ?_; clear hK K
   (repeat first | refine qK ?_ | refine qG ?_ | refine qH ?_ | refine qF rfl ?_ | refine qL ?_ | refine qB ?_ | refine qE ?_ | refine qA ?_ | refine qC ?_ | refine qT ?_ | refine qW ?_)
   (repeat first | refine qE ?_ | refine qA ?_ | refine qC ?_ | refine qB ?_ | refine qD ?_); refine qJ (fun K hK => ?_); simp (maxSteps := 2000000) (disch := omega) only [push_cast, ↓Int.cast_ofNat_Int, Nat.reduceBEq, Nat.reduceAdd, Nat.reduceLT, Nat.reduceEqDiff, reduceIte, reduceCtorEq, Nat.reduceLeDiff, Nat.reduceSub, List.reduceReplicate, Nat.reduceMul, Int.reduceToNat, Nat.reducePow]; refine hK _ ?_; clear hK K
   (repeat first | refine qK ?_ | refine qG ?_ | refine qH ?_ | refine qF rfl ?_ | refine qL ?_ | refine qB ?_ | refine qE ?_ | refine qA ?_ | refine qC ?_ | refine qT ?_ | refine qW ?_)
   simp only [zA, zM, zH, zE, zK, zJ, qS, qM, Nat.reduceEqDiff, reduceIte, reduceCtorEq]
   subst hc
   exact hres_v rfl
end Go.Proofs.Ytlfenddhppoflaa
