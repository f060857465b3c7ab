/-
  Lines: what they are; the walk of lines.Split.
-/
import Derived.Test.YtdfjeokjmigkaaaGreatCln
import Derived.Test.YtdfjeokjmigkaaaGreatJoin
set_option linter.unusedSimpArgs false
set_option linter.unusedVariables false
set_option maxRecDepth 20000
namespace Go.Proofs.YtdfjeokjmigkaaaGreat
open Go Go.Eng Go.RowKit
def spl : List UInt8 → List (List UInt8)
 | [] => []
 | b :: l => if b = 10 then [b] :: spl l else match spl l with
  | [] => [[b]]
  | x :: r => (b :: x) :: r
def bs (l : List UInt8) : ByteArray := ⟨l.toArray⟩
def dB (s : ByteArray) : List ByteArray := (spl s.data.toList).map bs
theorem tT (s : ByteArray) : bs s.data.toList = s := by
 apply ByteArray.ext; apply Array.toList_inj.1; simp [bs]
theorem zKq (p q : List UInt8) (h : ∀ b ∈ p, b ≠ 10) : spl (p ++ 10 :: q) = (p ++ [10]) :: spl q := by
 induction p with
 | nil => simp [spl]
 | cons b p ih =>
  rw [List.cons_append, spl, if_neg (h b (by simp)), ih (fun x hx => h x (by simp [hx]))]
  rfl
theorem zKo (p : List UInt8) (h : ∀ b ∈ p, b ≠ 10) (hne : p ≠ []) : spl p = [p] := by
 induction p with
 | nil => exact absurd rfl hne
 | cons b p ih =>
  rw [spl, if_neg (h b (by simp))]
  cases p with
  | nil => rfl
  | cons c r => rw [ih (fun x hx => h x (by simp [hx])) (by simp)]
theorem zCj (l : List UInt8) : (Lib.indexByte l 10 = -1 ∧ ∀ b ∈ l, b ≠ 10) ∨ ∃ p q, l = p ++ 10 :: q ∧ (∀ b ∈ p, b ≠ 10) ∧ Lib.indexByte l 10 = p.length := by
 induction l with
 | nil => exact .inl ⟨rfl, by simp⟩
 | cons b l ih =>
  rw [Lib.indexByte]
  by_cases e : b = 10
  ·subst e; exact .inr ⟨[], l, rfl, by simp, by simp⟩
  ·rw [if_neg (by simpa using e)]
   rcases ih with ⟨h1, h2⟩ | ⟨p, q, rfl, h2, h3⟩
   ·left
    rw [h1]
    exact ⟨rfl, fun x hx => by rcases List.mem_cons.1 hx with rfl | hx; exact e; exact h2 x hx⟩
   ·right
    refine ⟨b :: p, q, rfl, fun x hx => by rcases List.mem_cons.1 hx with rfl | hx; exact e; exact h2 x hx, ?_⟩
    rw [h3, if_neg (by simp)]
    simp
theorem qEy (s : ByteArray) (a b : Nat) : (s.extract a b).data.toList = (s.data.toList.take b).drop a := by
 rw [ByteArray.data_extract, Array.toList_extract, List.extract_eq_take_drop, List.drop_take]
theorem qD (s : ByteArray) : s.data.toList.length = s.size := by rw [Array.length_toList]; rfl
theorem zA0 (u : ByteArray) (h : u ≠ ⟨#[]⟩) : ∃ n : Nat, 1 ≤ n ∧ n ≤ u.size ∧ (Lib.indexByte u.data.toList 10 + 1 = 0 ∧ n = u.size ∨ Lib.indexByte u.data.toList 10 + 1 = (n : Int)) ∧ dB u = u.extract 0 n :: dB (u.extract n u.size) := by
 have hs := qD u
 rcases zCj u.data.toList with ⟨h1, h2⟩ | ⟨p, q, h1, h2, h3⟩
 ·have hne : u.data.toList ≠ [] := fun e => h (by rw [← tT u, e]; rfl)
  have hpos : 0 < u.data.toList.length := List.length_pos_iff.2 hne
  refine ⟨u.size, by omega, Nat.le_refl _, .inl ⟨by omega, rfl⟩, ?_⟩
  have e1 : u.extract 0 u.size = u := by rw [← tT (u.extract 0 u.size), qEy, List.take_of_length_le (by omega), List.drop_zero, tT]
  have e2 : dB (u.extract u.size u.size) = [] := by unfold dB; rw [qEy, List.drop_eq_nil_of_le (by simp)]; rfl
  rw [e1, e2]
  unfold dB
  rw [zKo _ h2 hne, List.map_cons, List.map_nil, tT]
 ·have hl : u.size = p.length + 1 + q.length := by rw [← hs, h1]; simp; omega
  refine ⟨p.length + 1, by omega, by omega, .inr (by omega), ?_⟩
  unfold dB
  rw [qEy, h1, zKq p q h2, List.map_cons]
  congr 1
  ·rw [← tT (u.extract 0 (p.length + 1)), qEy, h1, List.drop_zero]
   congr 1
   rw [List.take_append, List.take_of_length_le (by omega)]; simp
  ·congr 2
   rw [List.take_of_length_le (by simp; omega), List.drop_append, List.drop_eq_nil_of_le (by omega)]; simp
theorem zKp (l : List UInt8) : (spl l).length ≤ l.length := by
 induction l with
 | nil => simp [spl]
 | cons b l ih =>
  rw [spl]
  split
  ·simpa using ih
  ·split
   ·simp
   ·rename_i x r e; rw [e] at ih; simp at ih ⊢; omega
theorem zE4 (s : ByteArray) : (dB s).length ≤ s.size := by
 unfold dB; rw [List.length_map, ← qD]; exact zKp _
theorem qWd (s : ByteArray) : HFun Tryz.prog 81 [.v (.string s), .v (.int .u8 10)] (fun h st => h = .v (.int .i64 (Lib.indexByte s.data.toList 10))) := by
 refine (vD fun w vs R => ?_).mono fun h st q => q.1
 obtain ⟨r1, r2⟩ := R
 match vs, r1 with
 | [a, b], _ =>
 have ha := aX (r2 0 (by simp) (by simp))
 have hb := aX (r2 1 (by simp) (by simp))
 simp only [List.getElem_cons_zero, List.getElem_cons_succ] at ha hb
 subst ha; subst hb
 refine (Tryz.strings_IndexByte s 10 w).mono ?_
 rintro e w' ⟨rfl, rfl⟩
 exact oY ⟨rfl, Below.refl _ _⟩
theorem qYm (s : ByteArray) : HFun Tryz.prog 108 [.v (.string s), .v (.string ⟨#[10]⟩)] (fun h st => h = .v (.int .i64 (s.data.toList.count 10 : Nat))) := by
 refine (vD fun w vs R => ?_).mono fun h st q => q.1
 obtain ⟨r1, r2⟩ := R
 match vs, r1 with
 | [a, b], _ =>
 have ha := aX (r2 0 (by simp) (by simp))
 have hb := aX (r2 1 (by simp) (by simp))
 simp only [List.getElem_cons_zero, List.getElem_cons_succ] at ha hb
 subst ha; subst hb
 refine (Tryz.strings_Count_one s 10 w).mono ?_
 rintro e w' ⟨rfl, rfl⟩
 exact oY ⟨rfl, Below.refl _ _⟩
def lG (l : List UInt8) : Bool := l.getLast? == some 10
theorem qUl (l : List UInt8) : Lib.hasSuffix l [10] = lG l := by
 unfold Lib.hasSuffix lG
 rcases List.eq_nil_or_concat l with rfl | ⟨p, b, rfl⟩
 ·rfl
 ·rw [Bool.eq_iff_iff, List.isSuffixOf_iff_suffix]
  simp only [List.concat_eq_append, List.getLast?_concat, List.getLast?_append, List.getLast?_singleton, Option.some_or, beq_iff_eq, Option.some.injEq]
  constructor
  ·rintro ⟨t, h⟩
   have := congrArg List.getLast? h
   simpa using this.symm
  ·rintro rfl
   exact ⟨p, rfl⟩
theorem qQz (s : ByteArray) (hs : s.size ≤ 9223372036854775807) : HFun Tryz.prog 69 [.v (.string s), .v (.string ⟨#[10]⟩)] (fun h st => h = .v (.bool (lG s.data.toList))) := by
 refine (vD fun w vs R => ?_).mono fun h st q => q.1
 obtain ⟨r1, r2⟩ := R
 match vs, r1 with
 | [a, b], _ =>
 have ha := aX (r2 0 (by simp) (by simp))
 have hb := aX (r2 1 (by simp) (by simp))
 simp only [List.getElem_cons_zero, List.getElem_cons_succ] at ha hb
 subst ha; subst hb
 refine (Tryz.strings_HasSuffix s ⟨#[10]⟩ w hs).mono ?_
 rintro e w' ⟨rfl, rfl⟩
 refine oY ⟨?_, Below.refl _ _⟩
 show Value.bool (Lib.hasSuffix s.data.toList [10]) = _
 rw [qUl]
theorem qZ9 (s : ByteArray) (i : Nat) (h : i < s.size) : ∃ b : UInt8, s.data.toList[i]? = some b ∧ fU s i = (b.toNat : Int) := by
 have h' : i < s.data.size := h
 refine ⟨s.data[i], by rw [Array.getElem?_toList, Array.getElem?_eq_getElem h'], ?_⟩
 unfold fU
 rw [Array.getD_eq_getD_getElem?, Array.getElem?_eq_getElem h']; rfl
theorem zKh (b : UInt8) : (b.toNat : Int) = 10 ↔ b = 10 := by
 constructor
 ·intro h; apply UInt8.toNat_inj.1; have e : (10 : UInt8).toNat = 10 := rfl; omega
 ·rintro rfl; rfl
theorem zAz (l : List UInt8) : (spl l).length = l.count 10 + (if l ≠ [] ∧ lG l = false then 1 else 0) := by
 induction l with
 | nil => rfl
 | cons b l ih =>
  have hend : ∀ c r, lG (b :: c :: r) = lG (c :: r) := fun c r => by simp [lG]
  rw [spl]
  by_cases e : b = 10
  ·subst e
   rw [if_pos rfl, List.length_cons, ih]
   cases l with
   | nil => rfl
   | cons c r => rw [hend, List.count_cons_self]; simp; omega
  ·rw [if_neg e, List.count_cons_of_ne (Ne.symm (Ne.symm e))]
   cases l with
   | nil => simp [spl, lG, e]
   | cons c r =>
    rw [hend]
    have : ∃ x y, spl (c :: r) = x :: y := by
     rw [spl]; split
     ·exact ⟨_, _, rfl⟩
     ·split <;> exact ⟨_, _, rfl⟩
    obtain ⟨x, y, hxy⟩ := this
    rw [hxy] at ih ⊢
    simp only [List.length_cons] at ih ⊢
    rw [ih]; simp
theorem zMz (s : ByteArray) (h : 0 < s.size) : lG s.data.toList = decide (fU s (s.size - 1) = 10) := by
 obtain ⟨b, b1, b2⟩ := qZ9 s (s.size - 1) (by omega)
 have hs := qD s
 rw [b2, lG, List.getLast?_eq_getElem?, hs, b1, Bool.eq_iff_iff, decide_eq_true_iff, zKh]
 simp
theorem qUn (s : ByteArray) : (dB s).length = s.data.toList.count 10 + (if s ≠ ⟨#[]⟩ ∧ fU s (s.size - 1) ≠ 10 then 1 else 0) := by
 unfold dB
 rw [List.length_map, zAz]
 congr 1
 by_cases h : s = ⟨#[]⟩
 ·subst h; rfl
 ·have hne : s.data.toList ≠ [] := fun e => h (by rw [← tT s, e]; rfl)
  have hp : 0 < s.size := by rw [← qD]; exact List.length_pos_iff.2 hne
  rw [zMz s hp]
  simp [h, hne]
def nl : ByteArray := ⟨#[10]⟩
def qKr (x : ByteArray) : ByteArray := if lG x.data.toList then x else x ++ nl
def iF (l : List ByteArray) : List ByteArray := match l.getLast? with
 | none => []
 | some x => l.set (l.length - 1) (qKr x)
theorem qGu (l : List ByteArray) : (iF l).length = l.length := by
 unfold iF
 split
 ·rename_i h; rw [List.getLast?_eq_none_iff.1 h]
 ·simp
def eG (s : ByteArray) : Int := if (∃ i, i < s.size ∧ fU s i = 0) then 21 else if 400 < (dB s).length then 4 else 0
theorem qM5 (s : ByteArray) : (gJ s).length = s.size := by simp [gJ]
theorem zEe (s : ByteArray) : Wid 1 (gJ s) = True := eq_true fun x hx => by
 simp only [gJ, List.mem_map] at hx; obtain ⟨b, -, rfl⟩ := hx; rfl
theorem zEf {s : ByteArray} {i : Nat} {d : List FV} (h : i < s.size) : (gJ s).getD i d = [.v (.int .u8 (fU s i))] := by
 obtain ⟨b, b1, b2⟩ := qZ9 s i h
 rw [b2, List.getD_eq_getElem?_getD, gJ, List.getElem?_map, b1]; rfl

structure LI where
 u : ByteArray
 l : List ByteArray
def lsE (k : LI) : HS := ⟨[(0, .v (.string k.u)), (3, .own 40)], [(40, .sl true 9 1 (aR k.l))]⟩
def lsI (s : ByteArray) (k : LI) : Prop := k.l.length + k.u.size ≤ s.size ∧ dB s = k.l ++ dB k.u
abbrev lsQ (s : ByteArray) (h : HV) (st : aB) : Prop := h = .own 0 ∧ st = [(0, .sl true 9 1 (aR (dB s)))]
set_option maxHeartbeats 4000000 in
theorem qNt (s : ByteArray) (hs : s.size ≤ 4294967296) : HFun Tryz.prog 64 [.v (.string s)] (lsQ s) := by
 refine eM (N := 25) Tryz.func64 rfl Tryz.ntmps64 Tryz.results64 (by simp) ?_
 refine zE ?_; refine zJ (fun K hK => ?_); simp (disch := omega) only [push_cast, ↓Int.cast_ofNat_Int, simprocAttr]; refine hK _ ?_; clear hK K
 refine zE ?_; refine zJ (fun K hK => ?_); simp (disch := omega) only [push_cast, ↓Int.cast_ofNat_Int, simprocAttr]; refine hK _ ?_; clear hK K
 refine zE ?_; refine zD ?_
 refine cQ lsE (lsI s) (fun k => k.u.size) [0, 3] [40] ⟨s, []⟩ (by simp only [zZ, zR, zP, zQ, zN, zS, zM, zX, zU, Nat.reduceEqDiff, reduceIte, lsE]; rfl) ⟨by simp, by simp⟩ ?_
 rintro ⟨u, l⟩ ⟨hl, hsp⟩
 dsimp only at hl hsp
 simp only [lsE]
 by_cases hu : u = ⟨#[]⟩
 ·have hd : decide (u = ⟨#[]⟩) = true := decide_eq_true hu
  refine zE ?_; refine zE ?_; refine zJ (fun K hK => ?_); simp (disch := omega) only [push_cast, ↓Int.cast_ofNat_Int, simprocAttr, hd]; refine hK _ ?_; clear hK K
  refine yC rfl ?_
  refine zT ?_; refine zG ?_; refine zG ?_; refine zH ?_; refine zE ?_
  refine zJ (fun K hK => ?_); simp (disch := omega) only [push_cast, ↓Int.cast_ofNat_Int, simprocAttr]; refine hK _ ?_; clear hK K
  refine zA ?_; refine zW ?_
  simp only [yA, yM, yH, yE, aA, aD, yK, yJ, zS, zM, Nat.reduceEqDiff, reduceIte, reduceCtorEq]
  have e : dB s = l := by rw [hsp, hu]; simp [dB, spl]
  exact xQ rfl (iY _) ⟨rfl, by rw [e]⟩
 ·have hd : decide (u = ⟨#[]⟩) = false := decide_eq_false hu
  obtain ⟨n, n1, n2, n3, n4⟩ := zA0 u hu
  have hi := qWd u
  obtain ⟨k, hk⟩ : ∃ k, k = Lib.indexByte u.data.toList 10 := ⟨_, rfl⟩
  rw [← hk] at hi n3
  refine zE ?_; refine zE ?_; refine zJ (fun K hK => ?_); simp (disch := omega) only [push_cast, ↓Int.cast_ofNat_Int, simprocAttr, hd]; refine hK _ ?_; clear hK K
  refine yD rfl ?_
  refine zC ?_; refine zA ?_; refine zD ?_; refine zE ?_
  refine zJ (fun K hK => ?_); simp (disch := omega) only [push_cast, ↓Int.cast_ofNat_Int, simprocAttr]
  refine aY zVb hi (.cons (.v _) (.cons (.v _) .nil)) ?_
  with_reducible refine aC ?_; simp (disch := omega) only [push_cast, ↓Int.cast_ofNat_Int, simprocAttr]
  refine hK _ ?_; clear hK K
  refine yB [0, 3, 4] [40] (by simp only [zZ, zR, zP, zQ, zN, zS, zM, zX, zU, Nat.reduceEqDiff, reduceIte]; exact rfl) ?_
  have hz : (u.extract n u.size).size = u.size - n := by rw [ByteArray.size_extract]; omega
  have fin : (l ++ [u.extract 0 n]).length + (u.extract n u.size).size ≤ s.size ∧ dB s = (l ++ [u.extract 0 n]) ++ dB (u.extract n u.size) := ⟨by rw [List.length_append, hz]; simp; omega, by rw [hsp, n4]; simp⟩
  rcases n3 with ⟨e1, e2⟩ | e1
  ·refine zE ?_; refine zE ?_; refine zJ (fun K hK => ?_); simp (disch := omega) only [push_cast, ↓Int.cast_ofNat_Int, simprocAttr, e1]; refine hK _ ?_; clear hK K
   refine yD rfl ?_
   refine zJ (fun K hK => ?_); simp (disch := omega) only [push_cast, ↓Int.cast_ofNat_Int, simprocAttr]; refine hK _ ?_; clear hK K
   rw [← e2]
   refine zE ?_
   refine zJ (fun K hK => ?_); simp (disch := omega) only [push_cast, ↓Int.cast_ofNat_Int, simprocAttr, aN]; (repeat refine ⟨by first | omega | decide | ((repeat' apply And.intro) <;> first | omega | decide), ?_⟩); refine hK _ ?_; clear hK K
   refine zA ?_; refine zJ (fun K hK => ?_); simp (disch := omega) only [push_cast, ↓Int.cast_ofNat_Int, simprocAttr]; (repeat refine ⟨by first | omega | decide | ((repeat' apply And.intro) <;> first | omega | decide), ?_⟩); refine hK _ ?_; clear hK K
   refine zB ?_; refine zA ?_
   exact ⟨⟨u.extract n u.size, l ++ [u.extract 0 n]⟩, by simp only [zZ, zR, zP, zQ, zN, zS, zM, zX, zU, Nat.reduceEqDiff, reduceIte, lsE, uK]; try rfl, fin, by dsimp only; omega⟩
  ·rw [e1]
   refine zE ?_; refine zE ?_; refine zJ (fun K hK => ?_); simp (disch := omega) only [push_cast, ↓Int.cast_ofNat_Int, simprocAttr]; refine hK _ ?_; clear hK K
   refine yC rfl ?_
   refine zC ?_; refine zE ?_
   refine zJ (fun K hK => ?_); simp (disch := omega) only [push_cast, ↓Int.cast_ofNat_Int, simprocAttr, aN]; (repeat refine ⟨by first | omega | decide | ((repeat' apply And.intro) <;> first | omega | decide), ?_⟩); refine hK _ ?_; clear hK K
   refine zA ?_; refine zJ (fun K hK => ?_); simp (disch := omega) only [push_cast, ↓Int.cast_ofNat_Int, simprocAttr]; (repeat refine ⟨by first | omega | decide | ((repeat' apply And.intro) <;> first | omega | decide), ?_⟩); refine hK _ ?_; clear hK K
   refine zB ?_; refine zA ?_
   exact ⟨⟨u.extract n u.size, l ++ [u.extract 0 n]⟩, by simp only [zZ, zR, zP, zQ, zN, zS, zM, zX, zU, Nat.reduceEqDiff, reduceIte, lsE, uK]; try rfl, fin, by dsimp only; omega⟩
set_option maxHeartbeats 4000000 in
theorem zGn (s : ByteArray) (hs : s.size ≤ 4294967296) : HFun Tryz.prog 80 [.v (.string s)] (fun h st => h = .v (.int .i64 ((dB s).length : Nat))) := by
 have hc := qUn s
 have hct := qYm s
 have hle : s.data.toList.count 10 ≤ s.size := by rw [← qD]; exact List.count_le_length
 obtain ⟨c, hcc⟩ : ∃ c, c = s.data.toList.count 10 := ⟨_, rfl⟩
 rw [← hcc] at hc hct hle
 obtain ⟨n, hn⟩ : ∃ n, n = (dB s).length := ⟨_, rfl⟩
 rw [← hn] at hc ⊢
 refine eM (N := 19) Tryz.func80 rfl Tryz.ntmps80 Tryz.results80 (by simp) ?_
 refine zE ?_; refine zJ (fun K hK => ?_); simp (disch := omega) only [push_cast, ↓Int.cast_ofNat_Int, simprocAttr]; refine hK _ ?_; clear hK K
 refine zE ?_; refine zJ (fun K hK => ?_); simp (disch := omega) only [push_cast, ↓Int.cast_ofNat_Int, simprocAttr]
 refine aY zTo hct (.cons (.v _) (.cons (.v _) .nil)) ?_
 with_reducible refine aC ?_; simp (disch := omega) only [push_cast, ↓Int.cast_ofNat_Int, simprocAttr]
 refine hK _ ?_; clear hK K
 by_cases h : s = ⟨#[]⟩
 ·have hd : decide (s = ⟨#[]⟩) = true := decide_eq_true h
  rw [if_neg (by simp [h])] at hc
  refine zE ?_; refine zE ?_; refine zJ (fun K hK => ?_); simp (disch := omega) only [push_cast, ↓Int.cast_ofNat_Int, simprocAttr, hd]; refine hK _ ?_; clear hK K
  refine yC rfl ?_
  refine zC ?_; refine zE ?_
  refine zJ (fun K hK => ?_); simp (disch := omega) only [push_cast, ↓Int.cast_ofNat_Int, simprocAttr]; refine hK _ ?_; clear hK K
  refine zA ?_; refine zW ?_
  simp only [yA, yM, yH, yE, aA, aD, yK, yJ, zS, zM, Nat.reduceEqDiff, reduceIte, reduceCtorEq]
  subst hc
  exact aM rfl
 ·have hd : decide (s = ⟨#[]⟩) = false := decide_eq_false h
  have hp : 0 < s.size := by
   rcases Nat.eq_zero_or_pos s.size with e | e
   ·exact absurd (by rw [← tT s, List.eq_nil_of_length_eq_zero ((qD s).trans e)]; rfl) h
   ·exact e
  have e1 : ((s.size : Int) - 1).toNat = s.size - 1 := by omega
  by_cases hb : fU s (s.size - 1) = 10
  ·rw [if_neg (by simp [hb])] at hc
   refine zE ?_; refine zE ?_; refine zJ (fun K hK => ?_); simp (disch := omega) only [push_cast, ↓Int.cast_ofNat_Int, simprocAttr, hd, e1, hb]; (repeat refine ⟨by first | omega | decide | ((repeat' apply And.intro) <;> first | omega | decide), ?_⟩); refine hK _ ?_; clear hK K
   refine yC rfl ?_
   refine zC ?_; refine zE ?_
   refine zJ (fun K hK => ?_); simp (disch := omega) only [push_cast, ↓Int.cast_ofNat_Int, simprocAttr]; refine hK _ ?_; clear hK K
   refine zA ?_; refine zW ?_
   simp only [yA, yM, yH, yE, aA, aD, yK, yJ, zS, zM, Nat.reduceEqDiff, reduceIte, reduceCtorEq]
   subst hc
   exact aM rfl
  ·rw [if_pos ⟨h, hb⟩] at hc
   have e2 : decide (fU s (s.size - 1) = 10) = false := decide_eq_false hb
   refine zE ?_; refine zE ?_; refine zJ (fun K hK => ?_); simp (disch := omega) only [push_cast, ↓Int.cast_ofNat_Int, simprocAttr, hd, e1, e2]; (repeat refine ⟨by first | omega | decide | ((repeat' apply And.intro) <;> first | omega | decide), ?_⟩); refine hK _ ?_; clear hK K
   refine yD rfl ?_
   refine zJ (fun K hK => ?_); simp (disch := omega) only [push_cast, ↓Int.cast_ofNat_Int, simprocAttr]; refine hK _ ?_; clear hK K
   refine zE ?_
   refine zJ (fun K hK => ?_); simp (disch := omega) only [push_cast, ↓Int.cast_ofNat_Int, simprocAttr]; refine hK _ ?_; clear hK K
   refine zA ?_; refine zW ?_
   simp only [yA, yM, yH, yE, aA, aD, yK, yJ, zS, zM, Nat.reduceEqDiff, reduceIte, reduceCtorEq]
   subst hc
   exact aM rfl
end Go.Proofs.YtdfjeokjmigkaaaGreat
