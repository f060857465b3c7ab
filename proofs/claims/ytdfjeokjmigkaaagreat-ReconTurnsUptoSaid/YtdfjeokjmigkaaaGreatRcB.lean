/-
  Recon: where two of the three trees are alike, one thing alone is said: plain.
-/
import Derived.Test.YtdfjeokjmigkaaaGreatRcc
import Derived.Test.YtdfjeokjmigkaaaGreatDk
import Derived.Test.YtdfjeokjmigkaaaGreatTrD
section
set_option linter.unusedSimpArgs false
set_option linter.unusedVariables false
set_option maxRecDepth 20000
namespace Go.Proofs.YtdfjeokjmigkaaaGreat
open Go Go.Eng Go.RowKit Go.Tr Go.Dk
theorem qDa : ∀ (l : List UInt8), (Lib.indexByte l 47 = -1 ∧ mZ l = l.length) ∨ (Lib.indexByte l 47 = (mZ l : Int) ∧ mZ l < l.length)
 | [] => .inl ⟨rfl, rfl⟩
 | c :: r => by
  rw [Lib.indexByte, mZ]
  by_cases h : c = 47
  ·subst h
   right
   simp
  ·have hc : (c == 47) = false := beq_eq_false_iff_ne.2 h
   rw [hc, if_neg h]
   rcases qDa r with ⟨a, b⟩ | ⟨a, b⟩
   ·left
    rw [a, b]
    exact ⟨rfl, by simp⟩
   ·right
    rw [a]
    have : ((mZ r : Int) == -1) = false := beq_eq_false_iff_ne.2 (by omega)
    rw [this]
    simp only [Bool.false_eq_true, if_false, List.length_cons]
    exact ⟨rfl, by omega⟩
theorem zEr {p : ByteArray} (h : Lib.indexByte p.data.toList 47 = -1) : vol p = p := by
 rcases qDa p.data.toList with ⟨a, b⟩ | ⟨a, b⟩
 ·rw [vol, b, ← Lib.size_eq]; exact ByteArray.extract_zero_size
 ·omega
def aft (p : ByteArray) : ByteArray := if mZ p.data.toList < p.size then p.extract (mZ p.data.toList + 1) p.size else { data := #[] }
def fnd (p : ByteArray) : Bool := decide (mZ p.data.toList < p.size)
set_option maxHeartbeats 1000000 in
theorem zTf (s : ByteArray) (hs : s.size ≤ 1048576) : HFun Tryz.prog 55 [.v (.string s), .v (.string { data := #[47] })] (fun h st => h = .tup ([.string (vol s), .string (aft s), .bool (fnd s)].map .v)) := by
 refine eM (N := 23) Tryz.func55 rfl Tryz.ntmps55 Tryz.results55 (by simp) ?_
 have hc := zE5 s
 unfold aft fnd
 rcases qDa s.data.toList with ⟨a, b⟩ | ⟨a, b⟩
 ·rw [a] at hc
  rw [← Lib.size_eq] at b
  refine zE ?_; refine zJ (fun K hK => ?_); simp (disch := omega) only [push_cast, ↓Int.cast_ofNat_Int, simprocAttr]; refine hK _ ?_; clear hK K
  refine zE ?_; refine zE ?_; refine zJ (fun K hK => ?_); simp (disch := omega) only [push_cast, ↓Int.cast_ofNat_Int, simprocAttr]
  refine aY zTh hc (.cons (.v _) (.cons (.v _) .nil)) ?_
  with_reducible refine aC ?_; simp (disch := omega) only [push_cast, ↓Int.cast_ofNat_Int, simprocAttr]
  refine hK _ ?_; clear hK K
  refine zE ?_; refine zJ (fun K hK => ?_); simp (disch := omega) only [push_cast, ↓Int.cast_ofNat_Int, simprocAttr]; refine hK _ ?_; clear hK K
  refine zA ?_
  refine yC rfl ?_
  refine zC ?_; refine zE ?_; refine zJ (fun K hK => ?_); simp (disch := omega) only [push_cast, ↓Int.cast_ofNat_Int, simprocAttr]; refine hK _ ?_; clear hK K
  refine zA ?_; refine zW ?_
  simp only [yA, yM, yH, yE, aA, aD, yK, yJ, zS, zM, Nat.reduceEqDiff, reduceIte, reduceCtorEq]
  refine kP ?_
  rw [zEr a, b]
  simp
 ·rw [a] at hc
  rw [← Lib.size_eq] at b
  obtain ⟨k, hk⟩ : ∃ k, mZ s.data.toList = k := ⟨_, rfl⟩
  have hv : vol s = s.extract 0 k := by rw [vol, hk]
  rw [hk] at hc b ⊢
  rw [hv, if_pos b]
  refine zE ?_; refine zJ (fun K hK => ?_); simp (disch := omega) only [push_cast, ↓Int.cast_ofNat_Int, simprocAttr]; refine hK _ ?_; clear hK K
  refine zE ?_; refine zE ?_; refine zJ (fun K hK => ?_); simp (disch := omega) only [push_cast, ↓Int.cast_ofNat_Int, simprocAttr]
  refine aY zTh hc (.cons (.v _) (.cons (.v _) .nil)) ?_
  with_reducible refine aC ?_; simp (disch := omega) only [push_cast, ↓Int.cast_ofNat_Int, simprocAttr]
  refine hK _ ?_; clear hK K
  refine zE ?_; refine zJ (fun K hK => ?_); simp (disch := omega) only [push_cast, ↓Int.cast_ofNat_Int, simprocAttr]; refine hK _ ?_; clear hK K
  refine zA ?_
  refine eD rfl (fun _ => ?_) (fun hf => by simp at hf)
  refine zE ?_; refine HW_drw 10 mixed (by kernel_rfl) (fun K hK => ?_); simp (disch := omega) only [push_cast, ↓Int.cast_ofNat_Int, simprocAttr, qAm]
  refine ⟨by omega, by omega, ?_⟩
  with_reducible refine aC ?_; simp (disch := omega) only [push_cast, ↓Int.cast_ofNat_Int, simprocAttr]
  refine hK _ ?_; clear hK K
  refine zA ?_; refine zW ?_; refine zK ?_
  simp only [yA, yM, yH, yE, aA, aD, yK, yJ, zS, zM, Nat.reduceEqDiff, reduceIte, reduceCtorEq]
  refine kP ?_
  simp [b]
set_option maxHeartbeats 1000000 in
theorem zPd (s : ByteArray) (hs : s.size ≤ 1048576) : HFun Tryz.prog 39 [.v (.string s), .v (.string { data := #[47] })] (fun h st => h = .tup ([.string (vol s), .string (aft s), .bool (fnd s)].map .v)) := by
 refine eM (N := 13) Tryz.func39 rfl Tryz.ntmps39 Tryz.results39 (by simp) ?_
 refine zE ?_; refine zJ (fun K hK => ?_); simp (disch := omega) only [push_cast, ↓Int.cast_ofNat_Int, simprocAttr]; refine hK _ ?_; clear hK K
 refine zE ?_; refine zJ (fun K hK => ?_); simp (disch := omega) only [push_cast, ↓Int.cast_ofNat_Int, simprocAttr]
 refine qSv zVh (zTf s hs) (.cons (.v _) (.cons (.v _) .nil)) ?_
 with_reducible refine aC ?_; simp (disch := omega) only [push_cast, ↓Int.cast_ofNat_Int, simprocAttr]
 refine hK _ ?_; clear hK K
 refine zA ?_; refine zW ?_
 simp only [yA, yM, yH, yE, aA, aD, yK, yJ, zS, zM, Nat.reduceEqDiff, reduceIte, reduceCtorEq]
 exact kP rfl
theorem mx {s : ByteArray} (h : s.size ≤ 1048576) : s.size ≤ maxLen := Nat.le_trans h (by decide)
end Go.Proofs.YtdfjeokjmigkaaaGreat
end
section
set_option linter.unusedSimpArgs false
set_option linter.unusedVariables false
namespace Go.Rc
open Go Go.Tr Go.Eng Go.Dk
def rV (s : ByteArray) : ByteArray := if stroke.data.toList.isPrefixOf s.data.toList = true then s.extract 1 s.size else s
def iD (p top : ByteArray) : ByteArray := vol (rV (p.extract top.size p.size))
def qC8 (a b : ByteArray) : ByteArray := if a = { data := #[] } then b else if b = { data := #[] } then a else a ++ stroke ++ b
def bC (top : ByteArray) (e : Ent) : Option ByteArray := if e.1 = top ∨ bR e.1 top = false ∨ iD e.1 top = { data := #[] } then none else some (qC8 top (iD e.1 top))
abbrev LN := List (ByteArray × Int)
def bK (top : ByteArray) (L : LN) (e : Ent) : LN := match bC top e with
 | some q => put q ((iA L q).getD 0 + 1) L
 | none => L
def cG (top : ByteArray) (es : List Ent) : LN := es.foldl (bK top) []
def cP (t : List Ent) (p : ByteArray) : List Ent := t.filter fun e => bR e.1 p
def cK (mg : (Int × ByteArray) → (Int × ByteArray) → (Int × ByteArray) → Bool) (r : ByteArray → LN) (A H S : List Ent) (p : ByteArray) : LN :=
 if cP H p = cP S p then (if cP A p = cP H p then [] else [(p, 1)])
 else if (eF H p).1 = 1 ∧ (eF S p).1 = 1 then (if (eF A p).1 = 1 then [] else [(p, 1)]) ++ r p
 else if cP H p = cP A p then [(p, 3)]
 else if cP S p = cP A p then [(p, 2)]
 else [(p, if mg (eF A p) (eF H p) (eF S p) = true then 4 else 5)]
def aL (mg : (Int × ByteArray) → (Int × ByteArray) → (Int × ByteArray) → Bool) (A H S : List Ent) : Nat → ByteArray → LN
 | 0, _ => []
 | k + 1, top => ((cG top (A ++ H ++ S)).map fun e => e.1).flatMap (cK mg (aL mg A H S k) A H S)
theorem qPt {top : ByteArray} {L : LN} {e : Ent} {q : ByteArray × Int} (h : q ∈ bK top L e) : q ∈ L ∨ bC top e = some q.1 := by
 unfold bK at h
 cases hn : bC top e with
 | none => rw [hn] at h; exact .inl h
 | some s =>
  rw [hn] at h
  rcases qHb h with rfl | h
  ·exact .inr rfl
  ·exact .inl h
theorem dG {top : ByteArray} : ∀ (es : List Ent) (L : LN) {q : ByteArray × Int}, q ∈ es.foldl (bK top) L → q ∈ L ∨ ∃ e ∈ es, bC top e = some q.1
 | [], L, q, h => .inl h
 | e :: r, L, q, h => by
  rcases dG r _ h with h | ⟨x, hx, hq⟩
  ·rcases qPt h with h | h
   ·exact .inl h
   ·exact .inr ⟨e, by simp, h⟩
  ·exact .inr ⟨x, by simp [hx], hq⟩
theorem qY {top : ByteArray} : ∀ (es : List Ent) (L : LN), qGy L → qGy (es.foldl (bK top) L)
 | [], L, h => h
 | e :: r, L, h => by
  refine qY r _ ?_
  unfold bK
  split
  ·exact qRg _ _ h
  ·exact h
theorem qMm {top : ByteArray} : ∀ (es : List Ent) (L : LN), (es.foldl (bK top) L).length ≤ L.length + es.length
 | [], L => Nat.le_refl _
 | e :: r, L => by
  have h1 := qMm (top := top) r (bK top L e)
  have h2 : (bK top L e).length ≤ L.length + 1 := by
   have pl : ∀ (q : ByteArray) (x : Int) (L : LN), (put q x L).length ≤ L.length + 1 := by
    intro q x L
    induction L with
    | nil => exact Nat.le_refl _
    | cons y r ih =>
     obtain ⟨t, y⟩ := y
     rw [put]
     (repeat' split) <;> simp only [List.length_cons] <;> omega
   unfold bK
   split
   ·exact pl _ _ _
   ·omega
  simp only [List.foldl_cons, List.length_cons]
  omega
theorem zEs (s : ByteArray) : (vol s).size ≤ s.size := by rw [vol, ByteArray.size_extract]; omega
theorem zP7 {s : ByteArray} (h : ¬ s = { data := #[] }) : 0 < s.size := by
 rcases Nat.eq_zero_or_pos s.size with h0 | h0
 ·exact absurd (ByteArray.size_eq_zero_iff.1 h0) h
 ·exact h0
theorem fF {top q : ByteArray} {e : Ent} (h : bC top e = some q) : top.size < q.size ∧ q.size ≤ e.1.size := by
 unfold bC at h
 split at h
 ·cases h
 ·rename_i hn
  simp only [not_or, Option.some.injEq] at hn h
  obtain ⟨h1, h2, h3⟩ := hn
  have hu : bR e.1 top = true := by simpa using h2
  have hf := zP7 h3
  have hv : (iD e.1 top).size ≤ (rV (e.1.extract top.size e.1.size)).size := zEs _
  have he : (e.1.extract top.size e.1.size).size = e.1.size - top.size := by rw [ByteArray.size_extract]; omega
  subst h
  unfold qC8
  by_cases ht : top = { data := #[] }
  ·rw [if_pos ht]
   subst ht
   have : (rV (e.1.extract ({ data := #[] } : ByteArray).size e.1.size)).size ≤ (e.1.extract ({ data := #[] } : ByteArray).size e.1.size).size := by
    unfold rV
    split
    ·rw [ByteArray.size_extract]; omega
    ·exact Nat.le_refl _
   have h0 : ({ data := #[] } : ByteArray).size = 0 := rfl
   rw [h0] at this he hv ⊢
   exact ⟨by omega, by omega⟩
  ·rw [if_neg ht, if_neg h3]
   -- behind the path stands a stroke
   have mX : (top ++ stroke).data.toList.isPrefixOf e.1.data.toList = true := by
    unfold bR at hu
    simp only [Bool.or_eq_true, decide_eq_true_eq] at hu
    rcases hu with (h | h) | h
    ·exact absurd h ht
    ·exact absurd h h1
    ·exact h
   obtain ⟨r, hr⟩ := List.isPrefixOf_iff_prefix.1 mX
   have hl : (top ++ stroke).data.toList.length = top.size + 1 := by
    have : (top ++ stroke).size = top.size + stroke.size := ByteArray.size_append
    rw [← Lib.size_eq, this]; rfl
   have hsz : top.size + 1 ≤ e.1.size := by
    have := congrArg List.length hr
    rw [List.length_append, hl] at this
    have := Lib.size_eq e.1
    omega
   have hst : stroke.data.toList.isPrefixOf (e.1.extract top.size e.1.size).data.toList = true := by
    rw [List.isPrefixOf_iff_prefix]
    refine ⟨r, ?_⟩
    have ed : (e.1.extract top.size e.1.size).data.toList = e.1.data.toList.drop top.size := by
     rw [ByteArray.data_extract, Array.toList_extract, List.extract_eq_take_drop, List.take_of_length_le]
     rw [List.length_drop, ← Lib.size_eq]; omega
    rw [ed, ← hr]
    have e1 : (top ++ stroke).data.toList = top.data.toList ++ stroke.data.toList := by simp
    rw [e1, List.append_assoc, List.drop_append_of_le_length (by rw [← Lib.size_eq]; omega), List.drop_of_length_le (by rw [← Lib.size_eq]; omega)]
    rfl
   have htr : (rV (e.1.extract top.size e.1.size)).size = e.1.size - top.size - 1 := by
    unfold rV
    rw [if_pos hst, ByteArray.size_extract]; omega
   have e3 : (top ++ stroke ++ iD e.1 top).size = top.size + 1 + (iD e.1 top).size := by
    rw [ByteArray.size_append, ByteArray.size_append]; rfl
   rw [e3]
   omega
end Go.Rc
end
section
set_option linter.unusedSimpArgs false
set_option linter.unusedVariables false
namespace Go.Rc
open Go Go.Tr Go.Eng Go.Dk
variable {mg : (Int × ByteArray) → (Int × ByteArray) → (Int × ByteArray) → Bool}
def qT7 (n : Int) (L : LN) : Prop := ∀ x ∈ L, 0 ≤ x.2 ∧ x.2 ≤ n
theorem qJv {n : Int} {L : LN} (h : qT7 n L) (hn : 0 ≤ n) (q : ByteArray) : 0 ≤ (iA L q).getD 0 ∧ (iA L q).getD 0 ≤ n := by
 cases e : iA L q with
 | none => exact ⟨Int.le_refl _, hn⟩
 | some v => exact h (q, v) (qFs e)
theorem zAv {n : Int} {top : ByteArray} {L : LN} (e : Ent) (h : qT7 n L) (hn : 0 ≤ n) : qT7 (n + 1) (bK top L e) := by
 intro x hx
 unfold bK at hx
 cases hq : bC top e with
 | none => rw [hq] at hx; have := h x hx; omega
 | some q =>
  rw [hq] at hx
  rcases qHb hx with rfl | hx
  ·have := qJv h hn q
   exact ⟨by simp only; omega, by simp only; omega⟩
  ·have := h x hx; omega
theorem qVx {top : ByteArray} {es : List Ent} (h : ∀ e ∈ es, e.1.size ≤ top.size) : cG top es = [] := by
 cases hx : cG top es with
 | nil => rfl
 | cons q r =>
  rcases dG es [] (q := q) (by rw [show es.foldl (bK top) [] = cG top es from rfl, hx]; simp) with h0 | ⟨e, he, hq⟩
  ·cases h0
  ·have := fF hq
   have := h e he
   omega
end Go.Rc
end
