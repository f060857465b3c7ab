/-
  Recon: the names below a path, what is said of them: plain.
-/
import Derived.Test.YtdfjeokjmigkaaaGreatDk
import Derived.Test.YtdfjeokjmigkaaaGreatTrD
set_option linter.unusedSimpArgs false
set_option linter.unusedVariables false
namespace Go.Rc
open Go Go.Tr Go.Eng Go.Dk
def trimS (s : ByteArray) : ByteArray := if stroke.data.toList.isPrefixOf s.data.toList = true then s.extract 1 s.size else s
def firstP (p top : ByteArray) : ByteArray := vol (trimS (p.extract top.size p.size))
def joinP (a b : ByteArray) : ByteArray := if a = { data := #[] } then b else if b = { data := #[] } then a else a ++ stroke ++ b
def nameOf (top : ByteArray) (e : Ent) : Option ByteArray := if e.1 = top ∨ undr e.1 top = false ∨ firstP e.1 top = { data := #[] } then none else some (joinP top (firstP e.1 top))
abbrev LN := List (ByteArray × Int)
def nameStep (top : ByteArray) (L : LN) (e : Ent) : LN := match nameOf top e with
 | some q => put q ((lookD L q).getD 0 + 1) L
 | none => L
def namesG (top : ByteArray) (es : List Ent) : LN := es.foldl (nameStep top) []
def subE (t : List Ent) (p : ByteArray) : List Ent := t.filter fun e => undr e.1 p
def weighG (mg : (Int × ByteArray) → (Int × ByteArray) → (Int × ByteArray) → Bool) (r : ByteArray → LN) (A H S : List Ent) (p : ByteArray) : LN :=
 if subE H p = subE S p then (if subE A p = subE H p then [] else [(p, 1)])
 else if (getN H p).1 = 1 ∧ (getN S p).1 = 1 then (if (getN A p).1 = 1 then [] else [(p, 1)]) ++ r p
 else if subE H p = subE A p then [(p, 3)]
 else if subE S p = subE A p then [(p, 2)]
 else [(p, if mg (getN A p) (getN H p) (getN S p) = true then 4 else 5)]
def belowG (mg : (Int × ByteArray) → (Int × ByteArray) → (Int × ByteArray) → Bool) (A H S : List Ent) : Nat → ByteArray → LN
 | 0, _ => []
 | k + 1, top => ((namesG top (A ++ H ++ S)).map fun e => e.1).flatMap (weighG mg (belowG mg A H S k) A H S)
theorem nameStep_mem {top : ByteArray} {L : LN} {e : Ent} {q : ByteArray × Int} (h : q ∈ nameStep top L e) : q ∈ L ∨ nameOf top e = some q.1 := by
 unfold nameStep at h
 cases hn : nameOf top e with
 | none => rw [hn] at h; exact .inl h
 | some s =>
  rw [hn] at h
  rcases mem_put h with rfl | h
  ·exact .inr rfl
  ·exact .inl h
theorem names_mem {top : ByteArray} : ∀ (es : List Ent) (L : LN) {q : ByteArray × Int}, q ∈ es.foldl (nameStep top) L → q ∈ L ∨ ∃ e ∈ es, nameOf top e = some q.1
 | [], L, q, h => .inl h
 | e :: r, L, q, h => by
  rcases names_mem r _ h with h | ⟨x, hx, hq⟩
  ·rcases nameStep_mem h with h | h
   ·exact .inl h
   ·exact .inr ⟨e, by simp, h⟩
  ·exact .inr ⟨x, by simp [hx], hq⟩
theorem names_rise {top : ByteArray} : ∀ (es : List Ent) (L : LN), Rise L → Rise (es.foldl (nameStep top) L)
 | [], L, h => h
 | e :: r, L, h => by
  refine names_rise r _ ?_
  unfold nameStep
  split
  ·exact rise_put _ _ h
  ·exact h
theorem names_len {top : ByteArray} : ∀ (es : List Ent) (L : LN), (es.foldl (nameStep top) L).length ≤ L.length + es.length
 | [], L => Nat.le_refl _
 | e :: r, L => by
  have h1 := names_len (top := top) r (nameStep top L e)
  have h2 : (nameStep top L e).length ≤ L.length + 1 := by
   have pl : ∀ (q : ByteArray) (x : Int) (L : LN), (put q x L).length ≤ L.length + 1 := by
    intro q x L
    induction L with
    | nil => exact Nat.le_refl _
    | cons y r ih =>
     obtain ⟨t, y⟩ := y
     rw [put]
     (repeat' split) <;> simp only [List.length_cons] <;> omega
   unfold nameStep
   split
   ·exact pl _ _ _
   ·omega
  simp only [List.foldl_cons, List.length_cons]
  omega
theorem vol_le (s : ByteArray) : (vol s).size ≤ s.size := by rw [vol, ByteArray.size_extract]; omega
theorem ne_pos {s : ByteArray} (h : ¬ s = { data := #[] }) : 0 < s.size := by
 rcases Nat.eq_zero_or_pos s.size with h0 | h0
 ·exact absurd (ByteArray.size_eq_zero_iff.1 h0) h
 ·exact h0
theorem name_size {top q : ByteArray} {e : Ent} (h : nameOf top e = some q) : top.size < q.size ∧ q.size ≤ e.1.size := by
 unfold nameOf at h
 split at h
 ·cases h
 ·rename_i hn
  simp only [not_or, Option.some.injEq] at hn h
  obtain ⟨h1, h2, h3⟩ := hn
  have hu : undr e.1 top = true := by simpa using h2
  have hf := ne_pos h3
  have hv : (firstP e.1 top).size ≤ (trimS (e.1.extract top.size e.1.size)).size := vol_le _
  have he : (e.1.extract top.size e.1.size).size = e.1.size - top.size := by rw [ByteArray.size_extract]; omega
  subst h
  unfold joinP
  by_cases ht : top = { data := #[] }
  ·rw [if_pos ht]
   subst ht
   have : (trimS (e.1.extract ({ data := #[] } : ByteArray).size e.1.size)).size ≤ (e.1.extract ({ data := #[] } : ByteArray).size e.1.size).size := by
    unfold trimS
    split
    ·rw [ByteArray.size_extract]; omega
    ·exact Nat.le_refl _
   have h0 : ({ data := #[] } : ByteArray).size = 0 := rfl
   rw [h0] at this he hv ⊢
   exact ⟨by omega, by omega⟩
  ·rw [if_neg ht, if_neg h3]
   -- behind the path stands a stroke
   have hpre : (top ++ stroke).data.toList.isPrefixOf e.1.data.toList = true := by
    unfold undr at hu
    simp only [Bool.or_eq_true, decide_eq_true_eq] at hu
    rcases hu with (h | h) | h
    ·exact absurd h ht
    ·exact absurd h h1
    ·exact h
   obtain ⟨r, hr⟩ := List.isPrefixOf_iff_prefix.1 hpre
   have hl : (top ++ stroke).data.toList.length = top.size + 1 := by
    have : (top ++ stroke).size = top.size + stroke.size := ByteArray.size_append
    rw [← Lib.size_eq, this]; rfl
   have hsz : top.size + 1 ≤ e.1.size := by
    have := congrArg List.length hr
    rw [List.length_append, hl] at this
    have := Lib.size_eq e.1
    omega
   have hst : stroke.data.toList.isPrefixOf (e.1.extract top.size e.1.size).data.toList = true := by
    rw [List.isPrefixOf_iff_prefix]
    refine ⟨r, ?_⟩
    have ed : (e.1.extract top.size e.1.size).data.toList = e.1.data.toList.drop top.size := by
     rw [ByteArray.data_extract, Array.toList_extract, List.extract_eq_take_drop, List.take_of_length_le]
     rw [List.length_drop, ← Lib.size_eq]; omega
    rw [ed, ← hr]
    have e1 : (top ++ stroke).data.toList = top.data.toList ++ stroke.data.toList := by simp
    rw [e1, List.append_assoc, List.drop_append_of_le_length (by rw [← Lib.size_eq]; omega), List.drop_of_length_le (by rw [← Lib.size_eq]; omega)]
    rfl
   have htr : (trimS (e.1.extract top.size e.1.size)).size = e.1.size - top.size - 1 := by
    unfold trimS
    rw [if_pos hst, ByteArray.size_extract]; omega
   have e3 : (top ++ stroke ++ firstP e.1 top).size = top.size + 1 + (firstP e.1 top).size := by
    rw [ByteArray.size_append, ByteArray.size_append]; rfl
   rw [e3]
   omega
end Go.Rc
