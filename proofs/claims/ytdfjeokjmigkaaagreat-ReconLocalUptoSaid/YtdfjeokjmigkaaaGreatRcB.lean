/-
  Recon: where two of the three trees are alike, one thing alone is said: plain.
-/
import Derived.Test.YtdfjeokjmigkaaaGreatRcv
import Derived.Test.YtdfjeokjmigkaaaGreatDk
import Derived.Test.YtdfjeokjmigkaaaGreatApe
section
set_option linter.unusedSimpArgs false
set_option linter.unusedVariables false
namespace Go.Eng
open Go Go.RowKit
section
variable {P : Program} {N : Nat} {c : Ctx} {S : HS} {look : Nat → Option Value} {w w' : World} {ρ : Nat → Value} {xs : Nat → List Value}
theorem qRe {f : FuncId} {args args' : List HV} {xs : List Value} {K : HV → HS → Prop} (hc : aD P f = true) (H : HFun P f args' (fun h st => h = .tup (xs.map .v))) (hl : Lends S.st args args') (hK : K (.tup (xs.map .v)) S) : HAt P f args S K :=
 ⟨hc, fun c look w ρ xs' vs G R => Ret.mono (H w vs (pB G R hl)) fun v w' ⟨B, h, st, h8, q, ρ', xs', G', hr⟩ => ⟨_, _, hK, ρ, _, G.below B, by subst q; exact hr.plain (.tup xs)⟩⟩
end
end Go.Eng
end
section
set_option linter.unusedSimpArgs false
set_option linter.unusedVariables false
set_option maxRecDepth 20000
namespace Go.Proofs.YtdfjeokjmigkaaaGreat
open Go Go.Eng Go.RowKit Go.Tr Go.Dk
theorem qCa : ∀ (l : List UInt8), (Lib.indexByte l 47 = -1 ∧ nU l = l.length) ∨ (Lib.indexByte l 47 = (nU l : Int) ∧ nU l < l.length)
 | [] => .inl ⟨rfl, rfl⟩
 | c :: r => by
  rw [Lib.indexByte, nU]
  by_cases h : c = 47
  ·subst h
   right
   simp
  ·have hc : (c == 47) = false := beq_eq_false_iff_ne.2 h
   rw [hc, if_neg h]
   rcases qCa r with ⟨a, b⟩ | ⟨a, b⟩
   ·left
    rw [a, b]
    exact ⟨rfl, by simp⟩
   ·right
    rw [a]
    have : ((nU r : Int) == -1) = false := beq_eq_false_iff_ne.2 (by omega)
    rw [this]
    simp only [Bool.false_eq_true, if_false, List.length_cons]
    exact ⟨rfl, by omega⟩
theorem zC3 {p : ByteArray} (h : Lib.indexByte p.data.toList 47 = -1) : vol p = p := by
 rcases qCa p.data.toList with ⟨a, b⟩ | ⟨a, b⟩
 ·rw [vol, b, ← Lib.size_eq]; exact ByteArray.extract_zero_size
 ·omega
def aft (p : ByteArray) : ByteArray := if nU p.data.toList < p.size then p.extract (nU p.data.toList + 1) p.size else { data := #[] }
def fnd (p : ByteArray) : Bool := decide (nU p.data.toList < p.size)
set_option maxHeartbeats 1000000 in
theorem zRk (s : ByteArray) (hs : s.size ≤ 1048576) : HFun Tryz.prog 55 [.v (.string s), .v (.string { data := #[47] })] (fun h st => h = .tup ([.string (vol s), .string (aft s), .bool (fnd s)].map .v)) := by
 refine fA (N := 23) Tryz.func55 rfl Tryz.ntmps55 Tryz.results55 (by simp) ?_
 have hc := zDg s
 unfold aft fnd
 rcases qCa s.data.toList with ⟨a, b⟩ | ⟨a, b⟩
 ·rw [a] at hc
  rw [← Lib.size_eq] at b
  refine zE ?_; refine zJ (fun K hK => ?_); simp (disch := omega) only [push_cast, ↓Int.cast_ofNat_Int, simprocAttr]; refine hK _ ?_; clear hK K
  refine zE ?_; refine zE ?_; refine zJ (fun K hK => ?_); simp (disch := omega) only [push_cast, ↓Int.cast_ofNat_Int, simprocAttr]
  refine bP zRm hc (.cons (.v _) (.cons (.v _) .nil)) ?_
  with_reducible refine aE ?_; simp (disch := omega) only [push_cast, ↓Int.cast_ofNat_Int, simprocAttr]
  refine hK _ ?_; clear hK K
  refine zE ?_; refine zJ (fun K hK => ?_); simp (disch := omega) only [push_cast, ↓Int.cast_ofNat_Int, simprocAttr]; refine hK _ ?_; clear hK K
  refine zA ?_
  refine yC rfl ?_
  refine zC ?_; refine zE ?_; refine zJ (fun K hK => ?_); simp (disch := omega) only [push_cast, ↓Int.cast_ofNat_Int, simprocAttr]; refine hK _ ?_; clear hK K
  refine zA ?_; refine zW ?_
  simp only [yA, yM, yH, yE, aA, aC, yK, yJ, zS, zM, Nat.reduceEqDiff, reduceIte, reduceCtorEq]
  refine jQ ?_
  rw [zC3 a, b]
  simp
 ·rw [a] at hc
  rw [← Lib.size_eq] at b
  obtain ⟨k, hk⟩ : ∃ k, nU s.data.toList = k := ⟨_, rfl⟩
  have hv : vol s = s.extract 0 k := by rw [vol, hk]
  rw [hk] at hc b ⊢
  rw [hv, if_pos b]
  refine zE ?_; refine zJ (fun K hK => ?_); simp (disch := omega) only [push_cast, ↓Int.cast_ofNat_Int, simprocAttr]; refine hK _ ?_; clear hK K
  refine zE ?_; refine zE ?_; refine zJ (fun K hK => ?_); simp (disch := omega) only [push_cast, ↓Int.cast_ofNat_Int, simprocAttr]
  refine bP zRm hc (.cons (.v _) (.cons (.v _) .nil)) ?_
  with_reducible refine aE ?_; simp (disch := omega) only [push_cast, ↓Int.cast_ofNat_Int, simprocAttr]
  refine hK _ ?_; clear hK K
  refine zE ?_; refine zJ (fun K hK => ?_); simp (disch := omega) only [push_cast, ↓Int.cast_ofNat_Int, simprocAttr]; refine hK _ ?_; clear hK K
  refine zA ?_
  refine gP rfl (fun _ => ?_) (fun hf => by simp at hf)
  refine zE ?_; refine HW_drw 10 mixed (by kernel_rfl) (fun K hK => ?_); simp (disch := omega) only [push_cast, ↓Int.cast_ofNat_Int, simprocAttr, xG]
  refine ⟨by omega, by omega, ?_⟩
  with_reducible refine aE ?_; simp (disch := omega) only [push_cast, ↓Int.cast_ofNat_Int, simprocAttr]
  refine hK _ ?_; clear hK K
  refine zA ?_; refine zW ?_; refine zK ?_
  simp only [yA, yM, yH, yE, aA, aC, yK, yJ, zS, zM, Nat.reduceEqDiff, reduceIte, reduceCtorEq]
  refine jQ ?_
  simp [b]
set_option maxHeartbeats 1000000 in
theorem zMj (s : ByteArray) (hs : s.size ≤ 1048576) : HFun Tryz.prog 39 [.v (.string s), .v (.string { data := #[47] })] (fun h st => h = .tup ([.string (vol s), .string (aft s), .bool (fnd s)].map .v)) := by
 refine fA (N := 13) Tryz.func39 rfl Tryz.ntmps39 Tryz.results39 (by simp) ?_
 refine zE ?_; refine zJ (fun K hK => ?_); simp (disch := omega) only [push_cast, ↓Int.cast_ofNat_Int, simprocAttr]; refine hK _ ?_; clear hK K
 refine zE ?_; refine zJ (fun K hK => ?_); simp (disch := omega) only [push_cast, ↓Int.cast_ofNat_Int, simprocAttr]
 refine qRe zTo (zRk s hs) (.cons (.v _) (.cons (.v _) .nil)) ?_
 with_reducible refine aE ?_; simp (disch := omega) only [push_cast, ↓Int.cast_ofNat_Int, simprocAttr]
 refine hK _ ?_; clear hK K
 refine zA ?_; refine zW ?_
 simp only [yA, yM, yH, yE, aA, aC, yK, yJ, zS, zM, Nat.reduceEqDiff, reduceIte, reduceCtorEq]
 exact jQ rfl
theorem mx {s : ByteArray} (h : s.size ≤ 1048576) : s.size ≤ maxLen := Nat.le_trans h (by decide)
end Go.Proofs.YtdfjeokjmigkaaaGreat
end
section
set_option linter.unusedSimpArgs false
set_option linter.unusedVariables false
namespace Go.Rc
open Go Go.Tr Go.Eng Go.Dk
def qJ (s : ByteArray) : ByteArray := if stroke.data.toList.isPrefixOf s.data.toList = true then s.extract 1 s.size else s
def jK (p top : ByteArray) : ByteArray := vol (qJ (p.extract top.size p.size))
def qB7 (a b : ByteArray) : ByteArray := if a = { data := #[] } then b else if b = { data := #[] } then a else a ++ stroke ++ b
def bN (top : ByteArray) (e : Ent) : Option ByteArray := if e.1 = top ∨ cF e.1 top = false ∨ jK e.1 top = { data := #[] } then none else some (qB7 top (jK e.1 top))
abbrev LN := List (ByteArray × Int)
def bF (top : ByteArray) (L : LN) (e : Ent) : LN := match bN top e with
 | some q => put q ((gL L q).getD 0 + 1) L
 | none => L
def fC (top : ByteArray) (es : List Ent) : LN := es.foldl (bF top) []
def fB (t : List Ent) (p : ByteArray) : List Ent := t.filter fun e => cF e.1 p
def fX (mg : (Int × ByteArray) → (Int × ByteArray) → (Int × ByteArray) → Bool) (r : ByteArray → LN) (A H S : List Ent) (p : ByteArray) : LN :=
 if fB H p = fB S p then (if fB A p = fB H p then [] else [(p, 1)])
 else if (iN H p).1 = 1 ∧ (iN S p).1 = 1 then (if (iN A p).1 = 1 then [] else [(p, 1)]) ++ r p
 else if fB H p = fB A p then [(p, 3)]
 else if fB S p = fB A p then [(p, 2)]
 else [(p, if mg (iN A p) (iN H p) (iN S p) = true then 4 else 5)]
def bE (mg : (Int × ByteArray) → (Int × ByteArray) → (Int × ByteArray) → Bool) (A H S : List Ent) : Nat → ByteArray → LN
 | 0, _ => []
 | k + 1, top => ((fC top (A ++ H ++ S)).map fun e => e.1).flatMap (fX mg (bE mg A H S k) A H S)
theorem qNc {top : ByteArray} {L : LN} {e : Ent} {q : ByteArray × Int} (h : q ∈ bF top L e) : q ∈ L ∨ bN top e = some q.1 := by
 unfold bF at h
 cases hn : bN top e with
 | none => rw [hn] at h; exact .inl h
 | some s =>
  rw [hn] at h
  rcases qGb h with rfl | h
  ·exact .inr rfl
  ·exact .inl h
theorem gZ {top : ByteArray} : ∀ (es : List Ent) (L : LN) {q : ByteArray × Int}, q ∈ es.foldl (bF top) L → q ∈ L ∨ ∃ e ∈ es, bN top e = some q.1
 | [], L, q, h => .inl h
 | e :: r, L, q, h => by
  rcases gZ r _ h with h | ⟨x, hx, hq⟩
  ·rcases qNc h with h | h
   ·exact .inl h
   ·exact .inr ⟨e, by simp, h⟩
  ·exact .inr ⟨x, by simp [hx], hq⟩
theorem qCg {top : ByteArray} : ∀ (es : List Ent) (L : LN), qFy L → qFy (es.foldl (bF top) L)
 | [], L, h => h
 | e :: r, L, h => by
  refine qCg r _ ?_
  unfold bF
  split
  ·exact qP2 _ _ h
  ·exact h
theorem qLc {top : ByteArray} : ∀ (es : List Ent) (L : LN), (es.foldl (bF top) L).length ≤ L.length + es.length
 | [], L => Nat.le_refl _
 | e :: r, L => by
  have h1 := qLc (top := top) r (bF top L e)
  have h2 : (bF top L e).length ≤ L.length + 1 := by
   have pl : ∀ (q : ByteArray) (x : Int) (L : LN), (put q x L).length ≤ L.length + 1 := by
    intro q x L
    induction L with
    | nil => exact Nat.le_refl _
    | cons y r ih =>
     obtain ⟨t, y⟩ := y
     rw [put]
     (repeat' split) <;> simp only [List.length_cons] <;> omega
   unfold bF
   split
   ·exact pl _ _ _
   ·omega
  simp only [List.foldl_cons, List.length_cons]
  omega
theorem zC4 (s : ByteArray) : (vol s).size ≤ s.size := by rw [vol, ByteArray.size_extract]; omega
theorem zNc {s : ByteArray} (h : ¬ s = { data := #[] }) : 0 < s.size := by
 rcases Nat.eq_zero_or_pos s.size with h0 | h0
 ·exact absurd (ByteArray.size_eq_zero_iff.1 h0) h
 ·exact h0
theorem tD {top q : ByteArray} {e : Ent} (h : bN top e = some q) : top.size < q.size ∧ q.size ≤ e.1.size := by
 unfold bN at h
 split at h
 ·cases h
 ·rename_i hn
  simp only [not_or, Option.some.injEq] at hn h
  obtain ⟨h1, h2, h3⟩ := hn
  have hu : cF e.1 top = true := by simpa using h2
  have hf := zNc h3
  have hv : (jK e.1 top).size ≤ (qJ (e.1.extract top.size e.1.size)).size := zC4 _
  have he : (e.1.extract top.size e.1.size).size = e.1.size - top.size := by rw [ByteArray.size_extract]; omega
  subst h
  unfold qB7
  by_cases ht : top = { data := #[] }
  ·rw [if_pos ht]
   subst ht
   have : (qJ (e.1.extract ({ data := #[] } : ByteArray).size e.1.size)).size ≤ (e.1.extract ({ data := #[] } : ByteArray).size e.1.size).size := by
    unfold qJ
    split
    ·rw [ByteArray.size_extract]; omega
    ·exact Nat.le_refl _
   have h0 : ({ data := #[] } : ByteArray).size = 0 := rfl
   rw [h0] at this he hv ⊢
   exact ⟨by omega, by omega⟩
  ·rw [if_neg ht, if_neg h3]
   -- behind the path stands a stroke
   have lU : (top ++ stroke).data.toList.isPrefixOf e.1.data.toList = true := by
    unfold cF at hu
    simp only [Bool.or_eq_true, decide_eq_true_eq] at hu
    rcases hu with (h | h) | h
    ·exact absurd h ht
    ·exact absurd h h1
    ·exact h
   obtain ⟨r, hr⟩ := List.isPrefixOf_iff_prefix.1 lU
   have hl : (top ++ stroke).data.toList.length = top.size + 1 := by
    have : (top ++ stroke).size = top.size + stroke.size := ByteArray.size_append
    rw [← Lib.size_eq, this]; rfl
   have hsz : top.size + 1 ≤ e.1.size := by
    have := congrArg List.length hr
    rw [List.length_append, hl] at this
    have := Lib.size_eq e.1
    omega
   have hst : stroke.data.toList.isPrefixOf (e.1.extract top.size e.1.size).data.toList = true := by
    rw [List.isPrefixOf_iff_prefix]
    refine ⟨r, ?_⟩
    have ed : (e.1.extract top.size e.1.size).data.toList = e.1.data.toList.drop top.size := by
     rw [ByteArray.data_extract, Array.toList_extract, List.extract_eq_take_drop, List.take_of_length_le]
     rw [List.length_drop, ← Lib.size_eq]; omega
    rw [ed, ← hr]
    have e1 : (top ++ stroke).data.toList = top.data.toList ++ stroke.data.toList := by simp
    rw [e1, List.append_assoc, List.drop_append_of_le_length (by rw [← Lib.size_eq]; omega), List.drop_of_length_le (by rw [← Lib.size_eq]; omega)]
    rfl
   have htr : (qJ (e.1.extract top.size e.1.size)).size = e.1.size - top.size - 1 := by
    unfold qJ
    rw [if_pos hst, ByteArray.size_extract]; omega
   have e3 : (top ++ stroke ++ jK e.1 top).size = top.size + 1 + (jK e.1 top).size := by
    rw [ByteArray.size_append, ByteArray.size_append]; rfl
   rw [e3]
   omega
end Go.Rc
end
section
set_option linter.unusedSimpArgs false
set_option linter.unusedVariables false
namespace Go.Rc
open Go Go.Tr Go.Eng Go.Dk
variable {mg : (Int × ByteArray) → (Int × ByteArray) → (Int × ByteArray) → Bool}
def qSr (n : Int) (L : LN) : Prop := ∀ x ∈ L, 0 ≤ x.2 ∧ x.2 ≤ n
theorem qHs {n : Int} {L : LN} (h : qSr n L) (hn : 0 ≤ n) (q : ByteArray) : 0 ≤ (gL L q).getD 0 ∧ (gL L q).getD 0 ≤ n := by
 cases e : gL L q with
 | none => exact ⟨Int.le_refl _, hn⟩
 | some v => exact h (q, v) (qEr e)
theorem qY5 {n : Int} {top : ByteArray} {L : LN} (e : Ent) (h : qSr n L) (hn : 0 ≤ n) : qSr (n + 1) (bF top L e) := by
 intro x hx
 unfold bF at hx
 cases hq : bN top e with
 | none => rw [hq] at hx; have := h x hx; omega
 | some q =>
  rw [hq] at hx
  rcases qGb hx with rfl | hx
  ·have := qHs h hn q
   exact ⟨by simp only; omega, by simp only; omega⟩
  ·have := h x hx; omega
theorem qUf {top : ByteArray} {es : List Ent} (h : ∀ e ∈ es, e.1.size ≤ top.size) : fC top es = [] := by
 cases hx : fC top es with
 | nil => rfl
 | cons q r =>
  rcases gZ es [] (q := q) (by rw [show es.foldl (bF top) [] = fC top es from rfl, hx]; simp) with h0 | ⟨e, he, hq⟩
  ·cases h0
  ·have := tD hq
   have := h e he
   omega
end Go.Rc
end
