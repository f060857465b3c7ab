/-
  Plain: paths: names between strokes; parents; what lies eJ what.
-/
import Derived.Test.YtojolcpblacjjaaGreatDoorRows
import Derived.Test.YtojolcpblacjjaaGreatDoorGd
import Derived.JoinedCond
import Derived.Deep.CondSized
import GoSem.Op.String
import Derived.Lib.Bytealg
import Derived.Lib.SplitLaws
import Derived.Lib.IndexBytes
section
set_option linter.unusedVariables false
set_option linter.unusedSimpArgs false
namespace Go.Proofs.YtojolcpblacjjaaGreatDoor
open Go Go.Eng Go.RowKit Go.ChangeShapes Go.WideShapes Go.ChangeAt
theorem qVy {H : Type} : ∀ (l : List (DataW H)), Rows.uptoBulkAll l = (l.map Rows.uptoBulk).sum
 | [] => by simp [Rows.uptoBulkAll]
 | d :: r => by rw [Rows.uptoBulkAll, qVy r]; rfl
theorem zJi {H : Type} : ∀ (d : DataW H), 1 ≤ Rows.uptoBulk d := fun d => by
 cases d with
 | lit l => cases l <;> simp [Rows.uptoBulk]
 | _ => simp [Rows.uptoBulk]
theorem qT1 {H : Type} : Bulk (H := H) Rows.uptoBulk := by
 refine ⟨zJi, fun b => ?_, fun es rest => ?_, fun xs => ?_⟩
 ·rw [Rows.uptoBulk]; exact Nat.le_refl _
 ·rw [Rows.uptoBulk, qVy]; omega
 ·rw [Rows.uptoBulk, qVy]; omega
theorem zJj {H : Type} {ds gs : List (DataW H)} (hk : Rows.uptoSmall H (ds ++ gs) = true) : (ds.map Rows.uptoBulk).sum ≤ 1048576 := by
 have h : Rows.uptoBulkAll (ds ++ gs) ≤ 1048576 := of_decide_eq_true hk
 rw [qVy, List.map_append, List.sum_append] at h
 omega
theorem zCw (s : ByteArray) : fw (.v (.string s)) = s.size + 1 := by rw [fw]
end Go.Proofs.YtojolcpblacjjaaGreatDoor
end
section
set_option linter.unusedSimpArgs false
set_option linter.unusedVariables false
namespace Go.Tr
open Go
def blt (a b : ByteArray) : Bool := Op.bytesLess a.toList b.toList
theorem qRd : ∀ (a : List UInt8), Op.bytesLess a a = false
 | [] => rfl
 | x :: r => by simp [Op.bytesLess, qRd r]
theorem qF4 : ∀ {a b c : List UInt8}, Op.bytesLess a b = true → Op.bytesLess b c = true → Op.bytesLess a c = true
 | _, [], c, h, _ => by cases ‹List UInt8› <;> simp [Op.bytesLess] at h
 | _, _ :: _, [], _, h => by simp [Op.bytesLess] at h
 | [], _ :: _, _ :: _, _, _ => by simp [Op.bytesLess]
 | x :: a, y :: b, z :: c, h1, h2 => by
  simp only [Op.bytesLess, Bool.or_eq_true, decide_eq_true_eq, Bool.and_eq_true, beq_iff_eq] at h1 h2 ⊢
  rcases h1 with h1 | ⟨rfl, h1⟩
  ·rcases h2 with h2 | ⟨rfl, h2⟩
   ·exact .inl (UInt8.lt_trans h1 h2)
   ·exact .inl h1
  ·rcases h2 with h2 | ⟨rfl, h2⟩
   ·exact .inl h2
   ·exact .inr ⟨rfl, qF4 h1 h2⟩
theorem qRc : ∀ (a b : List UInt8), Op.bytesLess a b = true ∨ a = b ∨ Op.bytesLess b a = true
 | [], [] => .inr (.inl rfl)
 | [], _ :: _ => .inl rfl
 | _ :: _, [] => .inr (.inr rfl)
 | x :: a, y :: b => by
  simp only [Op.bytesLess, Bool.or_eq_true, decide_eq_true_eq, Bool.and_eq_true, beq_iff_eq]
  by_cases h : x = y
  ·subst h
   rcases qRc a b with h | rfl | h
   ·exact .inl (.inr ⟨rfl, h⟩)
   ·exact .inr (.inl rfl)
   ·exact .inr (.inr (.inr ⟨rfl, h⟩))
  ·have : x < y ∨ y < x := by
    rcases Nat.lt_trichotomy x.toNat y.toNat with h' | h' | h'
    ·exact .inl h'
    ·exact (h (UInt8.toNat_inj.1 h')).elim
    ·exact .inr h'
   rcases this with h' | h'
   ·exact .inl (.inl h')
   ·exact .inr (.inr (.inl h'))
theorem toList_inj {a b : ByteArray} (h : a.toList = b.toList) : a = b := by
 rw [Lib.toList_data, Lib.toList_data] at h
 cases a; cases b; simp only [ByteArray.mk.injEq]; exact Array.toList_inj.1 h
theorem kE (a : ByteArray) : blt a a = false := qRd _
theorem pQ {a b c : ByteArray} (h1 : blt a b = true) (h2 : blt b c = true) : blt a c = true := qF4 h1 h2
theorem qDt (a b : ByteArray) : blt a b = true ∨ a = b ∨ blt b a = true := by
 rcases qRc a.toList b.toList with h | h | h
 ·exact .inl h
 ·exact .inr (.inl (toList_inj h))
 ·exact .inr (.inr h)
theorem lY {a b : ByteArray} (h : blt a b = true) : blt b a = false := by
 cases e : blt b a with
 | false => rfl
 | true => exact absurd (pQ h e) (by rw [kE]; simp)
end Go.Tr
end
section
set_option linter.unusedSimpArgs false
set_option linter.unusedVariables false
namespace Go.Tr
open Go
abbrev Ent := ByteArray × Int × ByteArray
def rise (t : List Ent) : Prop := t.Pairwise fun a b => blt a.1 b.1 = true
def kJ (t : List Ent) (p : ByteArray) : Nat := t.countP fun e => blt e.1 p
def qP7 (t : List Ent) (p : ByteArray) : Bool := t.any fun e => decide (e.1 = p)
end Go.Tr
end
section
set_option linter.unusedSimpArgs false
set_option linter.unusedVariables false
namespace Go.Tr
open Go Go.Lib
def iP : List UInt8 → List (List UInt8)
 | [] => [[]]
 | c :: r => if c = 47 then [] :: iP r else match iP r with
  | h :: t => (c :: h) :: t
  | [] => [[c]]
theorem tQ (s : List UInt8) : iP s ≠ [] := by
 cases s with
 | nil => simp [iP]
 | cons c r =>
  rw [iP]
  split
  ·simp
  ·split <;> simp
theorem gH (r : List UInt8) : iP (47 :: r) = [] :: iP r := by rw [iP, if_pos rfl]
theorem iN {c : UInt8} (h : c ≠ 47) {r a : List UInt8} {t : List (List UInt8)} (e : iP r = a :: t) : iP (c :: r) = (c :: a) :: t := by rw [iP, if_neg h, e]
theorem xZ (c : UInt8) (l : List UInt8) : indexByte (c :: l) c = 0 := by simp [indexByte]
theorem qEe : ∀ (s : List UInt8), splitK [47] 0 (s.count 47) s = iP s
 | [] => rfl
 | c :: r => by
  have ih := qEe r
  by_cases h : c = 47
  ·subst h
   rw [List.count_cons_self, splitK, gH, ← ih]
   have : index (47 :: r) [47] = 0 := by rw [index_one]; exact xZ 47 r
   rw [this]
   simp
  ·rw [List.count_cons_of_ne h]
   cases hk : r.count 47 with
   | zero =>
    rw [hk, splitK] at ih
    rw [splitK, iN h ih.symm]
   | succ k =>
    rw [hk, splitK] at ih
    have hne : ¬ (index r [47] == -1) = true := fun e => by
     have := count_miss (beq_iff_eq.1 e)
     rw [count_one] at this; omega
    rw [if_neg hne] at ih
    have hge := index_ge r [47]
    have hne' : index r [47] ≠ -1 := fun e => hne (beq_iff_eq.2 e)
    have hc : index (c :: r) [47] = index r [47] + 1 := by
     rw [index_drop (i := 1) (s := c :: r) (fun j hj => by
      have : j = 0 := by omega
      subst this
      simp only [occAt, List.drop_zero, List.isPrefixOf, Bool.and_true, beq_eq_false_iff_ne, ne_eq]
      exact fun e => h e.symm) (by simp)]
     simp only [List.drop_succ_cons, List.drop_zero]
     rw [if_neg hne]; rfl
    obtain ⟨i, hi⟩ : ∃ i : Nat, index r [47] = i := ⟨(index r [47]).toNat, by omega⟩
    have e2 : index (c :: r) [47] = ((i + 1 : Nat) : Int) := by rw [hc, hi]; rfl
    rw [splitK, if_neg (by rw [e2, beq_iff_eq]; omega), e2]
    rw [hi] at ih
    simp only [Int.toNat_natCast, Nat.add_zero, List.length_cons, List.length_nil, Nat.zero_add] at ih ⊢
    rw [show i + 1 + 1 = (i + 1) + 1 from rfl, List.drop_succ_cons, List.take_succ_cons]
    exact (iN h ih.symm).symm
def mkB (l : List UInt8) : ByteArray := ⟨l.toArray⟩
def parts (p : ByteArray) : List ByteArray := (iP p.data.toList).map mkB
theorem gC (s : ByteArray) : mkB s.data.toList = s := by cases s; rfl
def stroke : ByteArray := { data := #[47] }
theorem lF (p : ByteArray) : splitB stroke 0 (countB p stroke) p = parts p := by
 have h := splitB_data stroke 0 (countB p stroke) p
 have hc : countB p stroke = p.data.toList.count 47 := count_one 47 _
 rw [hc] at h ⊢
 rw [show stroke.data.toList = [47] from rfl, qEe] at h
 rw [parts, ← h, List.map_map]
 conv => lhs; rw [← List.map_id (splitB stroke 0 _ p)]
 exact List.map_congr_left fun s _ => (gC s).symm
def uP : List (List UInt8) → List UInt8 → List UInt8 → List (List UInt8)
 | out, one, [] => out ++ [one]
 | out, one, c :: r => if c = 47 then uP (out ++ [one]) [] r else uP out (one ++ [c]) r
theorem qJx : ∀ (s : List UInt8) (out : List (List UInt8)) (one : List UInt8), uP out one s = out ++ (match iP s with | h :: t => (one ++ h) :: t | [] => [one])
 | [], out, one => by simp [uP, iP]
 | c :: r, out, one => by
  rw [uP]
  by_cases h : c = 47
  ·subst h
   rw [if_pos rfl, qJx r, gH]
   cases e : iP r with
   | nil => exact absurd e (tQ r)
   | cons a t => simp
  ·rw [if_neg h, qJx r]
   cases e : iP r with
   | nil => exact absurd e (tQ r)
   | cons a t => rw [iN h e]; simp
theorem qZ6 (s : List UInt8) : uP [] [] s = iP s := by
 rw [qJx]
 cases e : iP s with
 | nil => exact absurd e (tQ s)
 | cons a t => simp
def okC (c : UInt8) : Bool := (decide (97 ≤ c) && decide (c ≤ 122)) || (decide (48 ≤ c) && decide (c ≤ 57)) || decide (c = 95)
def dN (s : ByteArray) : Bool := decide (1 ≤ s.size) && decide (s.size ≤ 12) && s.data.toList.all okC
def pOk (p : ByteArray) (qBx : Int) : Bool := decide (((parts p).length : Int) ≤ qBx) && (parts p).all dN
theorem qUs {p : ByteArray} {d : Int} (h : pOk p d = true) : p ≠ ByteArray.empty := by
 rintro rfl
 simp only [pOk, Bool.and_eq_true] at h
 have : parts ByteArray.empty = [mkB []] := rfl
 rw [this] at h
 simp [dN, mkB, ByteArray.size] at h
def dS : List UInt8 → Option Nat
 | [] => none
 | c :: r => match dS r with
  | some i => some (i + 1)
  | none => if c = 47 then some 0 else none
theorem oZ : ∀ {s : List UInt8} {i : Nat}, dS s = some i → i < s.length ∧ s[i]? = some 47
 | [], i, h => by simp [dS] at h
 | c :: r, i, h => by
  rw [dS] at h
  split at h
  ·rename_i j hj
   simp only [Option.some.injEq] at h; subst h
   obtain ⟨a, b⟩ := oZ hj
   exact ⟨by simp; omega, by simpa using b⟩
  ·split at h
   ·rename_i e
    simp only [Option.some.injEq] at h; subst h
    exact ⟨by simp, by simp [e]⟩
   ·cases h
theorem qPk (s : List UInt8) (c : UInt8) : dS (s ++ [c]) = if c = 47 then some s.length else dS s := by
 induction s with
 | nil =>
  simp only [List.nil_append, dS, List.length_nil]
 | cons x r ih =>
  rw [List.cons_append, dS, ih]
  by_cases h : c = 47
  ·rw [if_pos h, if_pos h]; rfl
  ·rw [if_neg h, if_neg h]; rfl
def kM (s : List UInt8) : Int := match dS s with
 | some i => i
 | none => -1
def qJ6 (p : ByteArray) : Nat := (dS p.data.toList).getD 0
def par (p : ByteArray) : ByteArray := p.extract 0 (qJ6 p)
theorem zFc {p : ByteArray} (h : p ≠ ByteArray.empty) : qJ6 p < p.size := by
 unfold qJ6
 cases e : dS p.data.toList with
 | none =>
  show 0 < p.size
  rcases Nat.eq_zero_or_pos p.size with h0 | h0
  ·exact absurd (ByteArray.size_eq_zero_iff.1 h0) h
  ·exact h0
 | some i =>
  have := (oZ e).1
  show i < p.size
  rw [Lib.size_eq]; exact this
end Go.Tr
end
