/-
  The plain part of hunk: spans, pieces, what they make.
-/
import Derived.Test.YtfojmpimnidmkaaDiffL
set_option linter.unusedVariables false
set_option linter.unusedSimpArgs false
namespace Go.DiffM
variable {α : Type} [DecidableEq α]
structure Sp where
 a0 : Nat
 a1 : Nat
 b0 : Nat
 b1 : Nat
def addSp (g : Nat) : List Sp → Sp → List Sp
 | [], s => [s]
 | [l], s => if s.a0 - l.a1 ≤ g then [⟨l.a0, s.a1, l.b0, s.b1⟩] else [l, s]
 | l :: m :: r, s => l :: addSp g (m :: r) s
def spF (g : Nat) : List (Nat × Nat) → Nat → Nat → List Sp → List Sp
 | [], _, _, acc => acc
 | (op, n) :: r, i, j, acc =>
  if op = 0 then spF g r (i + n) (j + n) acc
  else if op = 1 then spF g r (i + n) j (addSp g acc ⟨i, i + n, j, j⟩)
  else spF g r i (j + n) (addSp g acc ⟨i, i, j, j + n⟩)
def spans (g : Nat) (a b : List α) : List Sp := spF g (script a b) 0 0 []
structure Hk (α : Type) where
 at_ : Nat
 old : List α
 new : List α
def hunkOf (a b : List α) (r : Nat) (s : Sp) : Hk α :=
 ⟨s.a0 - min r s.a0, (a.take (s.a1 + min r (a.length - s.a1))).drop (s.a0 - min r s.a0), (b.take (s.b1 + min r (a.length - s.a1))).drop (s.b0 - min r s.a0)⟩
def between (a b : List α) (r : Nat) : List (Hk α) := (spans (2 * r) a b).map (hunkOf a b r)
def Kp (a b : List α) (i j p q : Nat) : Prop := i ≤ p ∧ j ≤ q ∧ p - i = q - j ∧ (a.take p).drop i = (b.take q).drop j
structure LocSp (a b : List α) (s : Sp) : Prop where
 ha : s.a0 ≤ s.a1
 hb : s.b0 ≤ s.b1
 ne : s.a0 < s.a1 ∨ s.b0 < s.b1
 la : s.a1 ≤ a.length
 lb : s.b1 ≤ b.length
 df : ∀ (h1 : s.a0 < a.length) (h2 : s.b0 < b.length), a[s.a0] ≠ b[s.b0]
def Sps (g : Nat) (a b : List α) : List Sp → Prop
 | [] => True
 | [s] => LocSp a b s ∧ a.drop s.a1 = b.drop s.b1
 | s :: t :: r => LocSp a b s ∧ Kp a b s.a1 s.b1 t.a0 t.b0 ∧ s.a1 + g < t.a0 ∧ Sps g a b (t :: r)
theorem addSp_snoc (g : Nat) (acc : List Sp) (l s : Sp) : addSp g (acc ++ [l]) s = if s.a0 - l.a1 ≤ g then acc ++ [⟨l.a0, s.a1, l.b0, s.b1⟩] else acc ++ [l, s] := by
 induction acc with
 | nil => simp only [List.nil_append, addSp]
 | cons x t ih =>
  cases t with
  | nil =>
   simp only [List.cons_append, List.nil_append, addSp]
   split <;> rfl
  | cons y u =>
   simp only [List.cons_append] at ih ⊢
   rw [addSp, ih]
   split <;> rfl
theorem steps_head0 (a b : List α) (i j op : Nat) (rest : List Nat) (h : op :: rest = steps (a.drop i) (b.drop j)) (hop : op ≠ 0) : ∀ (h1 : i < a.length) (h2 : j < b.length), a[i] ≠ b[j] := fun h1 h2 e => by
 rw [steps_keep a b i j h1 h2 e] at h
 exact hop (List.cons.inj h).1
theorem seg_cons {β : Type} (a b : List β) {i j p q : Nat} (hp : i < p) (hq : j < q) (h1 : i < a.length) (h2 : j < b.length) (he : a[i] = b[j]) (h : (a.take p).drop (i + 1) = (b.take q).drop (j + 1)) : (a.take p).drop i = (b.take q).drop j := by
 rw [List.drop_eq_getElem_cons (by simp; omega), List.drop_eq_getElem_cons (i := j) (by simp; omega), h]
 simp only [List.getElem_take, he]
theorem run_inv (a b : List α) : ∀ (n op : Nat) (rest : List Nat) (i j : Nat), i ≤ a.length → j ≤ b.length → List.replicate n op ++ rest = steps (a.drop i) (b.drop j) →
  (op = 0 → i + n ≤ a.length ∧ j + n ≤ b.length ∧ (a.take (i + n)).drop i = (b.take (j + n)).drop j ∧ rest = steps (a.drop (i + n)) (b.drop (j + n))) ∧
  (op = 1 → i + n ≤ a.length ∧ rest = steps (a.drop (i + n)) (b.drop j)) ∧ (op = 2 → j + n ≤ b.length ∧ rest = steps (a.drop i) (b.drop (j + n)))
 | 0, op, rest, i, j, hi, hj, h => by
  simp only [List.replicate_zero, List.nil_append] at h
  refine ⟨fun _ => ⟨hi, hj, ?_, h⟩, fun _ => ⟨hi, h⟩, fun _ => ⟨hj, h⟩⟩
  rw [List.drop_eq_nil_of_le (by simp; omega), List.drop_eq_nil_of_le (by simp; omega)]
 | n + 1, op, rest, i, j, hi, hj, h => by
  rw [List.replicate_succ, List.cons_append] at h
  rcases steps_inv a b i j op _ h.symm with ⟨rfl, h1, h2, he, h3⟩ | ⟨rfl, h1, h3⟩ | ⟨rfl, h1, h3⟩
  ·obtain ⟨r1, -, -⟩ := run_inv a b n 0 rest (i + 1) (j + 1) h1 h2 h3
   obtain ⟨q1, q2, q3, q4⟩ := r1 rfl
   refine ⟨fun _ => ⟨by omega, by omega, ?_, ?_⟩, fun h => (by cases h), fun h => (by cases h)⟩
   ·have := seg_cons a b (p := i + (n + 1)) (q := j + (n + 1)) (by omega) (by omega) h1 h2 he (by rw [show i + (n + 1) = i + 1 + n by omega, show j + (n + 1) = j + 1 + n by omega]; exact q3)
    exact this
   ·rw [show i + (n + 1) = i + 1 + n by omega, show j + (n + 1) = j + 1 + n by omega]; exact q4
  ·obtain ⟨-, r1, -⟩ := run_inv a b n 1 rest (i + 1) j h1 hj h3
   obtain ⟨q1, q2⟩ := r1 rfl
   exact ⟨fun h => (by cases h), fun _ => ⟨by omega, by rw [show i + (n + 1) = i + 1 + n by omega]; exact q2⟩, fun h => (by cases h)⟩
  ·obtain ⟨-, -, r1⟩ := run_inv a b n 2 rest i (j + 1) hi h1 h3
   obtain ⟨q1, q2⟩ := r1 rfl
   exact ⟨fun h => (by cases h), fun h => (by cases h), fun _ => ⟨by omega, by rw [show j + (n + 1) = j + 1 + n by omega]; exact q2⟩⟩
theorem Kp.refl {β : Type} (a b : List β) (i j : Nat) (hi : i ≤ a.length) (hj : j ≤ b.length) : Kp a b i j i j := ⟨Nat.le_refl _, Nat.le_refl _, by omega, by rw [List.drop_eq_nil_of_le (by simp; omega), List.drop_eq_nil_of_le (by simp; omega)]⟩
theorem take_drop_app {β : Type} (l : List β) {i p q : Nat} (h1 : i ≤ p) (h2 : p ≤ q) : (l.take q).drop i = (l.take p).drop i ++ (l.take q).drop p := by
 by_cases hp : p ≤ l.length
 ·have e : (l.take q) = l.take p ++ (l.take q).drop p := by
   conv => lhs; rw [← List.take_append_drop p (l.take q), List.take_take, Nat.min_eq_left h2]
  conv => lhs; rw [e]
  rw [List.drop_append_of_le_length (by simp; omega)]
 ·rw [List.take_of_length_le (by omega), List.take_of_length_le (by omega), List.drop_eq_nil_of_le (i := p) (by omega), List.append_nil]
theorem Kp.trans {β : Type} {a b : List β} {i j p q r s : Nat} (h : Kp a b i j p q) (h' : Kp a b p q r s) : Kp a b i j r s := by
 obtain ⟨h1, h2, h3, h4⟩ := h
 obtain ⟨k1, k2, k3, k4⟩ := h'
 exact ⟨by omega, by omega, by omega, by rw [take_drop_app a h1 k1, take_drop_app b h2 k2, h4, k4]⟩
theorem op_cases (a b : List α) {op n : Nat} {r : List (Nat × Nat)} {i j : Nat} (hf : 1 ≤ n) (h : expand ((op, n) :: r) = steps (a.drop i) (b.drop j)) : (op = 0 ∨ op = 1 ∨ op = 2) ∧ (op ≠ 0 → ∀ (h1 : i < a.length) (h2 : j < b.length), a[i] ≠ b[j]) := by
 obtain ⟨m, rfl⟩ : ∃ m, n = m + 1 := ⟨n - 1, by omega⟩
 rw [expand_cons, List.replicate_succ, List.cons_append] at h
 refine ⟨?_, fun hop => steps_head0 a b i j op _ h hop⟩
 rcases steps_inv a b i j op _ h.symm with ⟨h, _⟩ | ⟨h, _⟩ | ⟨h, _⟩ <;> simp [h]
theorem spF_some (g : Nat) (a b : List α) : ∀ (r : List (Nat × Nat)) (i j : Nat) (init : List Sp) (l : Sp), Fine r → i ≤ a.length → j ≤ b.length → expand r = steps (a.drop i) (b.drop j) → LocSp a b l → Kp a b l.a1 l.b1 i j →
  ∃ l' r', spF g r i j (init ++ [l]) = init ++ l' :: r' ∧ l'.a0 = l.a0 ∧ l'.b0 = l.b0 ∧ Sps g a b (l' :: r')
 | [], i, j, init, l, _, hi, hj, h, hl, hk => by
  obtain ⟨h1, h2⟩ := steps_nil_inv a b i j (by rw [← h]; rfl)
  refine ⟨l, [], rfl, rfl, rfl, hl, ?_⟩
  have := hk.2.2.2
  rwa [List.take_of_length_le h1, List.take_of_length_le h2] at this
 | (op, n) :: r, i, j, init, l, hf, hi, hj, h, hl, hk => by
  have hn := hf.head
  obtain ⟨hop, hdf⟩ := op_cases a b hn h
  rw [expand_cons] at h
  obtain ⟨q0, q1, q2⟩ := run_inv a b n op (expand r) i j hi hj h
  obtain ⟨k1, k2, k3, k4⟩ := hk
  have hk : Kp a b l.a1 l.b1 i j := ⟨k1, k2, k3, k4⟩
  rcases hop with rfl | rfl | rfl
  ·obtain ⟨p1, p2, p3, p4⟩ := q0 rfl
   rw [spF, if_pos rfl]
   exact spF_some g a b r (i + n) (j + n) init l hf.tail p1 p2 p4 hl (hk.trans ⟨by omega, by omega, by omega, p3⟩)
  ·obtain ⟨p1, p4⟩ := q1 rfl
   rw [spF, if_neg (by omega), if_pos rfl, addSp_snoc]
   by_cases hg : i - l.a1 ≤ g
   ·rw [if_pos hg]
    obtain ⟨l', r', e1, e2, e3, e4⟩ := spF_some g a b r (i + n) j init ⟨l.a0, i + n, l.b0, j⟩ hf.tail p1 hj p4 ⟨by have := hl.ha; dsimp only; omega, by have := hl.hb; dsimp only; omega, .inl (by have := hl.ha; dsimp only; omega), p1, hj, hl.df⟩ (Kp.refl a b _ _ p1 hj)
    exact ⟨l', r', e1, e2, e3, e4⟩
   ·rw [if_neg hg, show init ++ [l, ⟨i, i + n, j, j⟩] = (init ++ [l]) ++ [⟨i, i + n, j, j⟩] by simp]
    obtain ⟨l', r', e1, e2, e3, e4⟩ := spF_some g a b r (i + n) j (init ++ [l]) ⟨i, i + n, j, j⟩ hf.tail p1 hj p4 ⟨by dsimp only; omega, Nat.le_refl _, .inl (by dsimp only; omega), p1, hj, hdf (by omega)⟩ (Kp.refl a b _ _ p1 hj)
    dsimp only at e2 e3
    refine ⟨l, l' :: r', by rw [e1]; simp, rfl, rfl, hl, by rw [e2, e3]; exact hk, by omega, e4⟩
  ·obtain ⟨p1, p4⟩ := q2 rfl
   rw [spF, if_neg (by omega), if_neg (by omega), addSp_snoc]
   by_cases hg : i - l.a1 ≤ g
   ·rw [if_pos hg]
    obtain ⟨l', r', e1, e2, e3, e4⟩ := spF_some g a b r i (j + n) init ⟨l.a0, i, l.b0, j + n⟩ hf.tail hi p1 p4 ⟨by have := hl.ha; dsimp only; omega, by have := hl.hb; dsimp only; omega, .inr (by have := hl.hb; dsimp only; omega), hi, p1, hl.df⟩ (Kp.refl a b _ _ hi p1)
    exact ⟨l', r', e1, e2, e3, e4⟩
   ·rw [if_neg hg, show init ++ [l, ⟨i, i, j, j + n⟩] = (init ++ [l]) ++ [⟨i, i, j, j + n⟩] by simp]
    obtain ⟨l', r', e1, e2, e3, e4⟩ := spF_some g a b r i (j + n) (init ++ [l]) ⟨i, i, j, j + n⟩ hf.tail hi p1 p4 ⟨Nat.le_refl _, by dsimp only; omega, .inr (by dsimp only; omega), hi, p1, hdf (by omega)⟩ (Kp.refl a b _ _ hi p1)
    dsimp only at e2 e3
    refine ⟨l, l' :: r', by rw [e1]; simp, rfl, rfl, hl, by rw [e2, e3]; exact hk, by omega, e4⟩
theorem spF_none (g : Nat) (a b : List α) : ∀ (r : List (Nat × Nat)) (i j : Nat), Fine r → i ≤ a.length → j ≤ b.length → expand r = steps (a.drop i) (b.drop j) → Kp a b 0 0 i j →
  (spF g r i j [] = [] ∧ a = b) ∨ ∃ l' r', spF g r i j [] = l' :: r' ∧ l'.a0 = l'.b0 ∧ a.take l'.a0 = b.take l'.b0 ∧ Sps g a b (l' :: r')
 | [], i, j, _, hi, hj, h, hk => by
  obtain ⟨h1, h2⟩ := steps_nil_inv a b i j (by rw [← h]; rfl)
  left
  have := hk.2.2.2
  rw [List.take_of_length_le h1, List.take_of_length_le h2] at this
  exact ⟨rfl, by simpa using this⟩
 | (op, n) :: r, i, j, hf, hi, hj, h, hk => by
  have hn := hf.head
  obtain ⟨hop, hdf⟩ := op_cases a b hn h
  rw [expand_cons] at h
  obtain ⟨q0, q1, q2⟩ := run_inv a b n op (expand r) i j hi hj h
  obtain ⟨k1, k2, k3, k4⟩ := hk
  have hk : Kp a b 0 0 i j := ⟨k1, k2, k3, k4⟩
  have hij : i = j := by omega
  have htk : a.take i = b.take j := by simpa using k4
  rcases hop with rfl | rfl | rfl
  ·obtain ⟨p1, p2, p3, p4⟩ := q0 rfl
   rw [spF, if_pos rfl]
   exact spF_none g a b r (i + n) (j + n) hf.tail p1 p2 p4 (hk.trans ⟨by omega, by omega, by omega, p3⟩)
  ·obtain ⟨p1, p4⟩ := q1 rfl
   rw [spF, if_neg (by omega), if_pos rfl]
   obtain ⟨l', r', e1, e2, e3, e4⟩ := spF_some g a b r (i + n) j [] ⟨i, i + n, j, j⟩ hf.tail p1 hj p4 ⟨by dsimp only; omega, Nat.le_refl _, .inl (by dsimp only; omega), p1, hj, hdf (by omega)⟩ (Kp.refl a b _ _ p1 hj)
   dsimp only at e2 e3
   exact .inr ⟨l', r', e1, by omega, by rw [e2, e3]; exact htk, e4⟩
  ·obtain ⟨p1, p4⟩ := q2 rfl
   rw [spF, if_neg (by omega), if_neg (by omega)]
   obtain ⟨l', r', e1, e2, e3, e4⟩ := spF_some g a b r i (j + n) [] ⟨i, i, j, j + n⟩ hf.tail hi p1 p4 ⟨Nat.le_refl _, by dsimp only; omega, .inr (by dsimp only; omega), hi, p1, hdf (by omega)⟩ (Kp.refl a b _ _ hi p1)
   dsimp only at e2 e3
   exact .inr ⟨l', r', e1, by omega, by rw [e2, e3]; exact htk, e4⟩
theorem spans_all (g : Nat) (a b : List α) : (spans g a b = [] ∧ a = b) ∨ ∃ l r, spans g a b = l :: r ∧ l.a0 = l.b0 ∧ a.take l.a0 = b.take l.b0 ∧ Sps g a b (l :: r) := by
 obtain ⟨h1, h2⟩ := script_fine a b
 exact spF_none g a b (script a b) 0 0 h1 (Nat.zero_le _) (Nat.zero_le _) (by simpa using h2) (Kp.refl a b 0 0 (Nat.zero_le _) (Nat.zero_le _))
end Go.DiffM
