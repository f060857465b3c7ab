/-
  Plain: a record taken back: what the program answers and what the document answers.
-/
import Derived.Test.YtkonlklieacjoaaDoorTka
import Derived.Test.YtkonlklieacjoaaDoorUnA
set_option linter.unusedSimpArgs false
set_option linter.unusedVariables false
namespace Go.Tr
open Go
set_option maxRecDepth 20000
instance : Inhabited Chg := ⟨⟨ByteArray.empty, 0, qQ, qQ, qQ, qQ, qQ, qQ⟩⟩
def act (k : Nat) (pass : Bool) (c : Chg) : Bool := !decide (c.b k = c.a k) && (decide ((c.b k).1 = 0) == pass)
def dW (k : Nat) (f : Nat × Chg → Bool) : List (Nat × Chg) → List Ent → Except Nat (List Ent)
 | [], t => .ok t
 | x :: r, t => if f x = true then (if eW t x.2.p (x.2.b k) = 0 then dW k f r (jB t x.2.p (x.2.b k)) else .error x.1) else dW k f r t
def iZ {α : Type} (e : Except Nat α) {β : Type} (f : α → Except Nat β) : Except Nat β := match e with
 | .ok x => f x
 | .error i => .error i
def iU (k : Nat) (g : Nat × Chg → Bool) (l : List (Nat × Chg)) (t : List Ent) : Except Nat (List Ent) :=
 iZ (dW k (fun x => g x && act k true x.2) l.reverse t) fun u => dW k (fun x => g x && act k false x.2) l u
def uR (g : Nat × Chg → Bool) (l : List (Nat × Chg)) (T : Tri) : Except Nat Tri :=
 iZ (iU 0 g l T.1) fun u0 => iZ (iU 1 g l T.2.1) fun u1 => iZ (iU 2 g l T.2.2) fun u2 => .ok (u0, u1, u2)
def lab (L : List Chg) : List (Nat × Chg) := (List.range L.length).map fun i => (i, L.getD i default)
theorem fU (L : List Chg) : (lab L).length = L.length := by simp [lab]
theorem kV (L : List Chg) {i : Nat} (h : i < (lab L).length) : (lab L)[i] = (i, L[i]'(by simpa [fU] using h)) := by
 have h' : i < L.length := by simpa [fU] using h
 simp [lab, List.getD_eq_getElem?_getD, h']
def yes : Nat × Chg → Bool := fun _ => true
def rN (L : List Chg) (T : Tri) : Except Nat Tri := uR yes (lab L) T
theorem xL {k : Nat} {f : Nat × Chg → Bool} : ∀ {l : List (Nat × Chg)} {t : List Ent} {i : Nat}, dW k f l t = .error i → ∃ x ∈ l, x.1 = i ∧ f x = true
 | [], t, i, h => by cases h
 | x :: r, t, i, h => by
  rw [dW] at h
  split at h
  ·rename_i hf
   split at h
   ·obtain ⟨y, hy, e⟩ := xL h; exact ⟨y, by simp [hy], e⟩
   ·cases h; exact ⟨x, by simp, rfl, hf⟩
  ·obtain ⟨y, hy, e⟩ := xL h; exact ⟨y, by simp [hy], e⟩
theorem qAi {α β : Type} {e : Except Nat α} {f : α → Except Nat β} {i : Nat} (h : iZ e f = .error i) : e = .error i ∨ ∃ x, e = .ok x ∧ f x = .error i := by
 cases e with
 | ok x => exact .inr ⟨x, rfl, h⟩
 | error j => cases h; exact .inl rfl
theorem qDq {α β : Type} {e : Except Nat α} {f : α → Except Nat β} {y : β} (h : iZ e f = .ok y) : ∃ x, e = .ok x ∧ f x = .ok y := by
 cases e with
 | ok x => exact ⟨x, rfl, h⟩
 | error j => cases h
theorem qJm {k : Nat} {g : Nat × Chg → Bool} {l : List (Nat × Chg)} {t : List Ent} {i : Nat} (h : iU k g l t = .error i) : ∃ x ∈ l, x.1 = i ∧ g x = true := by
 rcases qAi h with h | ⟨u, -, h⟩
 ·obtain ⟨x, hx, e, hf⟩ := xL h
  simp only [Bool.and_eq_true] at hf
  exact ⟨x, List.mem_reverse.1 hx, e, hf.1⟩
 ·obtain ⟨x, hx, e, hf⟩ := xL h
  simp only [Bool.and_eq_true] at hf
  exact ⟨x, hx, e, hf.1⟩
theorem qXm {g : Nat × Chg → Bool} {l : List (Nat × Chg)} {T : Tri} {i : Nat} (h : uR g l T = .error i) : ∃ x ∈ l, x.1 = i ∧ g x = true := by
 rcases qAi h with h | ⟨u, -, h⟩
 ·exact qJm h
 rcases qAi h with h | ⟨u, -, h⟩
 ·exact qJm h
 rcases qAi h with h | ⟨u, -, h⟩
 ·exact qJm h
 ·cases h
theorem xE {L : List Chg} {T : Tri} {i : Nat} (h : rN L T = .error i) : i < L.length := by
 obtain ⟨x, hx, e, -⟩ := qXm h
 obtain ⟨j, hj, rfl⟩ := List.getElem_of_mem hx
 rw [kV] at e
 simp only at e
 subst e
 simpa [fU] using hj
def qW : Nat → List Chg → Tri → Tri × List ByteArray
 | 0, _, T => (T, [])
 | n + 1, L, T => match rN L T with
  | .ok U => (U, [])
  | .error i => ((qW n (L.eraseIdx i) T).1, (L.getD i default).p :: (qW n (L.eraseIdx i) T).2)
def lK (L : List Chg) (T : Tri) : Tri × List ByteArray := qW (L.length + 1) L T
theorem qUe {L : List Chg} {T U : Tri} (h : rN L T = .ok U) : lK L T = (U, []) := by rw [lK, qW, h]
theorem qPe {L : List Chg} {T : Tri} {i : Nat} (h : rN L T = .error i) : lK L T = ((lK (L.eraseIdx i) T).1, (L.getD i default).p :: (lK (L.eraseIdx i) T).2) := by
 have hi := xE h
 have hl : (L.eraseIdx i).length + 1 = L.length := by rw [List.length_eraseIdx_of_lt hi]; omega
 rw [lK, qW, h]
 simp only [lK, hl]
def dN (out : List Bool) : Nat × Chg → Bool := fun x => !(out.getD x.1 false)
theorem kN {k : Nat} {g f : Nat × Chg → Bool} : ∀ (l : List (Nat × Chg)) (t : List Ent), dW k (fun x => g x && f x) l t = dW k f (l.filter g) t
 | [], t => rfl
 | x :: r, t => by
  rw [dW, List.filter_cons]
  cases hg : g x with
  | false => simp only [Bool.false_and, Bool.false_eq_true, if_false]; exact kN r t
  | true =>
   simp only [Bool.true_and, if_true]
   rw [dW]
   by_cases hf : f x = true
   ·rw [if_pos hf, if_pos hf]
    split
    ·exact kN r _
    ·rfl
   ·rw [if_neg hf, if_neg hf]; exact kN r t
theorem qGd (f : Nat × Chg → Bool) : (fun x => yes x && f x) = f := by funext x; simp [yes]
theorem qUq (k : Nat) (g : Nat × Chg → Bool) (l : List (Nat × Chg)) (t : List Ent) : iU k g l t = iU k yes (l.filter g) t := by
 unfold iU
 rw [kN, ← List.filter_reverse]
 rw [qGd, qGd]
 congr 1
 funext u
 rw [kN]
theorem qGa (g : Nat × Chg → Bool) (l : List (Nat × Chg)) (T : Tri) : uR g l T = uR yes (l.filter g) T := by
 unfold uR
 simp only [qUq _ g]
def qUv {α : Type} (g : Nat → Nat) : Except Nat α → Except Nat α
 | .ok x => .ok x
 | .error i => .error (g i)
theorem xM {k : Nat} {f : Chg → Bool} {g : Nat → Nat} : ∀ (l : List (Nat × Chg)) (t : List Ent), dW k (fun x => f x.2) (l.map fun x => (g x.1, x.2)) t = qUv g (dW k (fun x => f x.2) l t)
 | [], t => rfl
 | x :: r, t => by
  rw [List.map_cons, dW, dW]
  by_cases hf : f x.2 = true
  ·rw [if_pos hf, if_pos hf]
   split
   ·exact xM r _
   ·rfl
  ·rw [if_neg hf, if_neg hf]; exact xM r t
theorem qAh {α β : Type} {e : Except Nat α} {f f' : α → Except Nat β} {g : Nat → Nat} (h : ∀ x, f' x = qUv g (f x)) : iZ (qUv g e) f' = qUv g (iZ e f) := by
 cases e with
 | ok x => exact h x
 | error i => rfl
theorem qJn {k : Nat} {g : Nat → Nat} (l : List (Nat × Chg)) (t : List Ent) : iU k yes (l.map fun x => (g x.1, x.2)) t = qUv g (iU k yes l t) := by
 unfold iU
 rw [qGd, qGd, ← List.map_reverse, xM]
 refine qAh fun u => ?_
 rw [xM]
theorem zJ0 {g : Nat → Nat} (l : List (Nat × Chg)) (T : Tri) : uR yes (l.map fun x => (g x.1, x.2)) T = qUv g (uR yes l T) := by
 unfold uR
 rw [qJn]
 refine qAh fun u => ?_
 rw [qJn]
 refine qAh fun u => ?_
 rw [qJn]
 exact qAh fun u => rfl
theorem zKx (M : List (Nat × Chg)) : M = (lab (M.map Prod.snd)).map fun x => ((M.getD x.1 default).1, x.2) := by
 apply List.ext_getElem
 ·simp [fU]
 ·intro i h1 h2
  rw [List.getElem_map, kV]
  simp [List.getD_eq_getElem?_getD, h1]
theorem zJ1 (M : List (Nat × Chg)) (T : Tri) : uR yes M T = qUv (fun i => (M.getD i default).1) (rN (M.map Prod.snd) T) := by
 conv => lhs; rw [zKx M]
 exact zJ0 (g := fun i => (M.getD i default).1) _ _
def oU : Nat → List Bool → List Chg → Tri → Tri × List ByteArray
 | 0, _, _, T => (T, [])
 | n + 1, out, L, T => match uR (dN out) (lab L) T with
  | .ok U => (U, [])
  | .error i => ((oU n (out.set i true) L T).1, (L.getD i default).p :: (oU n (out.set i true) L T).2)
def kept (out : List Bool) (L : List Chg) : List (Nat × Chg) := (lab L).filter (dN out)
theorem zNr (L : List Chg) : (lab L).Pairwise fun x y => x.1 < y.1 := by
 unfold lab
 rw [List.pairwise_map]
 exact List.pairwise_lt_range
theorem qDe {α : Type} {f : α → Bool} : ∀ {l : List α} {i : Nat} (hi : i < l.length), f l[i] = false → (∀ j (hj : j < l.length), j ≠ i → f l[j] = true) → l.filter f = l.eraseIdx i
 | [], i, hi, _, _ => by simp at hi
 | x :: r, 0, hi, h1, h2 => by
  simp only [List.getElem_cons_zero] at h1
  rw [List.filter_cons, h1]
  simp only [Bool.false_eq_true, if_false, List.eraseIdx_cons_zero]
  rw [List.filter_eq_self]
  intro y hy
  obtain ⟨j, hj, rfl⟩ := List.getElem_of_mem hy
  exact h2 (j + 1) (by simp; omega) (by omega)
 | x :: r, i + 1, hi, h1, h2 => by
  have h0 := h2 0 (by simp) (by omega)
  simp only [List.getElem_cons_zero] at h0
  rw [List.filter_cons, h0]
  simp only [if_true, List.eraseIdx_cons_succ]
  rw [qDe (by simpa using hi) (by simpa using h1) fun j hj hne => by
   have := h2 (j + 1) (by simp; omega) (by omega)
   simpa using this]
theorem zEc {out : List Bool} {i : Nat} (hi : i < out.length) (x : Nat × Chg) : dN (out.set i true) x = (dN out x && !decide (x.1 = i)) := by
 unfold dN
 by_cases e : x.1 = i
 ·subst e
  simp [List.getD_eq_getElem?_getD, List.getElem?_set, hi]
 ·have e' : ¬ i = x.1 := fun h => e h.symm
  rw [List.getD_eq_getElem?_getD, List.getElem?_set, if_neg e']
  simp [e]
theorem qU8 {out : List Bool} {L : List Chg} (hl : out.length = L.length) {j : Nat} (hj : j < (kept out L).length) : kept (out.set (kept out L)[j].1 true) L = (kept out L).eraseIdx j ∧ (kept out L)[j].1 < out.length ∧ L.getD (kept out L)[j].1 default = (kept out L)[j].2 := by
 have hm : (kept out L)[j] ∈ lab L := (List.mem_filter.1 (List.getElem_mem hj)).1
 obtain ⟨i, hi, e⟩ := List.getElem_of_mem hm
 rw [kV] at e
 have hiL : i < L.length := by simpa [fU] using hi
 have e1 : (kept out L)[j].1 = i := by rw [← e]
 have e2 : (kept out L)[j].2 = L[i] := by rw [← e]
 have pw : (kept out L).Pairwise fun x y => x.1 < y.1 := List.Pairwise.filter _ (zNr L)
 refine ⟨?_, by rw [e1]; omega, by rw [e1, e2]; simp [List.getD_eq_getElem?_getD, hiL]⟩
 have hf : kept (out.set (kept out L)[j].1 true) L = (kept out L).filter fun x => !decide (x.1 = (kept out L)[j].1) := by
  conv => rhs; unfold kept
  rw [List.filter_filter]
  unfold kept
  refine List.filter_congr fun x hx => ?_
  rw [zEc (by show (kept out L)[j].1 < _; rw [e1]; omega), Bool.and_comm]
 rw [hf]
 refine qDe hj (by simp) fun a ha hne => ?_
 have : (kept out L)[a].1 ≠ (kept out L)[j].1 := fun e => by
  rcases Nat.lt_or_ge a j with h | h
  ·have := List.pairwise_iff_getElem.1 pw a j ha hj h; omega
  ·have := List.pairwise_iff_getElem.1 pw j a hj ha (by omega); omega
 simpa using this
theorem qP0 {α β : Type} (f : α → β) : ∀ (l : List α) (i : Nat), (l.eraseIdx i).map f = (l.map f).eraseIdx i
 | [], i => by simp
 | x :: r, 0 => by simp
 | x :: r, i + 1 => by simp [qP0 f r i]
theorem qHk {L : List Chg} {T : Tri} : ∀ (n : Nat) (out : List Bool), out.length = L.length → oU n out L T = qW n ((kept out L).map Prod.snd) T
 | 0, out, hl => rfl
 | n + 1, out, hl => by
  rw [oU, qW, qGa]
  show (match uR yes (kept out L) T with | .ok U => (U, []) | .error i => _) = _
  rw [zJ1]
  cases h : rN ((kept out L).map Prod.snd) T with
  | ok U => rfl
  | error j =>
   have hj := xE h
   rw [List.length_map] at hj
   simp only [qUv]
   have e0 : (kept out L).getD j default = (kept out L)[j] := by simp [List.getD_eq_getElem?_getD, hj]
   obtain ⟨k1, k2, k3⟩ := qU8 hl hj
   rw [e0]
   have ih := qHk (T := T) n (out.set (kept out L)[j].1 true) (by simpa using hl)
   rw [k1, qP0] at ih
   rw [ih, k3]
   have e1 : ((kept out L).map Prod.snd).getD j default = (kept out L)[j].2 := by simp [List.getD_eq_getElem?_getD, hj]
   rw [e1]
theorem qH7 : ∀ (n : Nat) (L : List Chg) (T : Tri), L.length < n → qW n L T = lK L T
 | 0, L, T, h => by omega
 | n + 1, L, T, h => by
  cases hb : rN L T with
  | ok U => rw [qUe hb, qW, hb]
  | error i =>
   have hi := xE hb
   rw [qPe hb, qW, hb]
   simp only
   rw [qH7 n _ T (by rw [List.length_eraseIdx_of_lt hi]; omega)]
theorem zDs (L : List Chg) (T : Tri) : (kept (L.map fun c => !eF c T) L).map Prod.snd = L.filter fun c => eF c T := by
 have : ∀ x ∈ lab L, dN (L.map fun c => !eF c T) x = eF x.2 T := fun x hx => by
  obtain ⟨i, hi, rfl⟩ := List.getElem_of_mem hx
  have hi' : i < L.length := by simpa [fU] using hi
  rw [kV]
  simp [dN, List.getD_eq_getElem?_getD, hi']
 unfold kept
 rw [List.filter_congr this]
 have e : L = (lab L).map Prod.snd := by
  apply List.ext_getElem
  ·simp [fU]
  ·intro i h1 h2; rw [List.getElem_map, kV]
 conv => rhs; rw [e]
 rw [List.filter_map]; rfl
def jE (L : List Chg) (T : Tri) : Tri × List ByteArray := ((lK (L.filter fun c => eF c T) T).1, (L.filter fun c => !eF c T).map Chg.p ++ (lK (L.filter fun c => eF c T) T).2)
theorem zMn (L : List Chg) (T : Tri) : oU (L.length + 1) (L.map fun c => !eF c T) L T = lK (L.filter fun c => eF c T) T := by
 rw [qHk _ _ (by simp), zDs, qH7]
 have := List.length_filter_le (fun c => eF c T) L
 omega
theorem tV {k : Nat} {f : Nat × Chg → Bool} : ∀ {l : List (Nat × Chg)} {t u : List Ent}, Tree t → dW k f l t = .ok u → Tree u
 | [], t, u, h, e => by cases e; exact h
 | x :: r, t, u, h, e => by
  rw [dW] at e
  split at e
  ·split at e
   ·rename_i hE; exact tV (h.put hE) e
   ·cases e
  ·exact tV h e
theorem qD2 {k : Nat} {g : Nat × Chg → Bool} {l : List (Nat × Chg)} {t u : List Ent} (h : Tree t) (e : iU k g l t = .ok u) : Tree u := by
 obtain ⟨x, h1, h2⟩ := qDq e
 exact tV (tV h h1) h2
structure Tree3 (T : Tri) : Prop where
 t0 : Tree T.1
 t1 : Tree T.2.1
 t2 : Tree T.2.2
theorem Tree3.tr {T : Tri} (h : Tree3 T) (i : Nat) : Tree (tr T i) := by
 unfold Go.Tr.tr
 split
 ·exact h.t0
 ·exact h.t1
 ·exact h.t2
theorem zFf {g : Nat × Chg → Bool} {l : List (Nat × Chg)} {T U : Tri} (h : Tree3 T) (e : uR g l T = .ok U) : Tree3 U := by
 obtain ⟨x, h1, e⟩ := qDq e
 obtain ⟨y, h2, e⟩ := qDq e
 obtain ⟨z, h3, e⟩ := qDq e
 cases e
 exact ⟨qD2 h.t0 h1, qD2 h.t1 h2, qD2 h.t2 h3⟩
theorem qH6 {T : Tri} (h : Tree3 T) : ∀ (n : Nat) (L : List Chg), Tree3 (qW n L T).1
 | 0, L => h
 | n + 1, L => by
  rw [qW]
  cases hb : rN L T with
  | ok U => exact zFf h hb
  | error i => exact qH6 h n _
theorem qYi {L : List Chg} {T : Tri} (h : Tree3 T) : Tree3 (lK L T).1 := qH6 h _ L
theorem qPf : ∀ (n : Nat) (L : List Chg) (T : Tri), (qW n L T).2.length ≤ L.length
 | 0, L, T => Nat.zero_le _
 | n + 1, L, T => by
  rw [qW]
  cases hb : rN L T with
  | ok U => exact Nat.zero_le _
  | error i =>
   have hi := xE hb
   have := qPf n (L.eraseIdx i) T
   rw [List.length_eraseIdx_of_lt hi] at this
   simp only [List.length_cons]
   omega
theorem zC7 (L : List Chg) (T : Tri) : (jE L T).2.length ≤ L.length := by
 unfold jE
 rw [List.length_append, List.length_map]
 have := qPf ((L.filter fun c => eF c T).length + 1) (L.filter fun c => eF c T) T
 have h2 := List.length_eq_countP_add_countP (fun c => eF c T) (l := L)
 rw [List.countP_eq_length_filter, List.countP_eq_length_filter] at h2
 unfold lK
 have h3 : (L.filter fun c => !eF c T).length = (L.filter fun c => decide (¬ eF c T = true)).length := by congr 2; funext c; simp
 omega
end Go.Tr
