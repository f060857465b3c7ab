/-
  Plain: a record taken back: what the program answers and what the document answers.
-/
import Derived.Test.YtkonlklieacjoaaDoorTka
import Derived.Test.YtkonlklieacjoaaDoorUnA
set_option linter.unusedSimpArgs false
set_option linter.unusedVariables false
namespace Go.Tr
open Go
set_option maxRecDepth 20000
instance : Inhabited Chg := ⟨⟨ByteArray.empty, 0, nil0, nil0, nil0, nil0, nil0, nil0⟩⟩
def act (k : Nat) (pass : Bool) (c : Chg) : Bool := !decide (c.b k = c.a k) && (decide ((c.b k).1 = 0) == pass)
def walkG (k : Nat) (f : Nat × Chg → Bool) : List (Nat × Chg) → List Ent → Except Nat (List Ent)
 | [], t => .ok t
 | x :: r, t => if f x = true then (if putE t x.2.p (x.2.b k) = 0 then walkG k f r (putT t x.2.p (x.2.b k)) else .error x.1) else walkG k f r t
def bindX {α : Type} (e : Except Nat α) {β : Type} (f : α → Except Nat β) : Except Nat β := match e with
 | .ok x => f x
 | .error i => .error i
def oneG (k : Nat) (g : Nat × Chg → Bool) (l : List (Nat × Chg)) (t : List Ent) : Except Nat (List Ent) :=
 bindX (walkG k (fun x => g x && act k true x.2) l.reverse t) fun u => walkG k (fun x => g x && act k false x.2) l u
def allG (g : Nat × Chg → Bool) (l : List (Nat × Chg)) (T : Tri) : Except Nat Tri :=
 bindX (oneG 0 g l T.1) fun u0 => bindX (oneG 1 g l T.2.1) fun u1 => bindX (oneG 2 g l T.2.2) fun u2 => .ok (u0, u1, u2)
def lab (L : List Chg) : List (Nat × Chg) := (List.range L.length).map fun i => (i, L.getD i default)
theorem lab_len (L : List Chg) : (lab L).length = L.length := by simp [lab]
theorem lab_get (L : List Chg) {i : Nat} (h : i < (lab L).length) : (lab L)[i] = (i, L[i]'(by simpa [lab_len] using h)) := by
 have h' : i < L.length := by simpa [lab_len] using h
 simp [lab, List.getD_eq_getElem?_getD, h']
def yes : Nat × Chg → Bool := fun _ => true
def backS (L : List Chg) (T : Tri) : Except Nat Tri := allG yes (lab L) T
theorem walkG_mem {k : Nat} {f : Nat × Chg → Bool} : ∀ {l : List (Nat × Chg)} {t : List Ent} {i : Nat}, walkG k f l t = .error i → ∃ x ∈ l, x.1 = i ∧ f x = true
 | [], t, i, h => by cases h
 | x :: r, t, i, h => by
  rw [walkG] at h
  split at h
  ·rename_i hf
   split at h
   ·obtain ⟨y, hy, e⟩ := walkG_mem h; exact ⟨y, by simp [hy], e⟩
   ·cases h; exact ⟨x, by simp, rfl, hf⟩
  ·obtain ⟨y, hy, e⟩ := walkG_mem h; exact ⟨y, by simp [hy], e⟩
theorem bindX_err {α β : Type} {e : Except Nat α} {f : α → Except Nat β} {i : Nat} (h : bindX e f = .error i) : e = .error i ∨ ∃ x, e = .ok x ∧ f x = .error i := by
 cases e with
 | ok x => exact .inr ⟨x, rfl, h⟩
 | error j => cases h; exact .inl rfl
theorem bindX_ok {α β : Type} {e : Except Nat α} {f : α → Except Nat β} {y : β} (h : bindX e f = .ok y) : ∃ x, e = .ok x ∧ f x = .ok y := by
 cases e with
 | ok x => exact ⟨x, rfl, h⟩
 | error j => cases h
theorem oneG_mem {k : Nat} {g : Nat × Chg → Bool} {l : List (Nat × Chg)} {t : List Ent} {i : Nat} (h : oneG k g l t = .error i) : ∃ x ∈ l, x.1 = i ∧ g x = true := by
 rcases bindX_err h with h | ⟨u, -, h⟩
 ·obtain ⟨x, hx, e, hf⟩ := walkG_mem h
  simp only [Bool.and_eq_true] at hf
  exact ⟨x, List.mem_reverse.1 hx, e, hf.1⟩
 ·obtain ⟨x, hx, e, hf⟩ := walkG_mem h
  simp only [Bool.and_eq_true] at hf
  exact ⟨x, hx, e, hf.1⟩
theorem allG_mem {g : Nat × Chg → Bool} {l : List (Nat × Chg)} {T : Tri} {i : Nat} (h : allG g l T = .error i) : ∃ x ∈ l, x.1 = i ∧ g x = true := by
 rcases bindX_err h with h | ⟨u, -, h⟩
 ·exact oneG_mem h
 rcases bindX_err h with h | ⟨u, -, h⟩
 ·exact oneG_mem h
 rcases bindX_err h with h | ⟨u, -, h⟩
 ·exact oneG_mem h
 ·cases h
theorem backS_lt {L : List Chg} {T : Tri} {i : Nat} (h : backS L T = .error i) : i < L.length := by
 obtain ⟨x, hx, e, -⟩ := allG_mem h
 obtain ⟨j, hj, rfl⟩ := List.getElem_of_mem hx
 rw [lab_get] at e
 simp only at e
 subst e
 simpa [lab_len] using hj
def planF : Nat → List Chg → Tri → Tri × List ByteArray
 | 0, _, T => (T, [])
 | n + 1, L, T => match backS L T with
  | .ok U => (U, [])
  | .error i => ((planF n (L.eraseIdx i) T).1, (L.getD i default).p :: (planF n (L.eraseIdx i) T).2)
def planS (L : List Chg) (T : Tri) : Tri × List ByteArray := planF (L.length + 1) L T
theorem planS_ok {L : List Chg} {T U : Tri} (h : backS L T = .ok U) : planS L T = (U, []) := by rw [planS, planF, h]
theorem planS_err {L : List Chg} {T : Tri} {i : Nat} (h : backS L T = .error i) : planS L T = ((planS (L.eraseIdx i) T).1, (L.getD i default).p :: (planS (L.eraseIdx i) T).2) := by
 have hi := backS_lt h
 have hl : (L.eraseIdx i).length + 1 = L.length := by rw [List.length_eraseIdx_of_lt hi]; omega
 rw [planS, planF, h]
 simp only [planS, hl]
def keptG (out : List Bool) : Nat × Chg → Bool := fun x => !(out.getD x.1 false)
def kept (out : List Bool) (L : List Chg) : List (Nat × Chg) := (lab L).filter (keptG out)
theorem map_erase {α β : Type} (f : α → β) : ∀ (l : List α) (i : Nat), (l.eraseIdx i).map f = (l.map f).eraseIdx i
 | [], i => by simp
 | x :: r, 0 => by simp
 | x :: r, i + 1 => by simp [map_erase f r i]
def undoP (L : List Chg) (T : Tri) : Tri × List ByteArray := ((planS (L.filter fun c => ripe c T) T).1, (L.filter fun c => !ripe c T).map Chg.p ++ (planS (L.filter fun c => ripe c T) T).2)
theorem walkG_tree {k : Nat} {f : Nat × Chg → Bool} : ∀ {l : List (Nat × Chg)} {t u : List Ent}, Tree t → walkG k f l t = .ok u → Tree u
 | [], t, u, h, e => by cases e; exact h
 | x :: r, t, u, h, e => by
  rw [walkG] at e
  split at e
  ·split at e
   ·rename_i hE; exact walkG_tree (h.put hE) e
   ·cases e
  ·exact walkG_tree h e
theorem oneG_tree {k : Nat} {g : Nat × Chg → Bool} {l : List (Nat × Chg)} {t u : List Ent} (h : Tree t) (e : oneG k g l t = .ok u) : Tree u := by
 obtain ⟨x, h1, h2⟩ := bindX_ok e
 exact walkG_tree (walkG_tree h h1) h2
structure Tree3 (T : Tri) : Prop where
 t0 : Tree T.1
 t1 : Tree T.2.1
 t2 : Tree T.2.2
theorem Tree3.tr {T : Tri} (h : Tree3 T) (i : Nat) : Tree (tr T i) := by
 unfold Go.Tr.tr
 split
 ·exact h.t0
 ·exact h.t1
 ·exact h.t2
theorem allG_tree {g : Nat × Chg → Bool} {l : List (Nat × Chg)} {T U : Tri} (h : Tree3 T) (e : allG g l T = .ok U) : Tree3 U := by
 obtain ⟨x, h1, e⟩ := bindX_ok e
 obtain ⟨y, h2, e⟩ := bindX_ok e
 obtain ⟨z, h3, e⟩ := bindX_ok e
 cases e
 exact ⟨oneG_tree h.t0 h1, oneG_tree h.t1 h2, oneG_tree h.t2 h3⟩
theorem planF_tree {T : Tri} (h : Tree3 T) : ∀ (n : Nat) (L : List Chg), Tree3 (planF n L T).1
 | 0, L => h
 | n + 1, L => by
  rw [planF]
  cases hb : backS L T with
  | ok U => exact allG_tree h hb
  | error i => exact planF_tree h n _
theorem planF_len : ∀ (n : Nat) (L : List Chg) (T : Tri), (planF n L T).2.length ≤ L.length
 | 0, L, T => Nat.zero_le _
 | n + 1, L, T => by
  rw [planF]
  cases hb : backS L T with
  | ok U => exact Nat.zero_le _
  | error i =>
   have hi := backS_lt hb
   have := planF_len n (L.eraseIdx i) T
   rw [List.length_eraseIdx_of_lt hi] at this
   simp only [List.length_cons]
   omega
theorem undoP_len (L : List Chg) (T : Tri) : (undoP L T).2.length ≤ L.length := by
 unfold undoP
 rw [List.length_append, List.length_map]
 have := planF_len ((L.filter fun c => ripe c T).length + 1) (L.filter fun c => ripe c T) T
 have h2 := List.length_eq_countP_add_countP (fun c => ripe c T) (l := L)
 rw [List.countP_eq_length_filter, List.countP_eq_length_filter] at h2
 unfold planS
 have h3 : (L.filter fun c => !ripe c T).length = (L.filter fun c => decide (¬ ripe c T = true)).length := by congr 2; funext c; simp
 omega
end Go.Tr
