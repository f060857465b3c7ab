/-
  Plain: the program's back, step by step; three rows in a result.
-/
import Derived.Test.YtkonlklieacjoaaDoorUnC
import Derived.Test.YtkonlklieacjoaaDoorTpD
set_option linter.unusedSimpArgs false
set_option linter.unusedVariables false
set_option maxRecDepth 20000
namespace Go.Tr
open Go Go.Eng Go.RowKit
theorem cut_sum : ∀ (s : List UInt8), ((cutS s).map fun x => x.length + 1).sum = s.length + 1
 | [] => rfl
 | c :: r => by
  have ih := cut_sum r
  by_cases h : c = 47
  ·subst h; rw [cutS_stroke]; simp only [List.map_cons, List.sum_cons, List.length_nil, List.length_cons, ih]; omega
  ·cases e : cutS r with
   | nil => exact absurd e (cutS_ne r)
   | cons a t =>
    rw [cutS_other h e]
    rw [e] at ih
    simp only [List.map_cons, List.sum_cons, List.length_cons] at ih ⊢
    omega
theorem sum_le {l : List Nat} {m : Nat} (h : ∀ x ∈ l, x ≤ m) : l.sum ≤ l.length * m := by
 induction l with
 | nil => simp
 | cons x r ih =>
  rw [List.sum_cons, List.length_cons, Nat.add_mul, Nat.one_mul]
  have h1 := h x (by simp)
  have h2 := ih fun y hy => h y (by simp [hy])
  omega
theorem pOk_size {p : ByteArray} {d : Nat} (h : pOk p d = true) : p.size ≤ d * 13 := by
 simp only [pOk, Bool.and_eq_true, decide_eq_true_eq] at h
 obtain ⟨h1, h2⟩ := h
 have hs := cut_sum p.data.toList
 have hle := sum_le (l := (cutS p.data.toList).map fun x => x.length + 1) (m := 13) fun x hx => by
  obtain ⟨y, hy, rfl⟩ := List.mem_map.1 hx
  have := List.all_eq_true.1 h2 (mkB y) (List.mem_map.2 ⟨y, hy, rfl⟩)
  simp only [okName, Bool.and_eq_true, decide_eq_true_eq] at this
  have hz : (mkB y).size = y.length := by simp [mkB, ByteArray.size]
  omega
 rw [hs, List.length_map] at hle
 have hl : (parts p).length = (cutS p.data.toList).length := by simp [parts]
 rw [Lib.size_eq]
 have : (cutS p.data.toList).length ≤ d := by omega
 have := Nat.mul_le_mul_right 13 this
 omega
theorem Tree.size {t : List Ent} (h : Tree t) : ∀ e ∈ t, e.1.size ≤ 1048576 := fun e he => by
 have := pOk_size (d := 5) (h.each e he).1
 omega
theorem chg_b0 (c : Chg) {i : Nat} (h : i < 3) : (chgL c).getD (2 + i * 2) .junk = .v (.int .i64 (c.b i).1) := by
 rcases three h with rfl | rfl | rfl <;> rfl
def passL (L : List Chg) (pass : Bool) : List (Nat × Chg) := if pass then (lab L).reverse else lab L
def passG (k : Nat) (pass : Bool) (l : List (Nat × Chg)) (t : List Ent) : Except Nat (List Ent) := walkG k (fun x => yes x && act k pass x.2) l t
def passI (L : List Chg) (pass : Bool) (j : Nat) : Nat := if pass then L.length - 1 - j else j
theorem passL_len (L : List Chg) (pass : Bool) : (passL L pass).length = L.length := by
 unfold passL; split <;> simp [lab_len]
theorem passI_lt {L : List Chg} {pass : Bool} {j : Nat} (h : j < L.length) : passI L pass j < L.length := by
 unfold passI; split <;> omega
theorem passL_get {L : List Chg} {pass : Bool} {j : Nat} (h : j < L.length) : (passL L pass).drop j = (passI L pass j, L[passI L pass j]'(passI_lt h)) :: (passL L pass).drop (j + 1) := by
 rw [List.drop_eq_getElem_cons (by rw [passL_len]; exact h)]
 congr 1
 cases pass with
 | true => simp only [passL, passI, if_true, List.getElem_reverse, lab_len]; rw [lab_get]
 | false => simp only [passL, passI, Bool.false_eq_true, if_false]; rw [lab_get]
theorem passG_skip {k : Nat} {pass : Bool} {i : Nat} {c : Chg} {r : List (Nat × Chg)} {t : List Ent} (h : act k pass c = false) : passG k pass ((i, c) :: r) t = passG k pass r t := by
 unfold passG; rw [walkG, if_neg (by simp [h])]
theorem passG_ok {k : Nat} {pass : Bool} {i : Nat} {c : Chg} {r : List (Nat × Chg)} {t : List Ent} (h : act k pass c = true) (hE : putE t c.p (c.b k) = 0) : passG k pass ((i, c) :: r) t = passG k pass r (putT t c.p (c.b k)) := by
 unfold passG; rw [walkG, if_pos (by simp [h, yes]), if_pos hE]
theorem passG_err {k : Nat} {pass : Bool} {i : Nat} {c : Chg} {r : List (Nat × Chg)} {t : List Ent} (h : act k pass c = true) (hE : putE t c.p (c.b k) ≠ 0) : passG k pass ((i, c) :: r) t = .error i := by
 unfold passG; rw [walkG, if_pos (by simp [h, yes]), if_neg hE]
theorem passG_nil {k : Nat} {pass : Bool} {t : List Ent} : passG k pass [] t = .ok t := rfl
def restP (L : List Chg) (k : Nat) : Nat → List Ent → Except Nat (List Ent)
 | 0, t => oneG k yes (lab L) t
 | 1, t => passG k false (lab L) t
 | _, t => .ok t
theorem restP_step (L : List Chg) (k : Nat) {p : Nat} (hp : p < 2) (t : List Ent) : restP L k p t = bindX (passG k (decide (p = 0)) (passL L (decide (p = 0))) t) (restP L k (p + 1)) := by
 have : p = 0 ∨ p = 1 := by omega
 rcases this with rfl | rfl
 ·rfl
 ·show passG k false (lab L) t = bindX (passG k false (lab L) t) fun t => .ok t
  cases passG k false (lab L) t <;> rfl
def setT (U : Tri) : Nat → List Ent → Tri
 | 0, t => (t, U.2.1, U.2.2)
 | 1, t => (U.1, t, U.2.2)
 | _, t => (U.1, U.2.1, t)
def restK (L : List Chg) (T : Tri) : Nat → Tri → Except Nat Tri
 | 0, U => bindX (oneG 0 yes (lab L) T.1) fun u => bindX (oneG 1 yes (lab L) T.2.1) fun v => bindX (oneG 2 yes (lab L) T.2.2) fun z => .ok (u, v, z)
 | 1, U => bindX (oneG 1 yes (lab L) T.2.1) fun v => bindX (oneG 2 yes (lab L) T.2.2) fun z => .ok (U.1, v, z)
 | 2, U => bindX (oneG 2 yes (lab L) T.2.2) fun z => .ok (U.1, U.2.1, z)
 | _, U => .ok U
theorem restK_step (L : List Chg) (T U : Tri) {k : Nat} (hk : k < 3) : restK L T k U = bindX (oneG k yes (lab L) (tr T k)) fun t => restK L T (k + 1) (setT U k t) := by
 rcases three hk with rfl | rfl | rfl <;> rfl
theorem restK_zero (L : List Chg) (T U : Tri) : restK L T 0 U = backS L T := rfl
theorem bindX_err' {α β : Type} {i : Nat} (f : α → Except Nat β) : bindX (.error i) f = .error i := rfl
theorem bindX_ok' {α β : Type} (x : α) (f : α → Except Nat β) : bindX (.ok x) f = f x := rfl
abbrev triS (U : Tri) (a b c : Nat) : Store := [(a, rowE U.1), (b, rowE U.2.1), (c, rowE U.2.2)]
theorem hres_tri {S : HS} {a b c : Nat} {U : Tri} {v : Value} {Q : HV → Store → Prop} (h0 : rlk S.st a = some (rowE U.1)) (h1 : rlk S.st b = some (rowE U.2.1)) (h2 : rlk S.st c = some (rowE U.2.2)) (hab : a ≠ b) (hac : a ≠ c) (hbc : b ≠ c)
  (q : Q (.tup [.agg [.own 0, .own 1, .own 2], .v v]) (triS U 0 1 2)) : HRes S (.tup [.agg [.own a, .own b, .own c], .v v]) Q := by
 refine ⟨[a, b, c], by simp, by simp [dup, hab.symm, hac.symm, hbc.symm, hab, hac, hbc], .tup fun x hx => ?_, fun id hid r hr => ?_, ?_⟩
 ·simp only [List.mem_cons, List.not_mem_nil, or_false] at hx
  rcases hx with rfl | rfl
  ·refine .agg fun y hy => ?_
   simp only [List.mem_cons, List.not_mem_nil, or_false] at hy
   rcases hy with rfl | rfl | rfl <;> exact .own _
  ·exact .v _
 ·simp only [List.mem_cons, List.not_mem_nil, or_false] at hid
  rcases hid with rfl | rfl | rfl
  ·rw [h0] at hr; cases hr; exact ⟨rfl, ents_fresh _⟩
  ·rw [h1] at hr; cases hr; exact ⟨rfl, ents_fresh _⟩
  ·rw [h2] at hr; cases hr; exact ⟨rfl, ents_fresh _⟩
 ·have e : rpick (pos [a, b, c]) S.st 0 [a, b, c] = triS U 0 1 2 := by
   simp only [rpick, h0, h1, h2, Row.ren]
  rw [e]
  have : (HV.tup [.agg [.own a, .own b, .own c], .v v]).ren (pos [a, b, c]) = .tup [.agg [.own 0, .own 1, .own 2], .v v] := by
   simp [HV.ren, pos, hab, hac, hbc]
  rw [this]; exact q
end Go.Tr
