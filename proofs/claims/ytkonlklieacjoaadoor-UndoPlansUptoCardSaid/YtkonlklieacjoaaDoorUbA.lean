/-
  Plain: the program's back, step by step; oG rows in a result.
-/
import Derived.Test.YtkonlklieacjoaaDoorUnC
import Derived.Test.YtkonlklieacjoaaDoorTpD
set_option linter.unusedSimpArgs false
set_option linter.unusedVariables false
set_option maxRecDepth 20000
namespace Go.Tr
open Go Go.Eng Go.RowKit
theorem zCr : ∀ (s : List UInt8), ((kL s).map fun x => x.length + 1).sum = s.length + 1
 | [] => rfl
 | c :: r => by
  have ih := zCr r
  by_cases h : c = 47
  ·subst h; rw [nC]; simp only [List.map_cons, List.sum_cons, List.length_nil, List.length_cons, ih]; omega
  ·cases e : kL r with
   | nil => exact absurd e (qAd r)
   | cons a t =>
    rw [lZ h e]
    rw [e] at ih
    simp only [List.map_cons, List.sum_cons, List.length_cons] at ih ⊢
    omega
theorem qSh {l : List Nat} {m : Nat} (h : ∀ x ∈ l, x ≤ m) : l.sum ≤ l.length * m := by
 induction l with
 | nil => simp
 | cons x r ih =>
  rw [List.sum_cons, List.length_cons, Nat.add_mul, Nat.one_mul]
  have h1 := h x (by simp)
  have h2 := ih fun y hy => h y (by simp [hy])
  omega
theorem zGr {p : ByteArray} {d : Nat} (h : pOk p d = true) : p.size ≤ d * 13 := by
 simp only [pOk, Bool.and_eq_true, decide_eq_true_eq] at h
 obtain ⟨h1, h2⟩ := h
 have hs := zCr p.data.toList
 have hle := qSh (l := (kL p.data.toList).map fun x => x.length + 1) (m := 13) fun x hx => by
  obtain ⟨y, hy, rfl⟩ := List.mem_map.1 hx
  have := List.all_eq_true.1 h2 (mkB y) (List.mem_map.2 ⟨y, hy, rfl⟩)
  simp only [eN, Bool.and_eq_true, decide_eq_true_eq] at this
  have hz : (mkB y).size = y.length := by simp [mkB, ByteArray.size]
  omega
 rw [hs, List.length_map] at hle
 have hl : (parts p).length = (kL p.data.toList).length := by simp [parts]
 rw [Lib.size_eq]
 have : (kL p.data.toList).length ≤ d := by omega
 have := Nat.mul_le_mul_right 13 this
 omega
theorem Tree.size {t : List Ent} (h : Tree t) : ∀ e ∈ t, e.1.size ≤ 1048576 := fun e he => by
 have := zGr (d := 5) (h.each e he).1
 omega
theorem qMm (c : Chg) {i : Nat} (h : i < 3) : (lJ c).getD (2 + i * 2) .junk = .v (.int .i64 (c.b i).1) := by
 rcases oG h with rfl | rfl | rfl <;> rfl
def qCn (L : List Chg) (pass : Bool) : List (Nat × Chg) := if pass then (lab L).reverse else lab L
def nK (k : Nat) (pass : Bool) (l : List (Nat × Chg)) (t : List Ent) : Except Nat (List Ent) := dW k (fun x => yes x && act k pass x.2) l t
def qJc (L : List Chg) (pass : Bool) (j : Nat) : Nat := if pass then L.length - 1 - j else j
theorem qPh (L : List Chg) (pass : Bool) : (qCn L pass).length = L.length := by
 unfold qCn; split <;> simp [fU]
theorem qUg {L : List Chg} {pass : Bool} {j : Nat} (h : j < L.length) : qJc L pass j < L.length := by
 unfold qJc; split <;> omega
theorem zDx {L : List Chg} {pass : Bool} {j : Nat} (h : j < L.length) : (qCn L pass).drop j = (qJc L pass j, L[qJc L pass j]'(qUg h)) :: (qCn L pass).drop (j + 1) := by
 rw [List.drop_eq_getElem_cons (by rw [qPh]; exact h)]
 congr 1
 cases pass with
 | true => simp only [qCn, qJc, if_true, List.getElem_reverse, fU]; rw [kV]
 | false => simp only [qCn, qJc, Bool.false_eq_true, if_false]; rw [kV]
theorem qYj {k : Nat} {pass : Bool} {i : Nat} {c : Chg} {r : List (Nat × Chg)} {t : List Ent} (h : act k pass c = false) : nK k pass ((i, c) :: r) t = nK k pass r t := by
 unfold nK; rw [dW, if_neg (by simp [h])]
theorem zGp {k : Nat} {pass : Bool} {i : Nat} {c : Chg} {r : List (Nat × Chg)} {t : List Ent} (h : act k pass c = true) (hE : eW t c.p (c.b k) = 0) : nK k pass ((i, c) :: r) t = nK k pass r (jB t c.p (c.b k)) := by
 unfold nK; rw [dW, if_pos (by simp [h, yes]), if_pos hE]
theorem zDz {k : Nat} {pass : Bool} {i : Nat} {c : Chg} {r : List (Nat × Chg)} {t : List Ent} (h : act k pass c = true) (hE : eW t c.p (c.b k) ≠ 0) : nK k pass ((i, c) :: r) t = .error i := by
 unfold nK; rw [dW, if_pos (by simp [h, yes]), if_neg hE]
theorem zDy {k : Nat} {pass : Bool} {t : List Ent} : nK k pass [] t = .ok t := rfl
def qUb (L : List Chg) (k : Nat) : Nat → List Ent → Except Nat (List Ent)
 | 0, t => iU k yes (lab L) t
 | 1, t => nK k false (lab L) t
 | _, t => .ok t
theorem qYa (L : List Chg) (k : Nat) {p : Nat} (hp : p < 2) (t : List Ent) : qUb L k p t = iZ (nK k (decide (p = 0)) (qCn L (decide (p = 0))) t) (qUb L k (p + 1)) := by
 have : p = 0 ∨ p = 1 := by omega
 rcases this with rfl | rfl
 ·rfl
 ·show nK k false (lab L) t = iZ (nK k false (lab L) t) fun t => .ok t
  cases nK k false (lab L) t <;> rfl
def zKk (U : Tri) : Nat → List Ent → Tri
 | 0, t => (t, U.2.1, U.2.2)
 | 1, t => (U.1, t, U.2.2)
 | _, t => (U.1, U.2.1, t)
def qZx (L : List Chg) (T : Tri) : Nat → Tri → Except Nat Tri
 | 0, U => iZ (iU 0 yes (lab L) T.1) fun u => iZ (iU 1 yes (lab L) T.2.1) fun v => iZ (iU 2 yes (lab L) T.2.2) fun z => .ok (u, v, z)
 | 1, U => iZ (iU 1 yes (lab L) T.2.1) fun v => iZ (iU 2 yes (lab L) T.2.2) fun z => .ok (U.1, v, z)
 | 2, U => iZ (iU 2 yes (lab L) T.2.2) fun z => .ok (U.1, U.2.1, z)
 | _, U => .ok U
theorem qYc (L : List Chg) (T U : Tri) {k : Nat} (hk : k < 3) : qZx L T k U = iZ (iU k yes (lab L) (tr T k)) fun t => qZx L T (k + 1) (zKk U k t) := by
 rcases oG hk with rfl | rfl | rfl <;> rfl
theorem qYb (L : List Chg) (T U : Tri) : qZx L T 0 U = rN L T := rfl
theorem qBt {α β : Type} {i : Nat} (f : α → Except Nat β) : iZ (.error i) f = .error i := rfl
theorem kJ {α β : Type} (x : α) (f : α → Except Nat β) : iZ (.ok x) f = f x := rfl
abbrev zDa (U : Tri) (a b c : Nat) : aD := [(a, aY U.1), (b, aY U.2.1), (c, aY U.2.2)]
theorem qVn {S : HS} {a b c : Nat} {U : Tri} {v : Value} {Q : HV → aD → Prop} (h0 : rlk S.st a = some (aY U.1)) (h1 : rlk S.st b = some (aY U.2.1)) (h2 : rlk S.st c = some (aY U.2.2)) (hab : a ≠ b) (hac : a ≠ c) (hbc : b ≠ c)
  (q : Q (.tup [.agg [.own 0, .own 1, .own 2], .v v]) (zDa U 0 1 2)) : qAn S (.tup [.agg [.own a, .own b, .own c], .v v]) Q := by
 refine ⟨[a, b, c], by simp, by simp [dup, hab.symm, hac.symm, hbc.symm, hab, hac, hbc], .tup fun x hx => ?_, fun id hid r hr => ?_, ?_⟩
 ·simp only [List.mem_cons, List.not_mem_nil, or_false] at hx
  rcases hx with rfl | rfl
  ·refine .agg fun y hy => ?_
   simp only [List.mem_cons, List.not_mem_nil, or_false] at hy
   rcases hy with rfl | rfl | rfl <;> exact .own _
  ·exact .v _
 ·simp only [List.mem_cons, List.not_mem_nil, or_false] at hid
  rcases hid with rfl | rfl | rfl
  ·rw [h0] at hr; cases hr; exact ⟨rfl, aV _⟩
  ·rw [h1] at hr; cases hr; exact ⟨rfl, aV _⟩
  ·rw [h2] at hr; cases hr; exact ⟨rfl, aV _⟩
 ·have e : gE (pos [a, b, c]) S.st 0 [a, b, c] = zDa U 0 1 2 := by
   simp only [gE, h0, h1, h2, Row.ren]
  rw [e]
  have : (HV.tup [.agg [.own a, .own b, .own c], .v v]).ren (pos [a, b, c]) = .tup [.agg [.own 0, .own 1, .own 2], .v v] := by
   simp [HV.ren, pos, hab, hac, hbc]
  rw [this]; exact q
end Go.Tr
