/-
  Which lists are trees: the document's Check, tree.Check.
-/
import Derived.Test.YtkonlklieacjoaaDoorTrL
set_option linter.unusedSimpArgs false
set_option linter.unusedVariables false
set_option maxRecDepth 20000
namespace Go.Tr
open Go
def atE (t : List Ent) (i : Nat) : Ent := t.getD i (ByteArray.empty, 0, ByteArray.empty)
theorem rV {t : List Ent} {i : Nat} (h : i < t.length) : atE t i = t[i] := by simp [atE, List.getD_eq_getElem?_getD, h]
def qNb (t : List Ent) (i : Nat) : Bool := pOk (atE t i).1 5 && (bL (atE t i).2 && (!decide ((atE t i).2.1 = 0) && (decide (i = 0) || blt (atE t (i - 1)).1 (atE t i).1)))
def qX8 (u : List Ent) (e : Ent) : Bool := decide (par e.1 = { data := #[] }) || decide ((bW u (par e.1)).1 = 1)
def qA7 (t : List Ent) (i : Nat) : Bool := qNb t i && qX8 t (atE t i)
def zDo (t : List Ent) (i : Nat) : Bool := qNb t i && qX8 (t.take i) (atE t i)
def okR (t : List Ent) : Bool := (List.range t.length).all (qA7 t)
def nH (t : List Ent) : Int := if 200 < t.length then 4 else bif okR t then 0 else 3
theorem oD {n : Nat} {f : Nat → Bool} : (List.range n).all f = true ↔ ∀ i, i < n → f i = true := by simp [List.all_eq_true]
theorem qXl {n i : Nat} {f : Nat → Bool} (hi : i < n) (h : f i = false) : (List.range n).all f = false := by
 rw [Bool.eq_false_iff]
 intro ha
 rw [oD.1 ha i hi] at h; cases h
theorem zDr {t : List Ent} (h : ∀ i, 0 < i → (hi : i < t.length) → blt (t[i - 1]'(by omega)).1 t[i].1 = true) : gU t := by
 refine List.pairwise_iff_getElem.2 ?_
 have : ∀ (d i : Nat) (h1 : i + d + 1 < t.length), blt (t[i]'(by omega)).1 (t[i + d + 1]'h1).1 = true := by
  intro d
  induction d with
  | zero => intro i h1; exact h (i + 1) (by omega) h1
  | succ d ih =>
   intro i h1
   have a := ih i (by omega)
   have b := h (i + d + 1 + 1) (by omega) h1
   exact oC a b
 intro i j hi hj hij
 have := this (j - i - 1) i (by omega)
 simpa [show i + (j - i - 1) + 1 = j by omega] using this
theorem zF0 {t : List Ent} {i : Nat} (h : qNb t i = true) (h0 : 0 < i) (hi : i < t.length) : blt (t[i - 1]'(by omega)).1 t[i].1 = true := by
 simp only [qNb, Bool.and_eq_true, Bool.or_eq_true, decide_eq_true_eq] at h
 rcases h.2.2.2 with h | h
 ·omega
 ·rwa [rV hi, rV (by omega)] at h
theorem zDq {t : List Ent} {i : Nat} (h : ∀ j, j < i → qNb t j = true) (hi : i ≤ t.length) : gU (t.take i) := zDr fun j h0 hj => by
 rw [List.length_take] at hj
 have := zF0 (h j (by omega)) h0 (by omega)
 simpa using this
theorem qUr {t : List Ent} (h : okR t = true) : gU t := by
 have := zDq (t := t) (i := t.length) (fun j hj => by
  have := oD.1 h j hj; simp only [qA7, Bool.and_eq_true] at this; exact this.1) (Nat.le_refl _)
 rwa [List.take_length] at this
theorem qRz {t : List Ent} (h : nH t = 0) : t.length ≤ 200 ∧ okR t = true := by
 unfold nH at h
 split at h
 ·cases h
 ·refine ⟨by omega, ?_⟩
  cases e : okR t
  ·rw [e] at h; cases h
  ·rfl
end Go.Tr
namespace Go.Proofs.YtkonlklieacjoaaDoor
open Go Go.Eng Go.RowKit Go.Tr
theorem zG1 : okN true = 0 := rfl
theorem zG2 : okN false = 10 := rfl
set_option maxHeartbeats 8000000 in
theorem qHv (t : List Ent) (hl : t.length ≤ 140737488355328) (hs : ∀ e ∈ t, e.1.size ≤ 1048576) : HFun Tryd.prog 16 [.lst false (aH t)] (fun h st => h = .v (.int .i64 (nH t))) := by
 refine eK (N := 66) Tryd.func16 rfl Tryd.ntmps16 Tryd.results16 (by simp) ?_
 unfold nH
 refine zE ?_; refine zJ (fun K hK => ?_); simp (maxSteps := 2000000) (disch := omega) only [push_cast, ↓Int.cast_ofNat_Int, simprocAttr]; refine hK _ ?_; clear hK K
 by_cases h200 : 200 < t.length
 ·rw [if_pos h200]
  refine zE ?_; refine zE ?_; refine zJ (fun K hK => ?_); simp (maxSteps := 2000000) (disch := omega) only [push_cast, ↓Int.cast_ofNat_Int, simprocAttr, yV]; refine hK _ ?_; clear hK K
  refine yD rfl ?_
  refine zE ?_; refine zJ (fun K hK => ?_); simp (maxSteps := 2000000) (disch := omega) only [push_cast, ↓Int.cast_ofNat_Int, simprocAttr]; refine hK _ ?_; clear hK K
  refine zA ?_; refine zW ?_; refine zK ?_
  simp only [yA, yM, yH, yE, aA, aC, yK, yJ, zS, zM, Nat.reduceEqDiff, reduceIte, reduceCtorEq]
  exact aK rfl
 rw [if_neg h200]
 refine zE ?_; refine zE ?_; refine zJ (fun K hK => ?_); simp (maxSteps := 2000000) (disch := omega) only [push_cast, ↓Int.cast_ofNat_Int, simprocAttr, yV]; refine hK _ ?_; clear hK K
 refine yC rfl ?_
 refine zC ?_; refine zE ?_; refine zE ?_
 refine zJ (fun K hK => ?_); simp (maxSteps := 2000000) (disch := omega) only [push_cast, ↓Int.cast_ofNat_Int, simprocAttr]; refine hK _ ?_; clear hK K
 refine zA ?_; refine zD ?_
 refine bM (fun i : Nat => ⟨[(0, .lst false (aH t)), (3, .v (.int .i64 i))], []⟩) (fun i => i ≤ t.length ∧ ∀ j, j < i → qA7 t j = true) (fun i => t.length - i) [0, 3] [] 0 rfl ⟨Nat.zero_le _, fun j h => by omega⟩ ?_
 rintro i ⟨hi, ha⟩
 by_cases hlt : i < t.length
 ·have hsz := hs _ (List.getElem_mem hlt)
  have bad : qA7 t i = false → okR t = false := fun h => qXl hlt h
  have c34 : HFun Tryd.prog 34 [.v (.string t[i].1), .v (.int .i64 5)] (fun h st => h = .v (.int .i64 (okN (pOk t[i].1 5)))) := qN3 t[i].1 5 hsz (by omega)
  have c18 := qT8 t[i].2
  have hA : qNb t i = (pOk t[i].1 5 && (bL t[i].2 && (!decide (t[i].2.1 = 0) && (decide (i = 0) || blt (atE t (i - 1)).1 t[i].1)))) := by rw [qNb, rV hlt]
  refine zE ?_; refine zE ?_; refine zJ (fun K hK => ?_); simp (maxSteps := 2000000) (disch := omega) only [push_cast, ↓Int.cast_ofNat_Int, simprocAttr, yV]; refine hK _ ?_; clear hK K
  refine zA ?_
  refine yD rfl ?_
  refine zC ?_; refine zE ?_
  refine zD ?_; refine zE ?_; refine zJ (fun K hK => ?_); simp (maxSteps := 2000000) (disch := omega) only [push_cast, ↓Int.cast_ofNat_Int, simprocAttr, yV, yU, yW hlt]; refine hK _ ?_; clear hK K
  have hk0 : ∀ (m : Nat), (m : Int) + 1 - 1 = m := fun m => by omega
  cases hp : pOk t[i].1 5 with
  | false =>
   rw [bad (by rw [qA7, hA, hp]; rfl)]
   rw [hp, zG2] at c34
   refine zE ?_; refine zE ?_; refine zJ (fun K hK => ?_); simp (maxSteps := 2000000) (disch := omega) only [push_cast, ↓Int.cast_ofNat_Int, simprocAttr]
   refine bV qXh c34 (.cons (.v _) (.cons (.v _) .nil)) ?_
   with_reducible refine aB ?_; simp (maxSteps := 2000000) (disch := omega) only [push_cast, ↓Int.cast_ofNat_Int, simprocAttr]
   refine hK _ ?_; clear hK K
   refine zA ?_
   refine yD rfl ?_
   refine zE ?_; refine zJ (fun K hK => ?_); simp (maxSteps := 2000000) (disch := omega) only [push_cast, ↓Int.cast_ofNat_Int, simprocAttr]; refine hK _ ?_; clear hK K
   refine zA ?_; refine zW ?_; refine zK ?_; refine zL ?_; refine zK ?_; refine zK ?_; refine zL ?_; refine zK ?_
   simp only [yA, yM, yH, yE, aA, aC, yK, yJ, zS, zM, Nat.reduceEqDiff, reduceIte, reduceCtorEq]
   exact aK rfl
  | true =>
  rw [hp, zG1] at c34
  cases hw : bL t[i].2 with
  | false =>
   rw [bad (by rw [qA7, hA, hp, hw]; rfl)]
   rw [hw] at c18
   refine zE ?_; refine zE ?_; refine zJ (fun K hK => ?_); simp (maxSteps := 2000000) (disch := omega) only [push_cast, ↓Int.cast_ofNat_Int, simprocAttr]
   refine bV qXh c34 (.cons (.v _) (.cons (.v _) .nil)) ?_
   with_reducible refine aB ?_; simp (maxSteps := 2000000) (disch := omega) only [push_cast, ↓Int.cast_ofNat_Int, simprocAttr, yV, yU, yW hlt]
   refine bV qZg c18 (.cons (bB (n := t[i].2)) .nil) ?_
   with_reducible refine aB ?_; simp (maxSteps := 2000000) (disch := omega) only [push_cast, ↓Int.cast_ofNat_Int, simprocAttr]
   refine hK _ ?_; clear hK K
   refine zA ?_
   refine yD rfl ?_
   refine zE ?_; refine zJ (fun K hK => ?_); simp (maxSteps := 2000000) (disch := omega) only [push_cast, ↓Int.cast_ofNat_Int, simprocAttr]; refine hK _ ?_; clear hK K
   refine zA ?_; refine zW ?_; refine zK ?_; refine zL ?_; refine zK ?_; refine zK ?_; refine zL ?_; refine zK ?_
   simp only [yA, yM, yH, yE, aA, aC, yK, yJ, zS, zM, Nat.reduceEqDiff, reduceIte, reduceCtorEq]
   exact aK rfl
  | true =>
  rw [hw] at c18
  by_cases hk : t[i].2.1 = 0
  ·have hkd : decide (t[i].2.1 = 0) = true := decide_eq_true hk
   rw [bad (by rw [qA7, hA, hp, hw, hkd]; rfl)]
   refine zE ?_; refine zE ?_; refine zJ (fun K hK => ?_); simp (maxSteps := 2000000) (disch := omega) only [push_cast, ↓Int.cast_ofNat_Int, simprocAttr]
   refine bV qXh c34 (.cons (.v _) (.cons (.v _) .nil)) ?_
   with_reducible refine aB ?_; simp (maxSteps := 2000000) (disch := omega) only [push_cast, ↓Int.cast_ofNat_Int, simprocAttr, yV, yU, yW hlt]
   refine bV qZg c18 (.cons (bB (n := t[i].2)) .nil) ?_
   with_reducible refine aB ?_; simp (maxSteps := 2000000) (disch := omega) only [push_cast, ↓Int.cast_ofNat_Int, simprocAttr, yV, yU, yW hlt]
   refine hK _ ?_; clear hK K
   refine zA ?_
   refine yD rfl ?_
   refine zE ?_; refine zJ (fun K hK => ?_); simp (maxSteps := 2000000) (disch := omega) only [push_cast, ↓Int.cast_ofNat_Int, simprocAttr]; refine hK _ ?_; clear hK K
   refine zA ?_; refine zW ?_; refine zK ?_; refine zL ?_; refine zK ?_; refine zK ?_; refine zL ?_; refine zK ?_
   simp only [yA, yM, yH, yE, aA, aC, yK, yJ, zS, zM, Nat.reduceEqDiff, reduceIte, reduceCtorEq]
   exact aK rfl
  have hkd : decide (t[i].2.1 = 0) = false := decide_eq_false hk
  rw [hp, hw, hkd] at hA
  simp only [Bool.true_and, Bool.not_false] at hA
  cases hpv : (decide (i = 0) || blt (atE t (i - 1)).1 t[i].1) with
  | false =>
   rw [bad (by rw [qA7, hA, hpv]; rfl)]
   simp only [Bool.or_eq_false_iff, decide_eq_false_iff_not] at hpv
   obtain ⟨m, rfl⟩ : ∃ m, i = m + 1 := ⟨i - 1, by omega⟩
   have hm : m < t.length := by omega
   have hb : Op.bytesLess t[m].1.toList t[m + 1].1.toList = false := by
    have := hpv.2
    rw [Nat.add_sub_cancel, rV hm] at this; exact this
   refine zE ?_; refine zE ?_; refine zJ (fun K hK => ?_); simp (maxSteps := 2000000) (disch := omega) only [push_cast, ↓Int.cast_ofNat_Int, simprocAttr, hk0]
   refine bV qXh c34 (.cons (.v _) (.cons (.v _) .nil)) ?_
   with_reducible refine aB ?_; simp (maxSteps := 2000000) (disch := omega) only [push_cast, ↓Int.cast_ofNat_Int, simprocAttr, yV, yU, yW hlt, hk0]
   refine bV qZg c18 (.cons (bB (n := t[m + 1].2)) .nil) ?_
   with_reducible refine aB ?_; simp (maxSteps := 2000000) (disch := omega) only [push_cast, ↓Int.cast_ofNat_Int, simprocAttr, yV, yU, yW hlt, hk0, yW hm, hb]
   refine hK _ ?_; clear hK K
   refine zA ?_
   refine yD rfl ?_
   refine zE ?_; refine zJ (fun K hK => ?_); simp (maxSteps := 2000000) (disch := omega) only [push_cast, ↓Int.cast_ofNat_Int, simprocAttr]; refine hK _ ?_; clear hK K
   refine zA ?_; refine zW ?_; refine zK ?_; refine zL ?_; refine zK ?_; refine zK ?_; refine zL ?_; refine zK ?_
   simp only [yA, yM, yH, yE, aA, aC, yK, yJ, zS, zM, Nat.reduceEqDiff, reduceIte, reduceCtorEq]
   exact aK rfl
  | true =>
  rw [hpv] at hA
  refine zE ?_; refine zE ?_
  refine jR (fun _ : Unit => ⟨[(0, .lst false (aH t)), (3, .v (.int .i64 i)), (4, .v (.string t[i].1)), (54, .v (.bool false))], []⟩) (fun _ => True) [0, 3, 4, 54] [] ?_ ?_
  ·rcases Nat.eq_zero_or_pos i with rfl | hpos
   ·refine zJ (fun K hK => ?_); simp (maxSteps := 2000000) (disch := omega) only [push_cast, ↓Int.cast_ofNat_Int, simprocAttr, hk0]
    refine bV qXh c34 (.cons (.v _) (.cons (.v _) .nil)) ?_
    with_reducible refine aB ?_; simp (maxSteps := 2000000) (disch := omega) only [push_cast, ↓Int.cast_ofNat_Int, simprocAttr, yV, yU, yW hlt, hk0]
    refine bV qZg c18 (.cons (bB (n := t[0].2)) .nil) ?_
    with_reducible refine aB ?_; simp (maxSteps := 2000000) (disch := omega) only [push_cast, ↓Int.cast_ofNat_Int, simprocAttr, yV, yU, yW hlt, hk0]
    refine hK _ ?_; clear hK K
    exact ⟨(), by simp only [zZ, zR, zP, zQ, zN, zS, zM, zX, zU, Nat.reduceEqDiff, reduceIte]; rfl, trivial⟩
   ·obtain ⟨m, rfl⟩ : ∃ m, i = m + 1 := ⟨i - 1, by omega⟩
    have hm : m < t.length := by omega
    have hb : Op.bytesLess t[m].1.toList t[m + 1].1.toList = true := by
     simp only [Bool.or_eq_true, decide_eq_true_eq] at hpv
     rcases hpv with h | h
     ·omega
     ·rw [Nat.add_sub_cancel, rV hm] at h; exact h
    refine zJ (fun K hK => ?_); simp (maxSteps := 2000000) (disch := omega) only [push_cast, ↓Int.cast_ofNat_Int, simprocAttr, hk0]
    refine bV qXh c34 (.cons (.v _) (.cons (.v _) .nil)) ?_
    with_reducible refine aB ?_; simp (maxSteps := 2000000) (disch := omega) only [push_cast, ↓Int.cast_ofNat_Int, simprocAttr, yV, yU, yW hlt, hk0]
    refine bV qZg c18 (.cons (bB (n := t[m + 1].2)) .nil) ?_
    with_reducible refine aB ?_; simp (maxSteps := 2000000) (disch := omega) only [push_cast, ↓Int.cast_ofNat_Int, simprocAttr, yV, yU, yW hlt, hk0, yW hm, hb]
    refine hK _ ?_; clear hK K
    exact ⟨(), by simp only [zZ, zR, zP, zQ, zN, zS, zM, zX, zU, Nat.reduceEqDiff, reduceIte]; rfl, trivial⟩
  intro S' _ hE _
  refine zA ?_
  refine yB [0, 3, 4, 54] [] hE ?_
  clear hE
  refine yC rfl ?_
  refine zC ?_; refine zE ?_
  have cp := qN4 t[i].1 hsz
  have cg := qSs t (par t[i].1) hl
  have hP : qX8 t (atE t i) = (decide (par t[i].1 = { data := #[] }) || decide ((bW t (par t[i].1)).1 = 1)) := by rw [qX8, rV hlt]
  have hR : qA7 t i = qX8 t (atE t i) := by rw [qA7, hA, Bool.true_and]
  cases he : decide (par t[i].1 = { data := #[] }) with
  | true =>
   have hgood : qA7 t i = true := by rw [hR, hP, he]; rfl
   refine zJ (fun K hK => ?_); simp (maxSteps := 2000000) (disch := omega) only [push_cast, ↓Int.cast_ofNat_Int, simprocAttr]
   refine bV zE5 cp (.cons (.v _) .nil) ?_
   with_reducible refine aB ?_; simp (maxSteps := 2000000) (disch := omega) only [push_cast, ↓Int.cast_ofNat_Int, simprocAttr, he]
   refine hK _ ?_; clear hK K
   refine yC rfl ?_
   refine zC ?_; refine zB ?_; refine zA ?_
   refine zJ (fun K hK => ?_); simp (maxSteps := 2000000) (disch := omega) only [push_cast, ↓Int.cast_ofNat_Int, simprocAttr]; refine hK _ ?_; clear hK K
   refine zA ?_
   exact ⟨i + 1, rfl, ⟨hlt, fun j hj => if h : j = i then h ▸ hgood else ha j (by omega)⟩, by omega⟩
  | false =>
   have hk1 : ∀ b, decide ((bW t (par t[i].1)).1 = 1) = b → qA7 t i = b := fun b hb => by rw [hR, hP, he, hb]; rfl
   generalize hg : bW t (par t[i].1) = n at cg hk1
   obtain ⟨k, d⟩ := n
   dsimp only at hk1
   by_cases hk1' : k = 1
   ·have hgood := hk1 true (decide_eq_true hk1')
    refine zJ (fun K hK => ?_); simp (maxSteps := 2000000) (disch := omega) only [push_cast, ↓Int.cast_ofNat_Int, simprocAttr]
    refine bV zE5 cp (.cons (.v _) .nil) ?_
    with_reducible refine aB ?_; simp (maxSteps := 2000000) (disch := omega) only [push_cast, ↓Int.cast_ofNat_Int, simprocAttr, he]
    refine bV zE5 cp (.cons (.v _) .nil) ?_
    with_reducible refine aB ?_; simp (maxSteps := 2000000) (disch := omega) only [push_cast, ↓Int.cast_ofNat_Int, simprocAttr, he]
    refine hat 496 zE6 cg (.cons (aN (yT _)) (.cons (.v _) .nil)) ?_
    rintro _ _ ⟨rfl, rfl⟩
    with_reducible refine aB ?_; simp (maxSteps := 2000000) (disch := omega) only [push_cast, ↓Int.cast_ofNat_Int, simprocAttr, he]
    refine hK _ ?_; clear hK K
    refine yC rfl ?_
    refine zC ?_; refine zB ?_; refine zA ?_
    refine zJ (fun K hK => ?_); simp (maxSteps := 2000000) (disch := omega) only [push_cast, ↓Int.cast_ofNat_Int, simprocAttr]; refine hK _ ?_; clear hK K
    refine zA ?_
    exact ⟨i + 1, rfl, ⟨hlt, fun j hj => if h : j = i then h ▸ hgood else ha j (by omega)⟩, by omega⟩
   ·rw [bad (hk1 false (decide_eq_false hk1'))]
    refine zJ (fun K hK => ?_); simp (maxSteps := 2000000) (disch := omega) only [push_cast, ↓Int.cast_ofNat_Int, simprocAttr]
    refine bV zE5 cp (.cons (.v _) .nil) ?_
    with_reducible refine aB ?_; simp (maxSteps := 2000000) (disch := omega) only [push_cast, ↓Int.cast_ofNat_Int, simprocAttr, he]
    refine bV zE5 cp (.cons (.v _) .nil) ?_
    with_reducible refine aB ?_; simp (maxSteps := 2000000) (disch := omega) only [push_cast, ↓Int.cast_ofNat_Int, simprocAttr, he]
    refine hat 496 zE6 cg (.cons (aN (yT _)) (.cons (.v _) .nil)) ?_
    rintro _ _ ⟨rfl, rfl⟩
    with_reducible refine aB ?_; simp (maxSteps := 2000000) (disch := omega) only [push_cast, ↓Int.cast_ofNat_Int, simprocAttr, he]
    refine hK _ ?_; clear hK K
    refine yD rfl ?_
    refine zE ?_; refine zJ (fun K hK => ?_); simp (maxSteps := 2000000) (disch := omega) only [push_cast, ↓Int.cast_ofNat_Int, simprocAttr]; refine hK _ ?_; clear hK K
    refine zA ?_; refine zW ?_; refine zL ?_; refine zK ?_; refine zK ?_; refine zL ?_; refine zK ?_
    simp only [yA, yM, yH, yE, aA, aC, yK, yJ, zS, zM, Nat.reduceEqDiff, reduceIte, reduceCtorEq]
    exact aK rfl
 ·have hne : i = t.length := by omega
  subst hne
  have hok : okR t = true := oD.2 ha
  rw [hok]
  refine zE ?_; refine zE ?_; refine zJ (fun K hK => ?_); simp (maxSteps := 2000000) (disch := omega) only [push_cast, ↓Int.cast_ofNat_Int, simprocAttr, yV]; refine hK _ ?_; clear hK K
  refine zA ?_
  refine yC rfl ?_
  refine zT ?_; refine zG ?_; refine zG ?_; refine zH ?_; refine zE ?_
  refine zJ (fun K hK => ?_); simp (maxSteps := 2000000) (disch := omega) only [push_cast, ↓Int.cast_ofNat_Int, simprocAttr]; refine hK _ ?_; clear hK K
  refine zA ?_; refine zW ?_
  simp only [yA, yM, yH, yE, aA, aC, yK, yJ, zS, zM, Nat.reduceEqDiff, reduceIte, reduceCtorEq]
  exact aK rfl
end Go.Proofs.YtkonlklieacjoaaDoor
