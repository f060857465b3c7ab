/-
  The reference's disk: what only reads it, further (qRj, Used, fits, List, Read, Stamp): walked.
-/
import Derived.Test.YtojolcpblacjjaaGreatDoorDkI
import Derived.Test.YtojolcpblacjjaaGreatDoorDlC
set_option linter.unusedSimpArgs false
set_option linter.unusedVariables false
set_option maxRecDepth 20000
namespace Go.Dk
open Go Go.Eng Go.Tr
theorem gS (d : Dk) (p : ByteArray) : (has d p = false ∧ hZ d p = 0) ∨ (has d p = true ∧ (aQ d p).dir = true ∧ hZ d p = 1) ∨ (has d p = true ∧ (aQ d p).dir = false ∧ hZ d p = 2) := by
 unfold hZ
 cases has d p <;> cases (aQ d p).dir <;> simp
theorem qVb (v : ByteArray) {L : LI} {i : Nat} (h : i < L.length) : pX v (L.take (i + 1)) = pX v (L.take i) + (if vol L[i].1 = v then (L[i].2.data.size : Int) else 0) := by
 induction L generalizing i with
 | nil => simp at h
 | cons e r ih =>
  cases i with
  | zero => simp [pX]
  | succ i =>
   have := ih (i := i) (by simpa using h)
   simp only [List.take_succ_cons, pX, this, List.getElem_cons_succ]
   omega
theorem qBd (v : ByteArray) : ∀ (L : LI), 0 ≤ pX v L ∧ pX v L ≤ tot L
 | [] => ⟨Int.le_refl _, Int.le_refl _⟩
 | (p, x) :: r => by
  have := qBd v r
  rw [pX, tot]
  split <;> omega
theorem qF6 : ∀ (L : LI) (i : Nat), tot (L.take i) ≤ tot L
 | [], i => by simp
 | (p, x) :: r, 0 => by have := qAu r; simp only [List.take_zero, tot]; omega
 | (p, x) :: r, i + 1 => by have := qF6 r i; simp only [List.take_succ_cons, tot]; omega
theorem zAs (p : ByteArray) {L : LI} {i : Nat} (h : i < L.length) : (((L.take (i + 1)).filter fun e => decide (par e.1 = p)).map fun e => e.1) = (((L.take i).filter fun e => decide (par e.1 = p)).map fun e => e.1) ++ if par L[i].1 = p then [L[i].1] else [] := by
 rw [List.take_succ_eq_append_getElem h, List.filter_append, List.map_append]
 by_cases e : par L[i].1 = p
 ·simp [e]
 ·simp [e]
end Go.Dk
namespace Go.Proofs.YtojolcpblacjjaaGreatDoor
open Go Go.Eng Go.RowKit Go.Tr Go.Dk
set_option maxHeartbeats 1000000 in
theorem qGu (d : Dk) (R : LN) (p : ByteArray) (hs : p.size ≤ 1048576) (hl : d.L.length ≤ 4194304) : HFun Tryz.prog 57 [dE d R, .v (.string p)] (fun h st => h = .v (.int .i64 (fE d p))) := by
 refine iB (N := 20) Tryz.func57 rfl Tryz.ntmps57 Tryz.results57 (by simp) ?_
 have hc := rN d R p 1 hs
 have hk := kZ d R p hl
 have hE := qM7 (st := []) d R
 refine zE ?_; refine zJ (fun K hK => ?_); simp (disch := omega) only [push_cast, ↓Int.cast_ofNat_Int, simprocAttr]; refine hK _ ?_; clear hK K
 refine zE ?_; refine zJ (fun K hK => ?_); simp (disch := omega) only [push_cast, ↓Int.cast_ofNat_Int, simprocAttr]
 refine cG zBc hc (.cons hE (.cons (.v _) (.cons (.v _) .nil))) ?_
 with_reducible refine aM ?_; simp (disch := omega) only [push_cast, ↓Int.cast_ofNat_Int, simprocAttr]
 refine hK _ ?_; clear hK K
 rcases (Decidable.em (may d p 1 = 0)).symm with h0 | h0
 ·have hr : fE d p = may d p 1 := by simp [fE, h0]
  rw [hr]
  refine zE ?_; refine zE ?_; refine zJ (fun K hK => ?_); simp (disch := omega) only [push_cast, ↓Int.cast_ofNat_Int, simprocAttr]; refine hK _ ?_; clear hK K
  refine zA ?_
  refine bE rfl (fun _ => ?_) (fun h => by simp [h0] at h)
  refine zE ?_; refine zJ (fun K hK => ?_); simp (disch := omega) only [push_cast, ↓Int.cast_ofNat_Int, simprocAttr]; refine hK _ ?_; clear hK K
  refine zA ?_; refine zW ?_; refine zK ?_
  simp only [yA, yM, yH, yE, aP, aX, yK, yJ, zS, zM, Nat.reduceEqDiff, reduceIte, reduceCtorEq]
  exact bJ rfl
 rw [h0]
 refine zE ?_; refine zE ?_; refine zJ (fun K hK => ?_); simp (disch := omega) only [push_cast, ↓Int.cast_ofNat_Int, simprocAttr]; refine hK _ ?_; clear hK K
 refine zA ?_
 refine yC rfl ?_
 rcases gS d p with ⟨a, b⟩ | ⟨a, a2, b⟩ | ⟨a, a2, b⟩
 ·rw [b] at hk
  have hr : fE d p = 11 := by simp [fE, h0, a]
  rw [hr]
  refine zC ?_; refine zE ?_; refine zE ?_; refine zJ (fun K hK => ?_); simp (disch := omega) only [push_cast, ↓Int.cast_ofNat_Int, simprocAttr]
  refine cG mU hk (.cons hE (.cons (.v _) .nil)) ?_
  with_reducible refine aM ?_; simp (disch := omega) only [push_cast, ↓Int.cast_ofNat_Int, simprocAttr]
  refine hK _ ?_; clear hK K
  refine zA ?_
  refine yD rfl ?_
  refine zE ?_; refine zJ (fun K hK => ?_); simp (disch := omega) only [push_cast, ↓Int.cast_ofNat_Int, simprocAttr]; refine hK _ ?_; clear hK K
  refine zA ?_; refine zW ?_; refine zK ?_
  simp only [yA, yM, yH, yE, aP, aX, yK, yJ, zS, zM, Nat.reduceEqDiff, reduceIte, reduceCtorEq]
  exact bJ rfl
 ·rw [b] at hk
  have hr : fE d p = 12 := by simp [fE, h0, a, a2]
  rw [hr]
  refine zC ?_; refine zE ?_; refine zE ?_; refine zJ (fun K hK => ?_); simp (disch := omega) only [push_cast, ↓Int.cast_ofNat_Int, simprocAttr]
  refine cG mU hk (.cons hE (.cons (.v _) .nil)) ?_
  with_reducible refine aM ?_; simp (disch := omega) only [push_cast, ↓Int.cast_ofNat_Int, simprocAttr]
  refine hK _ ?_; clear hK K
  refine zA ?_
  refine yC rfl ?_
  refine zC ?_; refine zE ?_; refine zE ?_; refine zJ (fun K hK => ?_); simp (disch := omega) only [push_cast, ↓Int.cast_ofNat_Int, simprocAttr]
  refine cG mU hk (.cons hE (.cons (.v _) .nil)) ?_
  with_reducible refine aM ?_; simp (disch := omega) only [push_cast, ↓Int.cast_ofNat_Int, simprocAttr]
  refine hK _ ?_; clear hK K
  refine zA ?_
  refine yD rfl ?_
  refine zE ?_; refine zJ (fun K hK => ?_); simp (disch := omega) only [push_cast, ↓Int.cast_ofNat_Int, simprocAttr]; refine hK _ ?_; clear hK K
  refine zA ?_; refine zW ?_; refine zK ?_
  simp only [yA, yM, yH, yE, aP, aX, yK, yJ, zS, zM, Nat.reduceEqDiff, reduceIte, reduceCtorEq]
  exact bJ rfl
 ·rw [b] at hk
  have hr : fE d p = 0 := by simp [fE, h0, a, a2]
  rw [hr]
  refine zC ?_; refine zE ?_; refine zE ?_; refine zJ (fun K hK => ?_); simp (disch := omega) only [push_cast, ↓Int.cast_ofNat_Int, simprocAttr]
  refine cG mU hk (.cons hE (.cons (.v _) .nil)) ?_
  with_reducible refine aM ?_; simp (disch := omega) only [push_cast, ↓Int.cast_ofNat_Int, simprocAttr]
  refine hK _ ?_; clear hK K
  refine zA ?_
  refine yC rfl ?_
  refine zC ?_; refine zE ?_; refine zE ?_; refine zJ (fun K hK => ?_); simp (disch := omega) only [push_cast, ↓Int.cast_ofNat_Int, simprocAttr]
  refine cG mU hk (.cons hE (.cons (.v _) .nil)) ?_
  with_reducible refine aM ?_; simp (disch := omega) only [push_cast, ↓Int.cast_ofNat_Int, simprocAttr]
  refine hK _ ?_; clear hK K
  refine zA ?_
  refine yC rfl ?_
  refine zC ?_; refine zE ?_; refine zJ (fun K hK => ?_); simp (disch := omega) only [push_cast, ↓Int.cast_ofNat_Int, simprocAttr]; refine hK _ ?_; clear hK K
  refine zA ?_; refine zW ?_
  simp only [yA, yM, yH, yE, aP, aX, yK, yJ, zS, zM, Nat.reduceEqDiff, reduceIte, reduceCtorEq]
  exact bJ rfl
set_option maxHeartbeats 2000000 in
theorem qW8 (d : Dk) (R : LN) (v : ByteArray) (hl : d.L.length ≤ 4194304) (hke : ∀ e ∈ d.L, e.1.size ≤ 1048576) (hto : tot d.L ≤ 1099511627776) : HFun Tryz.prog 39 [dE d R, .v (.string v)] (fun h st => h = .v (.int .i64 (used d v))) := by
 refine iB (N := 39) Tryz.func39 rfl Tryz.ntmps39 Tryz.results39 (by simp) ?_
 have hw := qB d R
 have hg := qC d R
 unfold used
 obtain ⟨L, Rq, steps, stamps, armed, down, n, m⟩ := d
 simp only [dE, mB] at hl hke hto hw hg ⊢
 refine zE ?_; refine zJ (fun K hK => ?_); simp (disch := omega) only [push_cast, ↓Int.cast_ofNat_Int, simprocAttr]; refine hK _ ?_; clear hK K
 refine zE ?_; refine zJ (fun K hK => ?_); simp (disch := omega) only [push_cast, ↓Int.cast_ofNat_Int, simprocAttr]; refine hK _ ?_; clear hK K
 refine zE ?_; refine zE ?_; refine zJ (fun K hK => ?_); simp (disch := omega) only [push_cast, ↓Int.cast_ofNat_Int, simprocAttr]; refine hK _ ?_; clear hK K
 refine zA ?_; refine zD ?_
 refine dU (fun i : Nat => ⟨[(0, .elt false [[.lst false (dS L), .lst false (rms R), .v (.int .i64 steps), .v (.int .i64 stamps), .v (.int .i64 armed), .v (.bool down)]] 6 0 0), (1, .v (.string v)), (5, .v (.int .i64 (pX v (L.take i)))), (6, .v (.int .i64 i))], []⟩) (fun i => i ≤ L.length) (fun i => L.length - i) [0, 1, 5, 6] [] 0 rfl (Nat.zero_le _) ?_
 rintro i hi
 by_cases hlt : i < L.length
 ·have h1 := qVb v hlt
  have h2 := qBd v (L.take i)
  have h3 := qF6 L i
  have h4 := hke _ (List.getElem_mem hlt)
  have h5 := qBd v (L.take (i + 1))
  have h6 := qF6 L (i + 1)
  refine zE ?_; refine zE ?_; refine zJ (fun K hK => ?_); simp (disch := omega) only [push_cast, ↓Int.cast_ofNat_Int, simprocAttr, bD, hw, hg]; refine hK _ ?_; clear hK K
  refine zA ?_
  refine yD rfl ?_
  refine zC ?_; refine zE ?_
  refine zD ?_; refine zE ?_; refine zJ (fun K hK => ?_); simp (disch := omega) only [push_cast, ↓Int.cast_ofNat_Int, simprocAttr, bD, bQ, bV hlt, hw, hg]
  refine cG zBa (qQk _ h4) (.cons (.v _) .nil) ?_
  with_reducible refine aM ?_; simp (disch := omega) only [push_cast, ↓Int.cast_ofNat_Int, simprocAttr]
  refine hK _ ?_; clear hK K
  by_cases hv : vol L[i].1 = v
  ·rw [if_pos hv] at h1
   refine bE rfl (fun _ => ?_) (fun hf => by simp [hv] at hf)
   generalize pX v (L.take i) = a at *
   refine zJ (fun K hK => ?_); simp (disch := omega) only [push_cast, ↓Int.cast_ofNat_Int, simprocAttr, bD, bQ, bV hlt, hw, hg]; refine hK _ ?_; clear hK K
   refine zB ?_; refine zA ?_
   refine zJ (fun K hK => ?_); simp (disch := omega) only [push_cast, ↓Int.cast_ofNat_Int, simprocAttr]; refine hK _ ?_; clear hK K
   refine zA ?_
   exact ⟨i + 1, by simp only [zZ, zR, zP, zQ, zN, zS, zM, zX, zU, Nat.reduceEqDiff, reduceIte]; rw [h1]; rfl, hlt, by omega⟩
  ·rw [if_neg hv] at h1
   refine bE rfl (fun ht => by simp [hv] at ht) (fun _ => ?_)
   refine zC ?_; refine zB ?_; refine zA ?_
   refine zJ (fun K hK => ?_); simp (disch := omega) only [push_cast, ↓Int.cast_ofNat_Int, simprocAttr]; refine hK _ ?_; clear hK K
   refine zA ?_
   exact ⟨i + 1, by simp only [zZ, zR, zP, zQ, zN, zS, zM, zX, zU, Nat.reduceEqDiff, reduceIte]; rw [h1, Int.add_zero]; rfl, hlt, by omega⟩
 ·have hne : i = L.length := by omega
  subst hne
  rw [List.take_length]
  refine zE ?_; refine zE ?_; refine zJ (fun K hK => ?_); simp (disch := omega) only [push_cast, ↓Int.cast_ofNat_Int, simprocAttr, bD, hw, hg]; refine hK _ ?_; clear hK K
  refine zA ?_
  refine yC rfl ?_
  refine zT ?_; refine zG ?_; refine zG ?_; refine zH ?_; refine zE ?_
  refine zJ (fun K hK => ?_); simp (disch := omega) only [push_cast, ↓Int.cast_ofNat_Int, simprocAttr]; refine hK _ ?_; clear hK K
  refine zA ?_; refine zW ?_
  simp only [yA, yM, yH, yE, aP, aX, yK, yJ, zS, zM, Nat.reduceEqDiff, reduceIte, reduceCtorEq]
  exact bJ rfl
set_option maxHeartbeats 2000000 in
theorem qQn (d : Dk) (R : LN) (p : ByteArray) (hl : d.L.length ≤ 4194304) (hke : ∀ e ∈ d.L, e.1.size ≤ 1048576) : HFun Tryz.prog 41 [dE d R, .v (.string p)] (fun h st => h = .own 0 ∧ st = [(0, .sl true 9 1 (cR (mF d p)))]) := by
 refine iB (N := 39) Tryz.func41 rfl Tryz.ntmps41 Tryz.results41 (by simp) ?_
 have hw := qB d R
 have hg := qC d R
 unfold mF
 obtain ⟨L, Rq, steps, stamps, armed, down, n, m⟩ := d
 simp only [dE, mB] at hl hke hw hg ⊢
 refine zE ?_; refine zJ (fun K hK => ?_); simp (disch := omega) only [push_cast, ↓Int.cast_ofNat_Int, simprocAttr]; refine hK _ ?_; clear hK K
 refine zE ?_; refine zJ (fun K hK => ?_); simp (disch := omega) only [push_cast, ↓Int.cast_ofNat_Int, simprocAttr]; refine hK _ ?_; clear hK K
 refine zE ?_; refine zE ?_; refine zJ (fun K hK => ?_); simp (disch := omega) only [push_cast, ↓Int.cast_ofNat_Int, simprocAttr]; refine hK _ ?_; clear hK K
 refine zA ?_; refine zD ?_
 refine qFv 5 9000 9 1 rfl (by simp only [xZ, qDb, qDd, fY, eV, fP, eN, lC, fW, iA, fV, fU, iT, fX, fT, eU, iM, iP, iN, lA, tA, nE, Nat.reduceBEq, Nat.reduceEqDiff, reduceIte, cond_true, cond_false, List.map_cons, List.map_nil]; exact rfl) ?_
 refine dU (fun i : Nat => ⟨[(0, .elt false [[.lst false (dS L), .lst false (rms R), .v (.int .i64 steps), .v (.int .i64 stamps), .v (.int .i64 armed), .v (.bool down)]] 6 0 0), (1, .v (.string p)), (5, .own 9000), (6, .v (.int .i64 i))], [(9000, .sl true 9 1 (cR (((L.take i).filter fun e => decide (par e.1 = p)).map fun e => e.1)))]⟩) (fun i => i ≤ L.length) (fun i => L.length - i) [0, 1, 5, 6] [9000] 0 (by simp only [zZ, zR, zP, zQ, zN, zS, zM, zX, zU, Nat.reduceEqDiff, reduceIte]; rfl) (Nat.zero_le _) ?_
 rintro i hi
 by_cases hlt : i < L.length
 ·have h1 := zAs p hlt
  have h4 := hke _ (List.getElem_mem hlt)
  have h5 : (((L.take i).filter fun e => decide (par e.1 = p)).map fun e => e.1).length ≤ i := by
   rw [List.length_map]
   exact Nat.le_trans (List.length_filter_le _ _) (by rw [List.length_take]; omega)
  refine zE ?_; refine zE ?_; refine zJ (fun K hK => ?_); simp (disch := omega) only [push_cast, ↓Int.cast_ofNat_Int, simprocAttr, bD, hw, hg]; refine hK _ ?_; clear hK K
  refine zA ?_
  refine yD rfl ?_
  refine zC ?_; refine zE ?_
  refine zD ?_; refine zE ?_; refine zJ (fun K hK => ?_); simp (disch := omega) only [push_cast, ↓Int.cast_ofNat_Int, simprocAttr, bD, bQ, bV hlt, hw, hg]
  refine cG zGv (qMd _ h4) (.cons (.v _) .nil) ?_
  with_reducible refine aM ?_; simp (disch := omega) only [push_cast, ↓Int.cast_ofNat_Int, simprocAttr]
  refine hK _ ?_; clear hK K
  by_cases hv : par L[i].1 = p
  ·rw [if_pos hv] at h1
   refine bE rfl (fun _ => ?_) (fun hf => by simp [hv] at hf)
   generalize (((L.take i).filter fun e => decide (par e.1 = p)).map fun e => e.1) = a at *
   refine zJ (fun K hK => ?_); simp (disch := omega) only [push_cast, ↓Int.cast_ofNat_Int, simprocAttr, cH, bD, bQ, bV hlt, hw, hg]
   (repeat refine ⟨by first | omega | decide | ((repeat' apply And.intro) <;> first | omega | decide), ?_⟩)
   refine hK _ ?_; clear hK K
   refine zB ?_; refine zA ?_
   refine zJ (fun K hK => ?_); simp (disch := omega) only [push_cast, ↓Int.cast_ofNat_Int, simprocAttr]; refine hK _ ?_; clear hK K
   refine zA ?_
   exact ⟨i + 1, by simp only [zZ, zR, zP, zQ, zN, zS, zM, zX, zU, Nat.reduceEqDiff, reduceIte]; rw [h1, ← qC7]; rfl, hlt, by omega⟩
  ·rw [if_neg hv, List.append_nil] at h1
   refine bE rfl (fun ht => by simp [hv] at ht) (fun _ => ?_)
   refine zC ?_; refine zB ?_; refine zA ?_
   refine zJ (fun K hK => ?_); simp (disch := omega) only [push_cast, ↓Int.cast_ofNat_Int, simprocAttr]; refine hK _ ?_; clear hK K
   refine zA ?_
   exact ⟨i + 1, by simp only [zZ, zR, zP, zQ, zN, zS, zM, zX, zU, Nat.reduceEqDiff, reduceIte]; rw [h1]; rfl, hlt, by omega⟩
 ·have hne : i = L.length := by omega
  subst hne
  rw [List.take_length]
  refine zE ?_; refine zE ?_; refine zJ (fun K hK => ?_); simp (disch := omega) only [push_cast, ↓Int.cast_ofNat_Int, simprocAttr, bD, hw, hg]; refine hK _ ?_; clear hK K
  refine zA ?_
  refine yC rfl ?_
  refine zT ?_; refine zG ?_; refine zG ?_; refine zH ?_; refine zE ?_
  refine zJ (fun K hK => ?_); simp (disch := omega) only [push_cast, ↓Int.cast_ofNat_Int, simprocAttr]; refine hK _ ?_; clear hK K
  refine zA ?_; refine zW ?_
  simp only [yA, yM, yH, yE, aP, aX, yK, yJ, zS, zM, Nat.reduceEqDiff, reduceIte, reduceCtorEq]
  exact zDm rfl (tT _) ⟨rfl, rfl⟩
set_option maxHeartbeats 1000000 in
theorem zF4 (d : Dk) (R : LN) (p : ByteArray) (hl : d.L.length ≤ 4194304) : HFun Tryz.prog 35 [dE d R, .v (.string p)] (fun h st => h = .tup ([.string (nX d p).1, .int .i64 (nX d p).2].map .v)) := by
 refine iB (N := 28) Tryz.func35 rfl Tryz.ntmps35 Tryz.results35 (by simp) ?_
 have hk := kZ d R p hl
 have hpl := jW d R p hl
 have hw := qB d R
 have hg := qC d R
 have hE := qM7 (st := []) d R
 simp only [dE, mB] at hk hpl hw hg hE ⊢
 unfold nX
 refine zE ?_; refine zJ (fun K hK => ?_); simp (disch := omega) only [push_cast, ↓Int.cast_ofNat_Int, simprocAttr]; refine hK _ ?_; clear hK K
 cases hd : d.down with
 | true =>
  rw [hd] at hw hg
  refine zE ?_; refine zE ?_; refine zJ (fun K hK => ?_); simp (disch := omega) only [push_cast, ↓Int.cast_ofNat_Int, simprocAttr, hw, hg]; refine hK _ ?_; clear hK K
  refine zA ?_
  refine yD rfl ?_
  refine zE ?_; refine zJ (fun K hK => ?_); simp (disch := omega) only [push_cast, ↓Int.cast_ofNat_Int, simprocAttr]; refine hK _ ?_; clear hK K
  refine zA ?_; refine zW ?_; refine zK ?_
  simp only [yA, yM, yH, yE, aP, aX, yK, yJ, zS, zM, Nat.reduceEqDiff, reduceIte, reduceCtorEq]
  exact qFr rfl
 | false =>
  rw [hd] at hw hg hk hpl hE
  refine zE ?_; refine zE ?_; refine zJ (fun K hK => ?_); simp (disch := omega) only [push_cast, ↓Int.cast_ofNat_Int, simprocAttr, hw, hg]; refine hK _ ?_; clear hK K
  refine zA ?_
  refine yC rfl ?_
  rcases gS d p with ⟨a, b⟩ | ⟨a, a2, b⟩ | ⟨a, a2, b⟩
  ·rw [b] at hk
   refine zC ?_; refine zE ?_; refine zE ?_; refine zJ (fun K hK => ?_); simp (disch := omega) only [push_cast, ↓Int.cast_ofNat_Int, simprocAttr]
   refine cG mU hk (.cons hE (.cons (.v _) .nil)) ?_
   with_reducible refine aM ?_; simp (disch := omega) only [push_cast, ↓Int.cast_ofNat_Int, simprocAttr]
   refine hK _ ?_; clear hK K
   refine zA ?_
   refine yD rfl ?_
   refine zE ?_; refine zJ (fun K hK => ?_); simp (disch := omega) only [push_cast, ↓Int.cast_ofNat_Int, simprocAttr]; refine hK _ ?_; clear hK K
   refine zA ?_; refine zW ?_; refine zK ?_
   simp only [yA, yM, yH, yE, aP, aX, yK, yJ, zS, zM, Nat.reduceEqDiff, reduceIte, reduceCtorEq]
   exact qFr (by simp [a]; rfl)
  ·rw [b] at hk
   refine zC ?_; refine zE ?_; refine zE ?_; refine zJ (fun K hK => ?_); simp (disch := omega) only [push_cast, ↓Int.cast_ofNat_Int, simprocAttr]
   refine cG mU hk (.cons hE (.cons (.v _) .nil)) ?_
   with_reducible refine aM ?_; simp (disch := omega) only [push_cast, ↓Int.cast_ofNat_Int, simprocAttr]
   refine hK _ ?_; clear hK K
   refine zA ?_
   refine yC rfl ?_
   refine zC ?_; refine zE ?_; refine zE ?_; refine zJ (fun K hK => ?_); simp (disch := omega) only [push_cast, ↓Int.cast_ofNat_Int, simprocAttr]
   refine cG mU hk (.cons hE (.cons (.v _) .nil)) ?_
   with_reducible refine aM ?_; simp (disch := omega) only [push_cast, ↓Int.cast_ofNat_Int, simprocAttr]
   refine hK _ ?_; clear hK K
   refine zA ?_
   refine yD rfl ?_
   refine zE ?_; refine zJ (fun K hK => ?_); simp (disch := omega) only [push_cast, ↓Int.cast_ofNat_Int, simprocAttr]; refine hK _ ?_; clear hK K
   refine zA ?_; refine zW ?_; refine zK ?_
   simp only [yA, yM, yH, yE, aP, aX, yK, yJ, zS, zM, Nat.reduceEqDiff, reduceIte, reduceCtorEq]
   exact qFr (by simp [a, a2]; rfl)
  ·rw [b] at hk
   refine zC ?_; refine zE ?_; refine zE ?_; refine zJ (fun K hK => ?_); simp (disch := omega) only [push_cast, ↓Int.cast_ofNat_Int, simprocAttr]
   refine cG mU hk (.cons hE (.cons (.v _) .nil)) ?_
   with_reducible refine aM ?_; simp (disch := omega) only [push_cast, ↓Int.cast_ofNat_Int, simprocAttr]
   refine hK _ ?_; clear hK K
   refine zA ?_
   refine yC rfl ?_
   refine zC ?_; refine zE ?_; refine zE ?_; refine zJ (fun K hK => ?_); simp (disch := omega) only [push_cast, ↓Int.cast_ofNat_Int, simprocAttr]
   refine cG mU hk (.cons hE (.cons (.v _) .nil)) ?_
   with_reducible refine aM ?_; simp (disch := omega) only [push_cast, ↓Int.cast_ofNat_Int, simprocAttr]
   refine hK _ ?_; clear hK K
   refine zA ?_
   refine yC rfl ?_
   cases hp : plc p d.L with
   | none => rw [wC hp] at b; cases b
   | some i =>
    obtain ⟨hi, -, e3, -, -⟩ := mN hp
    rw [fR hp] at hpl
    refine zC ?_; refine zE ?_; refine iD 10 mixed (by kernel_rfl) (fun K hK => ?_); simp (disch := omega) only [push_cast, ↓Int.cast_ofNat_Int, simprocAttr, bD, bQ, bV hi, hw, hg]
    refine gK qLv hpl (.cons hE (.cons (.v _) .nil)) ?_
    with_reducible refine aM ?_; simp (disch := omega) only [push_cast, ↓Int.cast_ofNat_Int, simprocAttr, bD, bQ, bV hi, hw, hg]
    with_reducible refine aM ?_; simp (disch := omega) only [push_cast, ↓Int.cast_ofNat_Int, simprocAttr]
    refine hK _ ?_; clear hK K
    refine zA ?_; refine zW ?_
    simp only [yA, yM, yH, yE, aP, aX, yK, yJ, zS, zM, Nat.reduceEqDiff, reduceIte, reduceCtorEq]
    rw [e3] at a2
    exact qFr (by simp [a, a2, e3])
set_option maxHeartbeats 1000000 in
theorem zB6 (d : Dk) (R : LN) (p : ByteArray) (hl : d.L.length ≤ 4194304) : HFun Tryz.prog 38 [dE d R, .v (.string p)] (fun h st => h = .v (.int .i64 (qQd d p))) := by
 refine iB (N := 19) Tryz.func38 rfl Tryz.ntmps38 Tryz.results38 (by simp) ?_
 have hk := kZ d R p hl
 have hpl := jW d R p hl
 have hw := qB d R
 have hg := qC d R
 have hE := qM7 (st := []) d R
 simp only [dE, mB] at hk hpl hw hg hE ⊢
 unfold qQd
 cases hp : plc p d.L with
 | none =>
  rw [wC hp] at hk
  have e0 : aQ d p = itm0 := by rw [aQ, (oF hp).1]; rfl
  rw [e0]
  refine zE ?_; refine zJ (fun K hK => ?_); simp (disch := omega) only [push_cast, ↓Int.cast_ofNat_Int, simprocAttr]; refine hK _ ?_; clear hK K
  refine zE ?_; refine zE ?_; refine zJ (fun K hK => ?_); simp (disch := omega) only [push_cast, ↓Int.cast_ofNat_Int, simprocAttr]
  refine cG mU hk (.cons hE (.cons (.v _) .nil)) ?_
  with_reducible refine aM ?_; simp (disch := omega) only [push_cast, ↓Int.cast_ofNat_Int, simprocAttr]
  refine hK _ ?_; clear hK K
  refine zA ?_
  refine yD rfl ?_
  refine zE ?_; refine zJ (fun K hK => ?_); simp (disch := omega) only [push_cast, ↓Int.cast_ofNat_Int, simprocAttr]; refine hK _ ?_; clear hK K
  refine zA ?_; refine zW ?_; refine zK ?_
  simp only [yA, yM, yH, yE, aP, aX, yK, yJ, zS, zM, Nat.reduceEqDiff, reduceIte, reduceCtorEq]
  exact bJ rfl
 | some i =>
  obtain ⟨hi, -, e3, -, ek⟩ := mN hp
  rw [fR hp] at hpl
  have hk0 : hZ d p ≠ 0 := by rw [ek]; split <;> decide
  have hdk : decide (hZ d p = 0) = false := decide_eq_false hk0
  rw [e3]
  refine zE ?_; refine zJ (fun K hK => ?_); simp (disch := omega) only [push_cast, ↓Int.cast_ofNat_Int, simprocAttr]; refine hK _ ?_; clear hK K
  refine zE ?_; refine zE ?_; refine zJ (fun K hK => ?_); simp (disch := omega) only [push_cast, ↓Int.cast_ofNat_Int, simprocAttr]
  refine cG mU hk (.cons hE (.cons (.v _) .nil)) ?_
  with_reducible refine aM ?_; simp (disch := omega) only [push_cast, ↓Int.cast_ofNat_Int, simprocAttr]
  refine hK _ ?_; clear hK K
  refine zA ?_
  refine yC rfl ?_
  refine zC ?_; refine zE ?_; refine iD 10 mixed (by kernel_rfl) (fun K hK => ?_); simp (disch := omega) only [push_cast, ↓Int.cast_ofNat_Int, simprocAttr, bD, bQ, bV hi, hw, hg]
  refine gK qLv hpl (.cons hE (.cons (.v _) .nil)) ?_
  with_reducible refine aM ?_; simp (disch := omega) only [push_cast, ↓Int.cast_ofNat_Int, simprocAttr, bD, bQ, bV hi, hw, hg]
  with_reducible refine aM ?_; simp (disch := omega) only [push_cast, ↓Int.cast_ofNat_Int, simprocAttr]
  refine hK _ ?_; clear hK K
  refine zA ?_; refine zW ?_
  simp only [yA, yM, yH, yE, aP, aX, yK, yJ, zS, zM, Nat.reduceEqDiff, reduceIte, reduceCtorEq]
  exact bJ rfl
end Go.Proofs.YtojolcpblacjjaaGreatDoor
