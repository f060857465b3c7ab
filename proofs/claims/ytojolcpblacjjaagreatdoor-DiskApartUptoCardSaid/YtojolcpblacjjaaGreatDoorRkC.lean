/-
  The reference's disk: what only reads it, further (qP7, Used, fits, List, Read, Stamp): walked.
-/
import Derived.Test.YtojolcpblacjjaaGreatDoorRkB
import Derived.Test.YtojolcpblacjjaaGreatDoorDlC
set_option linter.unusedSimpArgs false
set_option linter.unusedVariables false
set_option maxRecDepth 20000
namespace Go.Dk
open Go Go.Eng Go.Tr
theorem iK (d : Dk) (p : ByteArray) : (has d p = false ∧ gE d p = 0) ∨ (has d p = true ∧ (aP d p).dir = true ∧ gE d p = 1) ∨ (has d p = true ∧ (aP d p).dir = false ∧ gE d p = 2) := by
 unfold gE
 cases has d p <;> cases (aP d p).dir <;> simp
theorem qT0 (v : ByteArray) {L : LI} {i : Nat} (h : i < L.length) : mZ v (L.take (i + 1)) = mZ v (L.take i) + (if vol L[i].1 = v then (L[i].2.data.size : Int) else 0) := by
 induction L generalizing i with
 | nil => simp at h
 | cons e r ih =>
  cases i with
  | zero => simp [mZ]
  | succ i =>
   have := ih (i := i) (by simpa using h)
   simp only [List.take_succ_cons, mZ, this, List.getElem_cons_succ]
   omega
theorem wY (v : ByteArray) : ∀ (L : LI), 0 ≤ mZ v L ∧ mZ v L ≤ tot L
 | [] => ⟨Int.le_refl _, Int.le_refl _⟩
 | (p, x) :: r => by
  have := wY v r
  rw [mZ, tot]
  split <;> omega
theorem qD5 : ∀ (L : LI) (i : Nat), tot (L.take i) ≤ tot L
 | [], i => by simp
 | (p, x) :: r, 0 => by have := uS r; simp only [List.take_zero, tot]; omega
 | (p, x) :: r, i + 1 => by have := qD5 r i; simp only [List.take_succ_cons, tot]; omega
theorem qZm (p : ByteArray) {L : LI} {i : Nat} (h : i < L.length) : (((L.take (i + 1)).filter fun e => decide (par e.1 = p)).map fun e => e.1) = (((L.take i).filter fun e => decide (par e.1 = p)).map fun e => e.1) ++ if par L[i].1 = p then [L[i].1] else [] := by
 rw [List.take_succ_eq_append_getElem h, List.filter_append, List.map_append]
 by_cases e : par L[i].1 = p
 ·simp [e]
 ·simp [e]
end Go.Dk
namespace Go.Proofs.YtojolcpblacjjaaGreatDoor
open Go Go.Eng Go.RowKit Go.Tr Go.Dk
set_option maxHeartbeats 1000000 in
theorem qEx (d : Dk) (R : LN) (p : ByteArray) (hs : p.size ≤ 1048576) (hl : d.L.length ≤ 4194304) : HFun Tryz.prog 57 [dE d R, .v (.string p)] (fun h st => h = .v (.int .i64 (eU d p))) := by
 refine iL (N := 20) Tryz.func57 rfl Tryz.ntmps57 Tryz.results57 (by simp) ?_
 have hc := oU d R p 1 hs
 have hk := qB d R p hl
 have hE := qW0 (st := []) d R
 refine zE ?_; refine zJ (fun K hK => ?_); simp (disch := omega) only [push_cast, ↓Int.cast_ofNat_Int, simprocAttr]; refine hK _ ?_; clear hK K
 refine zE ?_; refine zJ (fun K hK => ?_); simp (disch := omega) only [push_cast, ↓Int.cast_ofNat_Int, simprocAttr]
 refine cG zAb hc (.cons hE (.cons (.v _) (.cons (.v _) .nil))) ?_
 with_reducible refine aN ?_; simp (disch := omega) only [push_cast, ↓Int.cast_ofNat_Int, simprocAttr]
 refine hK _ ?_; clear hK K
 rcases (Decidable.em (may d p 1 = 0)).symm with h0 | h0
 ·have hr : eU d p = may d p 1 := by simp [eU, h0]
  rw [hr]
  refine zE ?_; refine zE ?_; refine zJ (fun K hK => ?_); simp (disch := omega) only [push_cast, ↓Int.cast_ofNat_Int, simprocAttr]; refine hK _ ?_; clear hK K
  refine zA ?_
  refine bC rfl (fun _ => ?_) (fun h => by simp [h0] at h)
  refine zE ?_; refine zJ (fun K hK => ?_); simp (disch := omega) only [push_cast, ↓Int.cast_ofNat_Int, simprocAttr]; refine hK _ ?_; clear hK K
  refine zA ?_; refine zW ?_; refine zK ?_
  simp only [yA, yM, yH, yE, aQ, aZ, yK, yJ, zS, zM, Nat.reduceEqDiff, reduceIte, reduceCtorEq]
  exact bK rfl
 rw [h0]
 refine zE ?_; refine zE ?_; refine zJ (fun K hK => ?_); simp (disch := omega) only [push_cast, ↓Int.cast_ofNat_Int, simprocAttr]; refine hK _ ?_; clear hK K
 refine zA ?_
 refine yC rfl ?_
 rcases iK d p with ⟨a, b⟩ | ⟨a, a2, b⟩ | ⟨a, a2, b⟩
 ·rw [b] at hk
  have hr : eU d p = 11 := by simp [eU, h0, a]
  rw [hr]
  refine zC ?_; refine zE ?_; refine zE ?_; refine zJ (fun K hK => ?_); simp (disch := omega) only [push_cast, ↓Int.cast_ofNat_Int, simprocAttr]
  refine cG tX hk (.cons hE (.cons (.v _) .nil)) ?_
  with_reducible refine aN ?_; simp (disch := omega) only [push_cast, ↓Int.cast_ofNat_Int, simprocAttr]
  refine hK _ ?_; clear hK K
  refine zA ?_
  refine yD rfl ?_
  refine zE ?_; refine zJ (fun K hK => ?_); simp (disch := omega) only [push_cast, ↓Int.cast_ofNat_Int, simprocAttr]; refine hK _ ?_; clear hK K
  refine zA ?_; refine zW ?_; refine zK ?_
  simp only [yA, yM, yH, yE, aQ, aZ, yK, yJ, zS, zM, Nat.reduceEqDiff, reduceIte, reduceCtorEq]
  exact bK rfl
 ·rw [b] at hk
  have hr : eU d p = 12 := by simp [eU, h0, a, a2]
  rw [hr]
  refine zC ?_; refine zE ?_; refine zE ?_; refine zJ (fun K hK => ?_); simp (disch := omega) only [push_cast, ↓Int.cast_ofNat_Int, simprocAttr]
  refine cG tX hk (.cons hE (.cons (.v _) .nil)) ?_
  with_reducible refine aN ?_; simp (disch := omega) only [push_cast, ↓Int.cast_ofNat_Int, simprocAttr]
  refine hK _ ?_; clear hK K
  refine zA ?_
  refine yC rfl ?_
  refine zC ?_; refine zE ?_; refine zE ?_; refine zJ (fun K hK => ?_); simp (disch := omega) only [push_cast, ↓Int.cast_ofNat_Int, simprocAttr]
  refine cG tX hk (.cons hE (.cons (.v _) .nil)) ?_
  with_reducible refine aN ?_; simp (disch := omega) only [push_cast, ↓Int.cast_ofNat_Int, simprocAttr]
  refine hK _ ?_; clear hK K
  refine zA ?_
  refine yD rfl ?_
  refine zE ?_; refine zJ (fun K hK => ?_); simp (disch := omega) only [push_cast, ↓Int.cast_ofNat_Int, simprocAttr]; refine hK _ ?_; clear hK K
  refine zA ?_; refine zW ?_; refine zK ?_
  simp only [yA, yM, yH, yE, aQ, aZ, yK, yJ, zS, zM, Nat.reduceEqDiff, reduceIte, reduceCtorEq]
  exact bK rfl
 ·rw [b] at hk
  have hr : eU d p = 0 := by simp [eU, h0, a, a2]
  rw [hr]
  refine zC ?_; refine zE ?_; refine zE ?_; refine zJ (fun K hK => ?_); simp (disch := omega) only [push_cast, ↓Int.cast_ofNat_Int, simprocAttr]
  refine cG tX hk (.cons hE (.cons (.v _) .nil)) ?_
  with_reducible refine aN ?_; simp (disch := omega) only [push_cast, ↓Int.cast_ofNat_Int, simprocAttr]
  refine hK _ ?_; clear hK K
  refine zA ?_
  refine yC rfl ?_
  refine zC ?_; refine zE ?_; refine zE ?_; refine zJ (fun K hK => ?_); simp (disch := omega) only [push_cast, ↓Int.cast_ofNat_Int, simprocAttr]
  refine cG tX hk (.cons hE (.cons (.v _) .nil)) ?_
  with_reducible refine aN ?_; simp (disch := omega) only [push_cast, ↓Int.cast_ofNat_Int, simprocAttr]
  refine hK _ ?_; clear hK K
  refine zA ?_
  refine yC rfl ?_
  refine zC ?_; refine zE ?_; refine zJ (fun K hK => ?_); simp (disch := omega) only [push_cast, ↓Int.cast_ofNat_Int, simprocAttr]; refine hK _ ?_; clear hK K
  refine zA ?_; refine zW ?_
  simp only [yA, yM, yH, yE, aQ, aZ, yK, yJ, zS, zM, Nat.reduceEqDiff, reduceIte, reduceCtorEq]
  exact bK rfl
set_option maxHeartbeats 2000000 in
theorem zE0 (d : Dk) (R : LN) (v : ByteArray) (hl : d.L.length ≤ 4194304) (hke : ∀ e ∈ d.L, e.1.size ≤ 1048576) (hto : tot d.L ≤ 1099511627776) : HFun Tryz.prog 39 [dE d R, .v (.string v)] (fun h st => h = .v (.int .i64 (used d v))) := by
 refine iL (N := 39) Tryz.func39 rfl Tryz.ntmps39 Tryz.results39 (by simp) ?_
 have hw := tA d R
 have hg := tB d R
 unfold used
 obtain ⟨L, Rq, steps, stamps, armed, down, n, m⟩ := d
 simp only [dE, oD] at hl hke hto hw hg ⊢
 refine zE ?_; refine zJ (fun K hK => ?_); simp (disch := omega) only [push_cast, ↓Int.cast_ofNat_Int, simprocAttr]; refine hK _ ?_; clear hK K
 refine zE ?_; refine zJ (fun K hK => ?_); simp (disch := omega) only [push_cast, ↓Int.cast_ofNat_Int, simprocAttr]; refine hK _ ?_; clear hK K
 refine zE ?_; refine zE ?_; refine zJ (fun K hK => ?_); simp (disch := omega) only [push_cast, ↓Int.cast_ofNat_Int, simprocAttr]; refine hK _ ?_; clear hK K
 refine zA ?_; refine zD ?_
 refine dV (fun i : Nat => ⟨[(0, .elt false [[.lst false (dT L), .lst false (rms R), .v (.int .i64 steps), .v (.int .i64 stamps), .v (.int .i64 armed), .v (.bool down)]] 6 0 0), (1, .v (.string v)), (5, .v (.int .i64 (mZ v (L.take i)))), (6, .v (.int .i64 i))], []⟩) (fun i => i ≤ L.length) (fun i => L.length - i) [0, 1, 5, 6] [] 0 rfl (Nat.zero_le _) ?_
 rintro i hi
 by_cases hlt : i < L.length
 ·have h1 := qT0 v hlt
  have h2 := wY v (L.take i)
  have h3 := qD5 L i
  have h4 := hke _ (List.getElem_mem hlt)
  have h5 := wY v (L.take (i + 1))
  have h6 := qD5 L (i + 1)
  refine zE ?_; refine zE ?_; refine zJ (fun K hK => ?_); simp (disch := omega) only [push_cast, ↓Int.cast_ofNat_Int, simprocAttr, bG, hw, hg]; refine hK _ ?_; clear hK K
  refine zA ?_
  refine yD rfl ?_
  refine zC ?_; refine zE ?_
  refine zD ?_; refine zE ?_; refine zJ (fun K hK => ?_); simp (disch := omega) only [push_cast, ↓Int.cast_ofNat_Int, simprocAttr, bG, bX, cA hlt, hw, hg]
  refine cG qZ9 (qNw _ h4) (.cons (.v _) .nil) ?_
  with_reducible refine aN ?_; simp (disch := omega) only [push_cast, ↓Int.cast_ofNat_Int, simprocAttr]
  refine hK _ ?_; clear hK K
  by_cases hv : vol L[i].1 = v
  ·rw [if_pos hv] at h1
   refine bC rfl (fun _ => ?_) (fun hf => by simp [hv] at hf)
   generalize mZ v (L.take i) = a at *
   refine zJ (fun K hK => ?_); simp (disch := omega) only [push_cast, ↓Int.cast_ofNat_Int, simprocAttr, bG, bX, cA hlt, hw, hg]; refine hK _ ?_; clear hK K
   refine zB ?_; refine zA ?_
   refine zJ (fun K hK => ?_); simp (disch := omega) only [push_cast, ↓Int.cast_ofNat_Int, simprocAttr]; refine hK _ ?_; clear hK K
   refine zA ?_
   exact ⟨i + 1, by simp only [zZ, zR, zP, zQ, zN, zS, zM, zX, zU, Nat.reduceEqDiff, reduceIte]; rw [h1]; rfl, hlt, by omega⟩
  ·rw [if_neg hv] at h1
   refine bC rfl (fun ht => by simp [hv] at ht) (fun _ => ?_)
   refine zC ?_; refine zB ?_; refine zA ?_
   refine zJ (fun K hK => ?_); simp (disch := omega) only [push_cast, ↓Int.cast_ofNat_Int, simprocAttr]; refine hK _ ?_; clear hK K
   refine zA ?_
   exact ⟨i + 1, by simp only [zZ, zR, zP, zQ, zN, zS, zM, zX, zU, Nat.reduceEqDiff, reduceIte]; rw [h1, Int.add_zero]; rfl, hlt, by omega⟩
 ·have hne : i = L.length := by omega
  subst hne
  rw [List.take_length]
  refine zE ?_; refine zE ?_; refine zJ (fun K hK => ?_); simp (disch := omega) only [push_cast, ↓Int.cast_ofNat_Int, simprocAttr, bG, hw, hg]; refine hK _ ?_; clear hK K
  refine zA ?_
  refine yC rfl ?_
  refine zT ?_; refine zG ?_; refine zG ?_; refine zH ?_; refine zE ?_
  refine zJ (fun K hK => ?_); simp (disch := omega) only [push_cast, ↓Int.cast_ofNat_Int, simprocAttr]; refine hK _ ?_; clear hK K
  refine zA ?_; refine zW ?_
  simp only [yA, yM, yH, yE, aQ, aZ, yK, yJ, zS, zM, Nat.reduceEqDiff, reduceIte, reduceCtorEq]
  exact bK rfl
set_option maxHeartbeats 2000000 in
theorem zE6 (d : Dk) (R : LN) (p : ByteArray) (hl : d.L.length ≤ 4194304) (hke : ∀ e ∈ d.L, e.1.size ≤ 1048576) : HFun Tryz.prog 41 [dE d R, .v (.string p)] (fun h st => h = .own 0 ∧ st = [(0, .sl true 9 1 (dD (rA d p)))]) := by
 refine iL (N := 39) Tryz.func41 rfl Tryz.ntmps41 Tryz.results41 (by simp) ?_
 have hw := tA d R
 have hg := tB d R
 unfold rA
 obtain ⟨L, Rq, steps, stamps, armed, down, n, m⟩ := d
 simp only [dE, oD] at hl hke hw hg ⊢
 refine zE ?_; refine zJ (fun K hK => ?_); simp (disch := omega) only [push_cast, ↓Int.cast_ofNat_Int, simprocAttr]; refine hK _ ?_; clear hK K
 refine zE ?_; refine zJ (fun K hK => ?_); simp (disch := omega) only [push_cast, ↓Int.cast_ofNat_Int, simprocAttr]; refine hK _ ?_; clear hK K
 refine zE ?_; refine zE ?_; refine zJ (fun K hK => ?_); simp (disch := omega) only [push_cast, ↓Int.cast_ofNat_Int, simprocAttr]; refine hK _ ?_; clear hK K
 refine zA ?_; refine zD ?_
 refine qDv 5 9000 9 1 rfl (by simp only [tJ, qAs, qAu, fM, eG, fD, eC, kD, fJ, gP, fH, fG, iA, fL, fF, eF, gZ, hZ, hU, kB, pK, lW, Nat.reduceBEq, Nat.reduceEqDiff, reduceIte, cond_true, cond_false, List.map_cons, List.map_nil]; exact rfl) ?_
 refine dV (fun i : Nat => ⟨[(0, .elt false [[.lst false (dT L), .lst false (rms R), .v (.int .i64 steps), .v (.int .i64 stamps), .v (.int .i64 armed), .v (.bool down)]] 6 0 0), (1, .v (.string p)), (5, .own 9000), (6, .v (.int .i64 i))], [(9000, .sl true 9 1 (dD (((L.take i).filter fun e => decide (par e.1 = p)).map fun e => e.1)))]⟩) (fun i => i ≤ L.length) (fun i => L.length - i) [0, 1, 5, 6] [9000] 0 (by simp only [zZ, zR, zP, zQ, zN, zS, zM, zX, zU, Nat.reduceEqDiff, reduceIte]; rfl) (Nat.zero_le _) ?_
 rintro i hi
 by_cases hlt : i < L.length
 ·have h1 := qZm p hlt
  have h4 := hke _ (List.getElem_mem hlt)
  have h5 : (((L.take i).filter fun e => decide (par e.1 = p)).map fun e => e.1).length ≤ i := by
   rw [List.length_map]
   exact Nat.le_trans (List.length_filter_le _ _) (by rw [List.length_take]; omega)
  refine zE ?_; refine zE ?_; refine zJ (fun K hK => ?_); simp (disch := omega) only [push_cast, ↓Int.cast_ofNat_Int, simprocAttr, bG, hw, hg]; refine hK _ ?_; clear hK K
  refine zA ?_
  refine yD rfl ?_
  refine zC ?_; refine zE ?_
  refine zD ?_; refine zE ?_; refine zJ (fun K hK => ?_); simp (disch := omega) only [push_cast, ↓Int.cast_ofNat_Int, simprocAttr, bG, bX, cA hlt, hw, hg]
  refine cG zF1 (qKq _ h4) (.cons (.v _) .nil) ?_
  with_reducible refine aN ?_; simp (disch := omega) only [push_cast, ↓Int.cast_ofNat_Int, simprocAttr]
  refine hK _ ?_; clear hK K
  by_cases hv : par L[i].1 = p
  ·rw [if_pos hv] at h1
   refine bC rfl (fun _ => ?_) (fun hf => by simp [hv] at hf)
   generalize (((L.take i).filter fun e => decide (par e.1 = p)).map fun e => e.1) = a at *
   refine zJ (fun K hK => ?_); simp (disch := omega) only [push_cast, ↓Int.cast_ofNat_Int, simprocAttr, cQ, bG, bX, cA hlt, hw, hg]
   (repeat refine ⟨by first | omega | decide | ((repeat' apply And.intro) <;> first | omega | decide), ?_⟩)
   refine hK _ ?_; clear hK K
   refine zB ?_; refine zA ?_
   refine zJ (fun K hK => ?_); simp (disch := omega) only [push_cast, ↓Int.cast_ofNat_Int, simprocAttr]; refine hK _ ?_; clear hK K
   refine zA ?_
   exact ⟨i + 1, by simp only [zZ, zR, zP, zQ, zN, zS, zM, zX, zU, Nat.reduceEqDiff, reduceIte]; rw [h1, ← qAo]; rfl, hlt, by omega⟩
  ·rw [if_neg hv, List.append_nil] at h1
   refine bC rfl (fun ht => by simp [hv] at ht) (fun _ => ?_)
   refine zC ?_; refine zB ?_; refine zA ?_
   refine zJ (fun K hK => ?_); simp (disch := omega) only [push_cast, ↓Int.cast_ofNat_Int, simprocAttr]; refine hK _ ?_; clear hK K
   refine zA ?_
   exact ⟨i + 1, by simp only [zZ, zR, zP, zQ, zN, zS, zM, zX, zU, Nat.reduceEqDiff, reduceIte]; rw [h1]; rfl, hlt, by omega⟩
 ·have hne : i = L.length := by omega
  subst hne
  rw [List.take_length]
  refine zE ?_; refine zE ?_; refine zJ (fun K hK => ?_); simp (disch := omega) only [push_cast, ↓Int.cast_ofNat_Int, simprocAttr, bG, hw, hg]; refine hK _ ?_; clear hK K
  refine zA ?_
  refine yC rfl ?_
  refine zT ?_; refine zG ?_; refine zG ?_; refine zH ?_; refine zE ?_
  refine zJ (fun K hK => ?_); simp (disch := omega) only [push_cast, ↓Int.cast_ofNat_Int, simprocAttr]; refine hK _ ?_; clear hK K
  refine zA ?_; refine zW ?_
  simp only [yA, yM, yH, yE, aQ, aZ, yK, yJ, zS, zM, Nat.reduceEqDiff, reduceIte, reduceCtorEq]
  exact zCh rfl (pW _) ⟨rfl, rfl⟩
end Go.Proofs.YtojolcpblacjjaaGreatDoor
