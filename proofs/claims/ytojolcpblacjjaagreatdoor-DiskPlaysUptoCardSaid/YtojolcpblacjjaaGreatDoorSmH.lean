/-
  ref02.Same: are two lists of texts alike?
-/
import Derived.Test.YtojolcpblacjjaaGreatDoorApt
import Derived.Test.YtojolcpblacjjaaGreatDoorGc
import Derived.Test.YtojolcpblacjjaaGreatDoorTyY
section
set_option linter.unusedSimpArgs false
set_option linter.unusedVariables false
set_option maxRecDepth 20000
namespace Go.Proofs.YtojolcpblacjjaaGreatDoor
open Go Go.Eng Go.RowKit
theorem zG2 {n : Nat} {st : aN} {nw0 : Bool} {els : List (List HV)} (id : Nat → Nat) (nw : Nat → Bool) (ls : Nat → List ByteArray) (h0 : rlk st 0 = some (.hl nw0 59 1 els)) (hlen : els.length = n) (hels : ∀ i (h : i < els.length), els[i] = [.own (id i)])
  (hrow : ∀ i, i < n → rlk st (id i) = some (.sl (nw i) 9 1 (cR (ls i)))) (hid : ∀ i j, i < n → j < n → id i = id j → i = j) (hid0 : ∀ i, i < n → id i ≠ 0) (hbx : ∀ j, ¬ lW (rlk st j)) (hn : n ≤ 1000000) (hm : ∀ i, i < n → (ls i).length ≤ 1000000000) :
  HFunS Tryz.prog 42 [.own 0] st (fun h st' => h = .v (.bool true) ∧ st' = []) := by
 intro c w ρ xs vs hw G R
 obtain ⟨v, rfl⟩ : ∃ v, vs = [v] := by
  match vs, R.1 with
  | [v], _ => exact ⟨v, rfl⟩
 have hv := R.2 0 (by simp) (by simp)
 simp only [List.getElem_cons_zero] at hv
 cases hv with
 | own _ h1 =>
 subst hlen
 obtain ⟨o1, o2, o3⟩ := kX G h0
 obtain ⟨ad, cap, hv0, hvf⟩ := Own.form o1
 have hcellV : ∀ i (h : i < els.length), (xs 0)[i]? = some (ρ (id i)) := fun i h => by
  obtain ⟨u, u1, -, u3⟩ := o3 i 0 h (by rw [hels i h]; simp)
  simp only [hels i h, List.getElem_cons_zero] at u3
  cases u3
  rw [Nat.mul_one, Nat.add_zero] at u1
  exact u1
 have hL : ∃ L, (0 < els.length → ad = some ⟨L, 0, none⟩ ∧ L < w.heap.size ∧ ∀ j u, (xs 0)[j]? = some u → w.cell? ⟨L, j, none⟩ = some u) := by
  by_cases h : 0 < els.length
  ·obtain ⟨g, e, -, a, b⟩ := hvf h
   exact ⟨g, fun _ => ⟨e, a, b⟩⟩
  ·exact ⟨0, fun h' => absurd h' h⟩
 obtain ⟨L, hL⟩ := hL
 let T : Nat → Prop := fun b => ∃ i, i < els.length ∧ (ρ (id i)).ownBlock = some b
 have huniq : ∀ i j b, i < els.length → j < els.length → (ρ (id i)).ownBlock = some b → (ρ (id j)).ownBlock = some b → i = j := fun i j b hi hj h1 h2 => by
  by_cases e : i = j
  ·exact e
  ·exact (G.apart (id i) (id j) _ _ b (fun e2 => e (hid i j hi hj e2)) (hrow i hi) (hrow j hj) h1 h2).elim
 classical
 let ow : Nat → Nat := fun b => if h : T b then Classical.choose h else els.length + 1
 have how : ∀ i b, i < els.length → (ρ (id i)).ownBlock = some b → ow b = i := fun i b hi hb => by
  have h : T b := ⟨i, hi, hb⟩
  show (if h : T b then Classical.choose h else _) = i
  rw [dif_pos h]
  exact huniq _ _ b (Classical.choose_spec h).1 hi (Classical.choose_spec h).2 hb
 have hTL : 0 < els.length → ¬ T L := fun h ⟨i, hi, hb⟩ => by
  refine G.apart (id i) 0 _ _ L (hid0 i hi) (hrow i hi) h0 hb ?_
  rw [hv0, (hL h).1]; rfl
 rw [hv0]
 refine Ret.mono (qUx w els.length L cap ad (fun i => ρ (id i)) (fun i => (ls i).length) (fun i => xs (id i)) ow T (fun h => (hL h).1) ⟨Kept.refl _ _, fun j hj => ?_⟩ (fun j hj b hb => ⟨how j b hj hb, G.lt (hrow j hj) hb⟩) (fun j b hj hb => ⟨j, hj, hb⟩) (fun j hj => ?_) hn hm) ?_
 ·have := (cX G (hrow j hj)).1
  simpa [cR] using this
 ·obtain ⟨a, b, d⟩ := hL (by omega)
  refine ⟨?_, b, hTL (by omega), d j _ (hcellV j hj)⟩
  show (if h : T L then Classical.choose h else _) = _
  rw [dif_neg (hTL (by omega))]
 ·rintro r w' ⟨rfl, hK⟩
  refine ⟨_, [], ρ, xs, fun i r h => by simp [rlk] at h, fun j h => (hbx j h).elim, ⟨rfl, rfl⟩, ⟨fun i r h => by simp [rlk] at h, fun i j r s b _ h => by simp [rlk] at h, fun k h hk => by simp [hlk] at hk, G.kept.trans hK fun b hlt hT => ?_, G.a0⟩, .v _⟩
  obtain ⟨i, hi, hb⟩ := hT
  exact ((G.rows _ _ (hrow i hi)).new b hb).1.resolve_left (by rw [hw]; rw [hw] at hlt; omega)
theorem zFl (a b : List ByteArray) (n0 n1 n2 : Bool) (ha : a.length ≤ 1000000000) (hb : b.length ≤ 1000000000) :
  HFunS Tryz.prog 42 [.own 0] [(0, .hl n0 59 1 [[.own 1], [.own 2]]), (1, .sl n1 9 1 (cR a)), (2, .sl n2 9 1 (cR b))] (fun h st' => h = .v (.bool true) ∧ st' = []) :=
 zG2 (n := 2) (fun i => i + 1) (fun i => [n1, n2].getD i false) (fun i => [a, b].getD i []) rfl rfl (fun i hi => by match i, hi with | 0, _ => rfl | 1, _ => rfl) (fun i hi => by match i, hi with | 0, _ => rfl | 1, _ => rfl) (fun i j _ _ e => by omega) (fun i _ => by omega)
  (fun j h => by match j, h with | 0, h => exact h | 1, h => exact h | 2, h => exact h | j + 3, h => exact h) (by omega) (fun i hi => by match i, hi with | 0, _ => exact ha | 1, _ => exact hb)
end Go.Proofs.YtojolcpblacjjaaGreatDoor
end
section
set_option linter.unusedSimpArgs false
set_option linter.unusedVariables false
set_option maxRecDepth 20000
namespace Go.Proofs.YtojolcpblacjjaaGreatDoor
open Go Go.Eng Go.RowKit

def rsE (a b : List ByteArray) (i : Nat) : HS := ⟨[(0, .lst false (cR a)), (1, .lst false (cR b)), (5, .v (.int .i64 i))], []⟩
set_option maxHeartbeats 4000000 in
theorem qW9 (a b : List ByteArray) (ha : a.length ≤ 140737488355328) (hb : b.length ≤ 140737488355328) : HFun Tryz.prog 40 [.lst false (cR a), .lst false (cR b)] (fun h st => h = .v (.bool (decide (a = b)))) := by
 refine iB (N := 26) Tryz.func40 rfl Tryz.ntmps40 Tryz.results40 (by simp) ?_
 refine zE ?_; refine zJ (fun K hK => ?_); simp (disch := omega) only [push_cast, ↓Int.cast_ofNat_Int, simprocAttr]; refine hK _ ?_; clear hK K
 by_cases h : a.length = b.length
 ·refine zE ?_; refine zE ?_; refine zJ (fun K hK => ?_); simp (disch := omega) only [push_cast, ↓Int.cast_ofNat_Int, simprocAttr, cH]; refine hK _ ?_; clear hK K
  refine yC rfl ?_
  refine zC ?_; refine zE ?_; refine zE ?_
  refine zJ (fun K hK => ?_); simp (disch := omega) only [push_cast, ↓Int.cast_ofNat_Int, simprocAttr]; refine hK _ ?_; clear hK K
  refine zA ?_; refine zD ?_
  refine dU (rsE a b) (fun i => i ≤ a.length ∧ a.take i = b.take i) (fun i => a.length - i) [0, 1, 5] [] 0 (by simp only [zZ, zR, zP, zQ, zN, zS, zM, zX, zU, Nat.reduceEqDiff, reduceIte, rsE]; rfl) ⟨Nat.zero_le _, by simp⟩ ?_
  rintro i ⟨hi, he⟩
  simp only [rsE]
  by_cases hlt : i < a.length
  ·have hlt2 : i < b.length := by omega
   refine zE ?_; refine zE ?_; refine zJ (fun K hK => ?_); simp (disch := omega) only [push_cast, ↓Int.cast_ofNat_Int, simprocAttr, cH]; refine hK _ ?_; clear hK K
   refine yD rfl ?_
   refine zC ?_; refine zE ?_
   by_cases heq : a[i] = b[i]
   ·have hd : decide (a[i] = b[i]) = true := decide_eq_true heq
    refine zD ?_; refine zE ?_; refine HW_drw 9 mixed (by kernel_rfl) (fun K hK => ?_); simp (disch := omega) only [push_cast, ↓Int.cast_ofNat_Int, simprocAttr, cH, qBg, nL, hd]
    with_reducible refine aM ?_; simp (disch := omega) only [push_cast, ↓Int.cast_ofNat_Int, simprocAttr]
    refine hK _ ?_; clear hK K
    refine yC rfl ?_
    refine zC ?_; refine zB ?_; refine zA ?_
    refine zJ (fun K hK => ?_); simp (disch := omega) only [push_cast, ↓Int.cast_ofNat_Int, simprocAttr]; refine hK _ ?_; clear hK K
    refine zA ?_
    refine ⟨i + 1, by simp only [zZ, zR, zP, zQ, zN, zS, zM, zX, zU, Nat.reduceEqDiff, reduceIte, rsE]; try rfl, ⟨hlt, ?_⟩, by omega⟩
    rw [List.take_succ_eq_append_getElem hlt, List.take_succ_eq_append_getElem hlt2, he, heq]
   ·have hd : decide (a[i] = b[i]) = false := decide_eq_false heq
    have hne : decide (a = b) = false := decide_eq_false (fun e => heq (by subst e; rfl))
    rw [hne]
    refine zD ?_; refine zE ?_; refine HW_drw 9 mixed (by kernel_rfl) (fun K hK => ?_); simp (disch := omega) only [push_cast, ↓Int.cast_ofNat_Int, simprocAttr, cH, qBg, nL, hd]
    with_reducible refine aM ?_; simp (disch := omega) only [push_cast, ↓Int.cast_ofNat_Int, simprocAttr]
    refine hK _ ?_; clear hK K
    refine yD rfl ?_
    refine zE ?_; refine zJ (fun K hK => ?_); simp (disch := omega) only [push_cast, ↓Int.cast_ofNat_Int, simprocAttr]; refine hK _ ?_; clear hK K
    refine zA ?_; refine zW ?_; refine zL ?_; refine zK ?_; refine zK ?_; refine zL ?_; refine zK ?_
    simp only [yA, yM, yH, yE, aP, aX, yK, yJ, zS, zM, Nat.reduceEqDiff, reduceIte, reduceCtorEq]
    exact bJ rfl
  ·have hab : a = b := by
    rw [List.take_of_length_le (by omega), List.take_of_length_le (by omega)] at he; exact he
   rw [decide_eq_true hab]
   refine zE ?_; refine zE ?_; refine zJ (fun K hK => ?_); simp (disch := omega) only [push_cast, ↓Int.cast_ofNat_Int, simprocAttr, cH]; refine hK _ ?_; clear hK K
   refine yC rfl ?_
   refine zT ?_; refine zG ?_; refine zG ?_; refine zH ?_; refine zE ?_
   refine zJ (fun K hK => ?_); simp (disch := omega) only [push_cast, ↓Int.cast_ofNat_Int, simprocAttr]; refine hK _ ?_; clear hK K
   refine zA ?_; refine zW ?_
   simp only [yA, yM, yH, yE, aP, aX, yK, yJ, zS, zM, Nat.reduceEqDiff, reduceIte, reduceCtorEq]
   exact bJ rfl
 ·have hne : decide (a = b) = false := decide_eq_false (fun e => h (by rw [e]))
  rw [hne]
  refine zE ?_; refine zE ?_; refine zJ (fun K hK => ?_); simp (disch := omega) only [push_cast, ↓Int.cast_ofNat_Int, simprocAttr, cH]; refine hK _ ?_; clear hK K
  refine yD rfl ?_
  refine zE ?_; refine zJ (fun K hK => ?_); simp (disch := omega) only [push_cast, ↓Int.cast_ofNat_Int, simprocAttr]; refine hK _ ?_; clear hK K
  refine zA ?_; refine zW ?_; refine zK ?_
  simp only [yA, yM, yH, yE, aP, aX, yK, yJ, zS, zM, Nat.reduceEqDiff, reduceIte, reduceCtorEq]
  exact bJ rfl
end Go.Proofs.YtojolcpblacjjaaGreatDoor
end
