/-
  slices.Delete, slices.Insert of a tree: their contracts.
-/
import Derived.Test.YtkonlklieacjoaaDoorTrM
import Derived.Test.YtkonlklieacjoaaDoorTrO
import Derived.Test.YtkonlklieacjoaaDoorGd
import Derived.Test.YtkonlklieacjoaaDoorTpB
section
set_option linter.unusedSimpArgs false
set_option linter.unusedVariables false
set_option maxRecDepth 20000
namespace Go.Proofs.YtkonlklieacjoaaDoor
open Go Go.Eng Go.RowKit Go.Tr
end Go.Proofs.YtkonlklieacjoaaDoor
end
section
set_option linter.unusedSimpArgs false
set_option linter.unusedVariables false
namespace Go.Eng
open Go Go.RowKit
theorem zLz {P : Program} {N : Nat} {Q : eY} {S : HS} {id a d1 d2 : Nat} {t u ty1 ty2 : TypeId} {p1 p2 : String} {af1 af2 : Array Edge} {fr : Bool} {ys : List (List FV)}
  (ha : hlk S.env a = some (.lst fr ys)) (h1 : gG N (some d1) = true) (h2 : gG N (some d2) = true) (hu : (cG P t).isSome = true)
  (h : ∀ b : Bool, (b = true → ys = []) → Q .normal ⟨(d2, .v (.bool b)) :: (d1, .lst fr ys) :: S.env, S.st⟩) :
  HW P N (.region id #[⟨some d1, .move (.tmp a), ty1, p1, af1, none⟩, ⟨some d2, .binOp .eql t (.tmp d1) (.const (.slice none 0 0)) u, ty2, p2, af2, none⟩] false) Q S := fun c l w I => by
 obtain ⟨ρ, xs, G⟩ := I
 obtain ⟨v, hv, hr⟩ := G.env a _ ha
 have hr0 := hr
 cases hr with
 | lst hF =>
 cases hF with
 | lst sz vals hn hc hm hnil hsz hadd h1' hr' =>
 rename_i ad n cap
 refine qM1 (ops := [⟨some d1, .move (.tmp a), ty1, p1, af1, none⟩, ⟨some d2, .binOp .eql t (.tmp d1) (.const (.slice none 0 0)) u, ty2, p2, af2, none⟩]) fun K hK => ?_
 simp only [zLv, zPi, gd, qW9, aW, xS, qD1, ev, hv, stp, lk, if_true, kA]
 refine ⟨lD h1, trivial, lD h2, hu, hK _ _ ?_⟩
 have I1 : Inv c (S.set (some d1) (.lst fr ys)) (lk (stp (some d1) (.slice ad n cap) l)) w := InvV.set ⟨ρ, xs, G, hr0⟩ (some d1)
 obtain ⟨ρ2, xs2, G2⟩ := I1
 have I2 := InvV.set (l := stp (some d1) (.slice ad n cap) l) (h := .v (.bool ad.isNone)) (v := .bool ad.isNone) ⟨ρ2, xs2, G2, .v _⟩ (some d2)
 refine ⟨_, I2, h ad.isNone fun e => ?_⟩
 cases ad with
 | some _ => cases e
 | none =>
  have := hnil rfl
  exact List.eq_nil_of_length_eq_zero (by omega)
end Go.Eng
end
section
set_option linter.unusedSimpArgs false
set_option linter.unusedVariables false
set_option maxRecDepth 20000
namespace Go.Proofs.YtkonlklieacjoaaDoor
open Go Go.Eng Go.RowKit Go.Tr
set_option maxHeartbeats 2000000 in
theorem zCu (t : List Ent) (hl : t.length ≤ 1048576) : HFun Tryd.prog 54 [.lst false (aH t)] (fun h st => h = .own 0 ∧ st = [(0, aY t)]) := by
 refine eK (N := 8) Tryd.func54 rfl Tryd.ntmps54 Tryd.results54 (by simp) ?_
 refine zE ?_; refine zJ (fun K hK => ?_); simp (maxSteps := 2000000) (disch := omega) only [push_cast, ↓Int.cast_ofNat_Int, simprocAttr]; refine hK _ ?_; clear hK K
 refine zE ?_; refine zE ?_
 refine zLz rfl rfl rfl (by rw [qGp]; rfl) (fun b hb => ?_)
 refine zA ?_
 dsimp only
 refine qDs rfl (fun hb2 => ?_) (fun hb2 => ?_)
 ·have ht : t = [] := by
   have := hb hb2
   cases t with
   | nil => rfl
   | cons a r => simp [aH] at this
  subst ht
  refine zE ?_; refine zJ (fun K hK => ?_); simp (maxSteps := 2000000) (disch := omega) only [push_cast, ↓Int.cast_ofNat_Int, simprocAttr]; refine hK _ ?_; clear hK K
  refine eD 2 9000 68 3 rfl (by simp only [dR, eZ, fA, cB, bH, aR, aP, cF, aU, aT, aS, cJ, cA, bZ, bG, bC, bD, cQ, cD, dA, cP, Nat.reduceBEq, Nat.reduceEqDiff, reduceIte, cond_true, cond_false, List.map_cons, List.map_nil]; exact rfl) ?_
  refine zW ?_; refine zK ?_
  simp only [yA, yM, yH, yE, aA, aC, yK, yJ, zS, zM, Nat.reduceEqDiff, reduceIte, reduceCtorEq]
  exact qBf rfl (aV []) ⟨rfl, rfl⟩
 ·refine zC ?_; refine zE ?_
  refine zJ (fun K hK => ?_); simp (maxSteps := 2000000) (disch := omega) only [push_cast, ↓Int.cast_ofNat_Int, simprocAttr, yV, yU]; (repeat refine ⟨by first | omega | decide | ((repeat' apply And.intro) <;> first | omega | decide), ?_⟩); refine hK _ ?_; clear hK K
  refine zA ?_; refine zW ?_
  simp only [yA, yM, yH, yE, aA, aC, yK, yJ, zS, zM, Nat.reduceEqDiff, reduceIte, reduceCtorEq]
  exact qBf rfl (aV _) ⟨rfl, rfl⟩
set_option maxHeartbeats 2000000 in
theorem zHh (t : List Ent) (e : Ent) (hl : t.length ≤ 1048576) : HFunS Tryd.prog 56 [.own 0, .v (.int .i64 t.length), .own 1] [(0, aY t), (1, aY [e])] (fun h st => h = .own 0 ∧ st = [(0, aY (t ++ [e]))]) := by
 refine zM1 (N := 95) Tryd.func56 rfl Tryd.ntmps56 Tryd.results56 (by simp) ?_
 have e2 : aH t ++ aH [e] = aH (t ++ [e]) := qMe t [e]
 have e3 : [e].length = 1 := rfl
 refine zE ?_; refine zJ (fun K hK => ?_); simp (maxSteps := 2000000) (disch := omega) only [push_cast, ↓Int.cast_ofNat_Int, simprocAttr]; refine hK _ ?_; clear hK K
 refine zE ?_; refine zJ (fun K hK => ?_); simp (maxSteps := 2000000) (disch := omega) only [push_cast, ↓Int.cast_ofNat_Int, simprocAttr, yV]; (repeat refine ⟨by first | omega | decide | ((repeat' apply And.intro) <;> first | omega | decide), ?_⟩); refine hK _ ?_; clear hK K
 refine zE ?_; refine zJ (fun K hK => ?_); simp (maxSteps := 2000000) (disch := omega) only [push_cast, ↓Int.cast_ofNat_Int, simprocAttr, yV, e3]; refine hK _ ?_; clear hK K
 refine zE ?_; refine zE ?_; refine zJ (fun K hK => ?_); simp (maxSteps := 2000000) (disch := omega) only [push_cast, ↓Int.cast_ofNat_Int, simprocAttr]; refine hK _ ?_; clear hK K
 refine zA ?_
 refine yC rfl ?_
 refine zC ?_; refine zE ?_
 refine zJ (fun K hK => ?_); simp (maxSteps := 2000000) (disch := omega) only [push_cast, ↓Int.cast_ofNat_Int, simprocAttr, yV]; refine hK _ ?_; clear hK K
 refine zE ?_; refine zE ?_; refine zJ (fun K hK => ?_); simp (maxSteps := 2000000) (disch := omega) only [push_cast, ↓Int.cast_ofNat_Int, simprocAttr]; refine hK _ ?_; clear hK K
 refine yD rfl ?_
 refine zE ?_; refine zJ (fun K hK => ?_); simp (maxSteps := 2000000) (disch := omega) only [push_cast, ↓Int.cast_ofNat_Int, simprocAttr, yV, yU, e2, e3]; (repeat refine ⟨by first | omega | decide | ((repeat' apply And.intro) <;> first | omega | decide), ?_⟩); refine hK _ ?_; clear hK K
 refine zA ?_; refine zW ?_; refine zK ?_
 simp only [qAy, qKk, yH, yE, yK, yJ, qVj, zS, zM, Nat.reduceEqDiff, reduceIte, reduceCtorEq]
 refine zMz [0] (by decide) (by decide) (by simp only [push_cast, dM, yF, jZ, yG, kH, yL, kC, mW, mX, mY, mZ, Option.getD_some, Option.map_some, Option.map_none, Nat.zero_add, dG, bQ, bP, bN, bR, dT, dV, dU, List.map_cons, List.map_nil, simprocAttr, implies_true, and_self, true_and, and_true, true_implies, false_implies]) (by simp only [push_cast, dM, yF, jZ, yG, kH, yL, kC, mW, mX, mY, mZ, Option.getD_some, Option.map_some, Option.map_none, Nat.zero_add, dG, bQ, bP, bN, bR, dT, dV, dU, List.map_cons, List.map_nil, simprocAttr, implies_true, and_self, true_and, and_true, true_implies, false_implies]) (by simp only [push_cast, dM, yF, jZ, yG, kH, yL, kC, mW, mX, mY, mZ, Option.getD_some, Option.map_some, Option.map_none, Nat.zero_add, dG, bQ, bP, bN, bR, dT, dV, dU, List.map_cons, List.map_nil, simprocAttr, implies_true, and_self, true_and, and_true, true_implies, false_implies]; rfl) (by simp only [push_cast, dM, yF, jZ, yG, kH, yL, kC, mW, mX, mY, mZ, Option.getD_some, Option.map_some, Option.map_none, Nat.zero_add, dG, bQ, bP, bN, bR, dT, dV, dU, List.map_cons, List.map_nil, simprocAttr, implies_true, and_self, true_and, and_true, true_implies, false_implies]; rfl) ?_
 exact ⟨rfl, rfl⟩
structure PutEnd (t : List Ent) (p : ByteArray) (n : Int × ByteArray) : Prop where
 ok : pOk p 5 = true
 whole : bL n = true
 some : n.1 ≠ 0
 free : dD t p = false
 up : par p = { data := #[] } ∨ (bW t (par p)).1 = 1
 dir : n.1 = 1 ∨ (t.filter fun e => jT e.1 p).length ≤ 1
 room : t.length < 200
 last : aQ t p = t.length
 gU : gU t
 size : p.size ≤ 1048576 ∧ ∀ e ∈ t, e.1.size ≤ 1048576
end Go.Proofs.YtkonlklieacjoaaDoor
end
section
set_option linter.unusedSimpArgs false
set_option linter.unusedVariables false
set_option maxRecDepth 20000
namespace Go.Proofs.YtkonlklieacjoaaDoor
open Go Go.Eng Go.RowKit Go.Tr
theorem zJm (t : List Ent) (i : Nat) : qDm (eM t) i = eM (t.eraseIdx i) := by
 rw [List.eraseIdx_eq_take_drop_succ, qAa, qBj, qBk]; rfl
theorem qVa (t : List Ent) (i : Nat) (e : Ent) : kW (eM t) i (eM [e]) = eM (t.take i ++ e :: t.drop i) := by
 rw [show e :: t.drop i = [e] ++ t.drop i from rfl, qAa, qAa, qBj, qBk, kW, List.append_assoc]
theorem zJl (t : List Ent) (i : Nat) (hi : i < t.length) : HFunS Tryd.prog 55 [.own 0, .v (.int .i64 i), .v (.int .i64 ((i : Int) + 1))] [(0, aY t)] (fun h st => h = .own 0 ∧ st = [(0, aY (t.eraseIdx i))]) := by
 intro c w ρ xs vs hw G R
 obtain ⟨R1, R2⟩ := R
 match vs, R1 with
 | [v0, v1, v2], _ =>
 have r0 := R2 0 (by simp) (by simp)
 have r1 := R2 1 (by simp) (by simp)
 have r2 := R2 2 (by simp) (by simp)
 simp only [List.getElem_cons_zero, List.getElem_cons_succ] at r0 r1 r2
 cases r1
 cases r2
 cases r0
 obtain ⟨g, cap, cur, e0, b1, b2, b3, b4, b5⟩ := qHl (id := 0) G rfl (by omega)
 have h := qTf w g t.length cap i (i + 1) cur b1 b2 b3 b4 rfl (by omega) (by rw [b5]; exact oB t)
 rw [e0]
 refine Ret.mono h ?_
 rintro r w' ⟨rfl, hO, cur', d1, d2, d3⟩
 rw [b5, zJm] at d3
 have hl : (t.eraseIdx i).length = t.length - 1 := by rw [List.length_eraseIdx, if_pos hi]
 refine qTe G hw (t0 := t) (t := t.eraseIdx i) rfl (fun j h => ?_) ?_ ?_ ?_ rfl
 ·match j, h with
  | 0, h => exact h
  | j + 1, h => exact h
 ·rw [hl]
  exact ⟨by rw [tF, hl], .inr ⟨g, cap, cur', rfl, Nat.zero_le _, d1, by omega, b3, d2, d3⟩⟩
 ·rw [e0]
  exact ⟨hO.os, hO.tape, hO.output, Nat.le_of_eq hO.size.symm, fun b _ hb => hO.block b fun e => hb (by rw [e]; rfl)⟩
 ·intro b hb
  right
  rw [e0]
  exact hb
theorem zHf (t : List Ent) (i : Nat) (e : Ent) (hi : i ≤ t.length) (hl : t.length ≤ 1048576) : HFunS Tryd.prog 56 [.own 0, .v (.int .i64 i), .own 1] [(0, aY t), (1, aY [e])] (fun h st => h = .own 0 ∧ st = [(0, aY (t.take i ++ e :: t.drop i))]) := by
 by_cases hlt : i < t.length
 ·intro c w ρ xs vs hw G R
  obtain ⟨R1, R2⟩ := R
  match vs, R1 with
  | [v0, v1, v2], _ =>
  have r0 := R2 0 (by simp) (by simp)
  have r1 := R2 1 (by simp) (by simp)
  have r2 := R2 2 (by simp) (by simp)
  simp only [List.getElem_cons_zero, List.getElem_cons_succ] at r0 r1 r2
  cases r1
  cases r0
  cases r2
  obtain ⟨g, cap, cur, e0, b1, b2, b3, b4, b5⟩ := qHl (id := 0) G rfl (by omega)
  obtain ⟨vb, vc, cv, e1, c1, c2, c3, c4, c5⟩ := qHl (id := 1) (t := [e]) G rfl (by simp)
  have hne : vb ≠ g := fun h => G.apart 0 1 _ _ g (by omega) rfl rfl (by rw [e0]; rfl) (by rw [e1, h]; rfl)
  have hbx : ∀ j, ¬ nT (rlk [(0, aY t), (1, aY [e])] j) := fun j h => by
   match j, h with
   | 0, h => exact h
   | 1, h => exact h
   | j + 2, h => exact h
  have hlen : (t.take i ++ e :: t.drop i).length = t.length + 1 := by simp; omega
  rw [e0, e1]
  simp only [List.length_singleton, Nat.one_mul] at c2 c5
  by_cases hroom : t.length + 1 ≤ cap
  ·refine Ret.mono (qS2 w g t.length cap i vb vc cur cv b1 c1 hne hroom b3 b4 c4 c2 hlt (by rw [b5]; exact oB t) (by rw [c5]; exact oB _)) ?_
   rintro r w' ⟨rfl, hO, cur', d1, d2, d3⟩
   rw [b5, c5, qVa] at d3
   refine qTe G hw (t0 := t) (t := t.take i ++ e :: t.drop i) rfl hbx ?_ ?_ ?_ rfl
   ·rw [hlen]
    exact ⟨by rw [tF, hlen], .inr ⟨g, cap, cur', rfl, Nat.zero_le _, d1, hroom, b3, d2, d3⟩⟩
   ·rw [e0]
    exact ⟨hO.os, hO.tape, hO.output, Nat.le_of_eq hO.size.symm, fun b _ hb => hO.block b fun e => hb (by rw [e]; rfl)⟩
   ·intro b hb
    right
    rw [e0]
    exact hb
  ·refine Ret.mono (qU9 w g t.length cap i vb vc cur cv b1 c1 b2 (by omega) (by omega) b4 c4 c2 hlt (by rw [b5]; exact oB t) (by rw [c5]; exact oB _)) ?_
   rintro r w' ⟨G', rfl, g1, g2, hB, cur', d1, d2, d3⟩
   rw [b5, c5, qVa] at d3
   refine qTe G hw (t0 := t) (t := t.take i ++ e :: t.drop i) rfl hbx ?_ ?_ ?_ rfl
   ·rw [hlen]
    exact ⟨by rw [tF, hlen], .inr ⟨_, G', cur', rfl, Nat.zero_le _, d1, g1, g2, d2, d3⟩⟩
   ·exact ⟨hB.os, hB.tape, hB.output, hB.size, fun b hlt _ => hB.block b hlt⟩
   ·intro b hb
    left
    simp only [Value.ownBlock, Option.some.injEq] at hb
    omega
 ·have hie : i = t.length := by omega
  subst hie
  rw [List.take_length, List.drop_length]
  exact zHh t e hl
end Go.Proofs.YtkonlklieacjoaaDoor
end
