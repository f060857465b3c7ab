/-
  ref22.Plan.
-/
import Derived.Test.YtkonlklieacjoaaDoorUob
import Derived.Test.YtkonlklieacjoaaDoorUpl
import Derived.Test.YtkonlklieacjoaaDoorUnB
set_option linter.unusedSimpArgs false
set_option linter.unusedVariables false
set_option maxRecDepth 20000
namespace Go.Tr
open Go Go.Eng Go.RowKit
def qBc (fr : Bool) (k : Nat) (out : List Bool) (L : List Chg) (t : List Ent) : HV := match iU k (dN out) (lab L) t with
 | .ok u => .tup [.lst fr (aH u), .v (.int .i64 (-1))]
 | .error i => .tup [.v (.slice none 0 0), .v (.int .i64 (i : Nat))]
theorem zD2 (k : Nat) (out : List Bool) (L : List Chg) (t : List Ent) : qBc true k out L t = qYq k out L t := rfl
theorem qTq {a b : HV} (ha : ∀ (ρ ρ' : Nat → Value) (w : World) (A : Nat → Prop) (n : Nat) (v : Value), RepH w A n ρ v a → RepH w A n ρ' v a) (hb : ∀ (ρ ρ' : Nat → Value) (w : World) (A : Nat → Prop) (n : Nat) (v : Value), RepH w A n ρ v b → RepH w A n ρ' v b) (ρ ρ' : Nat → Value) (w : World) (A : Nat → Prop) (n : Nat) (v : Value) (h : RepH w A n ρ v (.tup [a, b])) : RepH w A n ρ' v (.tup [a, b]) := by
 cases h with
 | tup hn h =>
  refine .tup hn fun j p q => ?_
  have := h j p q
  match j, q with
  | 0, _ => exact ha _ _ _ _ _ _ this
  | 1, _ => exact hb _ _ _ _ _ _ this
theorem zFn (x : Value) (ρ ρ' : Nat → Value) (w : World) (A : Nat → Prop) (n : Nat) (v : Value) (h : RepH w A n ρ v (.v x)) : RepH w A n ρ' v (.v x) := by
 rw [cC h]; exact .v _
theorem zQd (fr : Bool) (xs : List (List FV)) (ρ ρ' : Nat → Value) (w : World) (A : Nat → Prop) (n : Nat) (v : Value) (h : RepH w A n ρ v (.lst fr xs)) : RepH w A n ρ' v (.lst fr xs) := by
 cases h with
 | lst h => exact .lst h
theorem zG0 (k : Nat) (out : List Bool) (L : List Chg) (t : List Ent) (ρ ρ' : Nat → Value) (w : World) (A : Nat → Prop) (n : Nat) (v : Value) : RepH w A n ρ v (qYq k out L t) → RepH w A n ρ' v (qYq k out L t) := by
 unfold qYq
 split
 ·exact qTq (zQd _ _) (zFn _) _ _ _ _ _ _
 ·exact qTq (zFn _) (zFn _) _ _ _ _ _ _
def qBb (L : List Chg) (T : Tri) (i : Nat) : List Bool := (L.take i).map (fun c => !eF c T) ++ List.replicate (L.length - i) false
theorem qUo {L : List Chg} {T : Tri} {i : Nat} (h : i ≤ L.length) : (qBb L T i).length = L.length := by simp [qBb]; omega
theorem qPn {L : List Chg} {T : Tri} {i : Nat} (h : i < L.length) : qBb L T (i + 1) = (qBb L T i).set i (!eF L[i] T) := by
 have e : L.length - i = (L.length - (i + 1)) + 1 := by omega
 unfold qBb
 rw [List.take_succ_eq_append_getElem h, List.map_append, List.set_append_right _ _ (by simp; omega), e, List.replicate_succ]
 have : i - ((L.take i).map fun c => !eF c T).length = 0 := by simp; omega
 rw [this]
 simp
theorem zD0 {L : List Chg} {T : Tri} {i : Nat} (h : i < L.length) (hr : eF L[i] T = true) : qBb L T (i + 1) = qBb L T i := by
 rw [qPn h, hr]
 have hl := qUo (T := T) (Nat.le_of_lt h)
 apply List.ext_getElem (by simp)
 intro j h1 h2
 rw [List.getElem_set]
 split
 ·rename_i e
  subst e
  have e1 : (qBb L T i)[i]? = some false := by
   unfold qBb
   rw [List.getElem?_append_right (by simp; omega), List.getElem?_replicate, if_pos (by simp; omega)]
  rw [List.getElem?_eq_getElem h2] at e1
  rw [Option.some.inj e1]; rfl
 ·rfl
theorem zGv (L : List Chg) (T : Tri) : qBb L T L.length = L.map fun c => !eF c T := by simp [qBb]
inductive NowI (out : List Bool) (L : List Chg) (T : Tri) : Nat → Int → HV → HV → HV → Prop
 | s0 : NowI out L T 0 (-1) (.v (.slice none 0 0)) (.v (.slice none 0 0)) (.v (.slice none 0 0))
 | s1 (f0 : Bool) (u0 : List Ent) (h0 : iU 0 (dN out) (lab L) T.1 = .ok u0) : NowI out L T 1 (-1) (.lst f0 (aH u0)) (.v (.slice none 0 0)) (.v (.slice none 0 0))
 | s2 (f0 f1 : Bool) (u0 u1 : List Ent) (h0 : iU 0 (dN out) (lab L) T.1 = .ok u0) (h1 : iU 1 (dN out) (lab L) T.2.1 = .ok u1) : NowI out L T 2 (-1) (.lst f0 (aH u0)) (.lst f1 (aH u1)) (.v (.slice none 0 0))
 | s3 (f0 f1 f2 : Bool) (u0 u1 u2 : List Ent) (h : uR (dN out) (lab L) T = .ok (u0, u1, u2)) : NowI out L T 3 (-1) (.lst f0 (aH u0)) (.lst f1 (aH u1)) (.lst f2 (aH u2))
 | bad (k i : Nat) (c0 c1 c2 : HV) (h : uR (dN out) (lab L) T = .error i) : NowI out L T k (i : Int) c0 c1 c2
theorem zK0 {out : List Bool} {L : List Chg} (hl : out.length = L.length) {i : Nat} {T : Tri} (h : uR (dN out) (lab L) T = .error i) : i < L.length ∧ (kept (out.set i true) L).length + 1 = (kept out L).length := by
 have h2 := h
 rw [qGa] at h2
 obtain ⟨x, hx, e, -⟩ := qXm h2
 obtain ⟨j, hj, rfl⟩ := List.getElem_of_mem hx
 have hj' : j < (kept out L).length := hj
 have e' : (kept out L)[j].1 = i := e
 obtain ⟨k1, k2, k3⟩ := qU8 hl hj'
 rw [e'] at k1 k2
 refine ⟨by omega, ?_⟩
 rw [k1, List.length_eraseIdx_of_lt hj']
 omega
end Go.Tr
namespace Go.Proofs.YtkonlklieacjoaaDoor
open Go Go.Eng Go.RowKit Go.Tr
noncomputable def iA (k : Nat) (out : List Bool) (L : List Chg) : Bool := by
 classical exact if qVe k out L then false else true
theorem qEg {S : HS} {h0 h1 : HV} (k : Nat) (hk : k < 3) (out : List Bool) (L : List Chg) (t : List Ent) {K : HV → Prop} (hT : Tree t) (hL : L.length ≤ 1048576) (hs : ∀ c ∈ L, c.p.size ≤ 1048576) (ho : out.length = L.length)
  (l0 : Lend S.st h0 (.lst false (chs L))) (l1 : Lend S.st h1 (.lst false (bls out))) (hK : K (qBc (iA k out L) k out L t)) : zFg Tryd.prog 74 [h0, h1, .lst false (aH t), .v (.int .i64 k)] S K := by
 by_cases hid : qVe k out L
 ·rw [show iA k out L = false by unfold iA; rw [if_pos hid]] at hK
  refine ⟨zQt, _, hK, fun c look w ρ xs vs G R => ?_⟩
  obtain ⟨R1, R2⟩ := R
  match vs, R1 with
  | [v0, v1, v2, v3], _ =>
  have r0 := R2 0 (by simp) (by simp)
  have r1 := R2 1 (by simp) (by simp)
  have r2 := R2 2 (by simp) (by simp)
  have r3 := R2 3 (by simp) (by simp)
  simp only [List.getElem_cons_zero, List.getElem_cons_succ] at r0 r1 r2 r3
  have H := zNq k hk out L v2 hL ho hid
  have R' : tU w (fun _ => False) w.heap.size (fun _ => undef) [v0, v1, v2, v3] [.lst false (chs L), .lst false (bls out), .v v2, .v (.int .i64 k)] := by
   refine kB G (hs := [h0, h1, .v v2, .v (.int .i64 k)]) ⟨rfl, fun i a b => ?_⟩ (.cons l0 (.cons l1 (.cons (.v _) (.cons (.v _) .nil))))
   match i, a with
   | 0, _ => exact r0
   | 1, _ => exact r1
   | 2, _ => exact .v _
   | 3, _ => exact r3
  refine Ret.mono (H w _ R') fun v w' ⟨B, h, st, h8, q, ρ', xs', G', hr⟩ => ⟨?_, B⟩
  subst q
  unfold qBc
  rw [zGz hid t]
  dsimp only
  cases hr with
  | tup hn h =>
   refine .tup hn fun j p q => ?_
   match j, p, q with
   | 0, p, _ =>
    have e := cC (h 0 p (by simp))
    simp only [List.getElem_cons_zero] at e ⊢
    rw [e]
    exact r2.above B
   | 1, p, _ =>
    have e := cC (h 1 p (by simp))
    simp only [List.getElem_cons_succ, List.getElem_cons_zero] at e ⊢
    rw [e]; exact .v _
 ·rw [show iA k out L = true by unfold iA; rw [if_neg hid]] at hK
  have H := zNp k hk out L t hT hL hs ho hid
  exact ⟨zQt, qYq k out L t, (by rw [← zD2]; exact hK), fun c look w ρ xs vs G R => Ret.mono (H w vs (kB G R (.cons l0 (.cons l1 (.cons (aN (yT _)) (.cons (.v _) .nil)))))) fun v w' ⟨B, h, st, h8, q, ρ', xs', G', hr⟩ => ⟨by
   subst q
   have hw : c.n0 ≤ w.heap.size := Nat.le_trans c.hn G.kept.size
   refine zG0 k out L t ρ' ρ _ _ _ _ (hr.up (Nat.le_refl _) (fun _ _ _ => rfl) (fun b _ hA => ?_) hw)
   left
   show b < w.heap.size
   rcases hA with h0 | ⟨i, r, hi, hb⟩
   ·have := (G.a0 b h0).1; have := G.kept.size; omega
   ·exact G.lt hi hb, B⟩⟩
set_option maxHeartbeats 16000000 in
theorem zKo (i0 j0 k0 : Int) (L : List Chg) (T : Tri) (hT : Tree3 T) (hL : L.length ≤ 1048576) (hs : ∀ c ∈ L, c.p.size ≤ 1048576) : HFunS Tryd.prog 43 [qYe i0 j0 k0 L, uY T] [] (fun h st => ∃ f0 f1 f2 : Bool, h = .tup [.agg [.lst f0 (aH (jE L T).1.1), .lst f1 (aH (jE L T).1.2.1), .lst f2 (aH (jE L T).1.2.2)], .own 0] ∧ st = [(0, iE (nJ (jE L T).2))]) := by
 refine zM1 (N := 81) Tryd.func43 rfl Tryd.ntmps43 Tryd.results43 (by simp) ?_
 have hl : ∀ i, i < 3 → (tr T i).length ≤ 1048576 := fun i _ => by have := (hT.tr i).len; omega
 obtain ⟨W, hW⟩ : ∃ W, jE L T = W := ⟨_, rfl⟩
 rw [hW]
 have hW1 : (oU (L.length + 1) (L.map fun c => !eF c T) L T).1 = W.1 := by rw [zMn, ← hW]; rfl
 have hW2 : (L.filter fun c => !eF c T).map Chg.p ++ (oU (L.length + 1) (L.map fun c => !eF c T) L T).2 = W.2 := by rw [zMn, ← hW]; rfl
 clear hW
 have hmk : List.replicate L.length [FV.v (.bool false)] = bls (qBb L T 0) := by simp [bls, qBb]
 refine zE ?_; refine zJ (fun K hK => ?_); simp (maxSteps := 2000000) (disch := omega) only [push_cast, ↓Int.cast_ofNat_Int, simprocAttr]; refine hK _ ?_; clear hK K
 refine zE ?_; refine zJ (fun K hK => ?_); simp (maxSteps := 2000000) (disch := omega) only [push_cast, ↓Int.cast_ofNat_Int, simprocAttr, aJ, hmk]
 refine ⟨⟨by omega, by omega, by simp only [maxLen]; omega⟩, ?_⟩
 refine hK _ ?_; clear hK K
 refine zE ?_; refine zJ (fun K hK => ?_); simp (maxSteps := 2000000) (disch := omega) only [push_cast, ↓Int.cast_ofNat_Int, simprocAttr]; refine hK _ ?_; clear hK K
 refine eD 7 9000 9 1 rfl (by simp only [dR, eZ, fA, cB, bH, aR, aP, cF, aU, aT, aS, cJ, cA, bZ, bG, bC, bD, cQ, cD, dA, cP, Nat.reduceBEq, Nat.reduceEqDiff, reduceIte, cond_true, cond_false, List.map_cons, List.map_nil]; exact rfl) ?_
 refine zE ?_; refine zE ?_; refine zJ (fun K hK => ?_); simp (maxSteps := 2000000) (disch := omega) only [push_cast, ↓Int.cast_ofNat_Int, simprocAttr]; refine hK _ ?_; clear hK K
 refine zA ?_; refine zD ?_
 refine bM (fun x : Nat × List ByteArray => ⟨[(2, .ptr 16 4 0 0), (3, .ptr 24 3 0 0), (4, .ptr 32 3 0 0), (6, .own 120), (7, .own 9000), (8, .v (.int .i64 x.1))], [(16, .bx true 52 (iT i0 j0 k0 L)), (24, .bx true 53 (iR T)), (32, .bx true 53 [.v (.slice none 0 0), .v (.slice none 0 0), .v (.slice none 0 0)]), (120, vN (qBb L T x.1)), (9000, iE x.2)]⟩) (fun x => x.1 ≤ L.length ∧ x.2 = ((L.take x.1).filter (fun c => !eF c T)).map Chg.p) (fun x => L.length - x.1) [2, 3, 4, 6, 7, 8] [16, 24, 32, 120, 9000] (0, []) (by simp only [zZ, zR, zP, zQ, zN, zS, zM, zX, zU, Nat.reduceEqDiff, reduceIte]; try rfl) ⟨Nat.zero_le _, rfl⟩ ?_
 rintro ⟨i, s⟩ ⟨hi, hS⟩
 dsimp only at hi hS
 have hSl : s.length ≤ i := by
  rw [hS, List.length_map]
  have := List.length_filter_le (fun c => !eF c T) (L.take i)
  rw [List.length_take] at this
  omega
 by_cases hlt : i < L.length
 ·refine zE ?_; refine zE ?_; refine zJ (fun K hK => ?_); simp (maxSteps := 2000000) (disch := omega) only [push_cast, ↓Int.cast_ofNat_Int, simprocAttr, aJ]; refine hK _ ?_; clear hK K
  refine zA ?_
  refine yD rfl ?_
  refine zC ?_; refine zE ?_
  have c48 := qZt L[i] T hl
  have f2 := lW (fun c => !eF c T) hlt
  have f3 := congrArg (List.map Chg.p) f2
  rw [List.map_append, ← hS] at f3
  have hol := qUo (T := T) hi
  refine zD ?_; refine zE ?_; refine dQ 8 mixed (by kernel_rfl) (fun K hK K1 hK1 => ?_); simp (maxSteps := 2000000) (disch := omega) only [push_cast, ↓Int.cast_ofNat_Int, simprocAttr, aJ, bF, bJ hlt]
  refine qQ2 zQz c48 (.cons (wH L[i]) (.cons (eX (aN (yT _)) (aN (yT _)) (aN (yT _))) .nil)) ?_
  cases hrp : eF L[i] T with
  | true =>
   rw [hrp] at f3
   simp only [if_true, Bool.not_true, Bool.false_eq_true, if_false, List.map_nil, List.append_nil] at f3
   have ok := zD0 hlt hrp
   with_reducible refine aB ?_; simp (maxSteps := 2000000) (disch := omega) only [push_cast, ↓Int.cast_ofNat_Int, simprocAttr]
   refine hK1 _ ?_; clear hK1 K1; with_reducible refine aB ?_; simp (maxSteps := 2000000) (disch := omega) only [push_cast, ↓Int.cast_ofNat_Int, simprocAttr]
   refine hK _ ?_; clear hK K
   refine yC rfl ?_
   refine zC ?_; refine zB ?_; refine zA ?_
   refine zJ (fun K hK => ?_); simp (maxSteps := 2000000) (disch := omega) only [push_cast, ↓Int.cast_ofNat_Int, simprocAttr]; refine hK _ ?_; clear hK K
   refine zA ?_
   exact ⟨(i + 1, s), by simp only [zZ, zR, zP, zQ, zN, zS, zM, zX, zU, Nat.reduceEqDiff, reduceIte, ok]; try rfl, ⟨hlt, f3.symm⟩, by dsimp only; omega⟩
  | false =>
   rw [hrp] at f3
   simp only [if_true, Bool.not_false, Bool.false_eq_true, if_false, List.map_cons, List.map_nil, List.append_nil] at f3
   have ok := qPn (T := T) hlt
   rw [hrp, Bool.not_false] at ok
   with_reducible refine aB ?_; simp (maxSteps := 2000000) (disch := omega) only [push_cast, ↓Int.cast_ofNat_Int, simprocAttr]
   refine hK1 _ ?_; clear hK1 K1; with_reducible refine aB ?_; simp (maxSteps := 2000000) (disch := omega) only [push_cast, ↓Int.cast_ofNat_Int, simprocAttr]
   refine hK _ ?_; clear hK K
   refine yD rfl ?_
   have hio : i < (qBb L T i).length := by omega
   refine zE ?_; refine zJ (fun K hK => ?_); simp (maxSteps := 2000000) (disch := omega) only [push_cast, ↓Int.cast_ofNat_Int, simprocAttr, gL, gK, uQ hio, qTh, hol]; (repeat refine ⟨by first | omega | decide | ((repeat' apply And.intro) <;> first | omega | decide), ?_⟩); refine hK _ ?_; clear hK K
   refine zA ?_
   refine zJ (fun K hK => ?_); simp (maxSteps := 2000000) (disch := omega) only [push_cast, ↓Int.cast_ofNat_Int, simprocAttr, aJ, bF, bJ hlt, aX, iS]; (repeat refine ⟨by first | omega | decide | ((repeat' apply And.intro) <;> first | omega | decide), ?_⟩); refine hK _ ?_; clear hK K
   refine zB ?_; refine zA ?_
   refine zJ (fun K hK => ?_); simp (maxSteps := 2000000) (disch := omega) only [push_cast, ↓Int.cast_ofNat_Int, simprocAttr]; refine hK _ ?_; clear hK K
   refine zA ?_
   exact ⟨(i + 1, s ++ [L[i].p]), by simp only [zZ, zR, zP, zQ, zN, zS, zM, zX, zU, Nat.reduceEqDiff, reduceIte, ok]; try rfl, ⟨hlt, f3.symm⟩, by dsimp only; omega⟩
 ·have hie : i = L.length := by omega
  subst hie
  rw [List.take_length] at hS
  rw [zGv]
  refine zE ?_; refine zE ?_; refine zJ (fun K hK => ?_); simp (maxSteps := 2000000) (disch := omega) only [push_cast, ↓Int.cast_ofNat_Int, simprocAttr, aJ]; refine hK _ ?_; clear hK K
  refine zA ?_
  refine yC rfl ?_
  refine zT ?_; refine zG ?_; refine zG ?_; refine zH ?_; refine zA ?_
  refine yB [2, 3, 4, 6, 7] [16, 24, 32, 120, 9000] (by simp only [zZ, zR, zP, zQ, zN, zS, zM, zX, zU, Nat.reduceEqDiff, reduceIte]; exact rfl) ?_
  rw [← hS] at hW2
  have hkl : (kept (L.map fun c => !eF c T) L).length < L.length + 1 := by
   have := List.length_filter_le (dN (L.map fun c => !eF c T)) (lab L)
   rw [fU] at this
   exact Nat.lt_succ_of_le this
  have hml : (L.map fun c => !eF c T).length = L.length := by simp
  generalize (L.map fun c => !eF c T) = out at *
  refine zD ?_
  refine bM (fun x : Nat × List Bool × List ByteArray => ⟨[(2, .ptr 16 4 0 0), (3, .ptr 24 3 0 0), (4, .ptr 32 3 0 0), (6, .own 120), (7, .own 9000)], [(16, .bx true 52 (iT i0 j0 k0 L)), (24, .bx true 53 (iR T)), (32, .bx true 53 [.v (.slice none 0 0), .v (.slice none 0 0), .v (.slice none 0 0)]), (120, vN x.2.1), (9000, iE x.2.2)]⟩) (fun x => (x.1 + x.2.2.length ≤ 2097153 ∧ x.2.1.length = L.length ∧ (kept x.2.1 L).length < x.1) ∧ (oU x.1 x.2.1 L T).1 = W.1 ∧ x.2.2 ++ (oU x.1 x.2.1 L T).2 = W.2) (fun x => x.1) [2, 3, 4, 6, 7] [16, 24, 32, 120, 9000] (L.length + 1, out, s) (by simp only [zZ, zR, zP, zQ, zN, zS, zM, zX, zU, Nat.reduceEqDiff, reduceIte]; try rfl) ⟨⟨by dsimp only; omega, hml, hkl⟩, hW1, hW2⟩ ?_
  clear hS hSl hW1 hW2 hkl hml s out hlt hi
  rintro ⟨n, out, s⟩ ⟨⟨hn, hol, hkl⟩, hW1, hW2⟩
  dsimp only at hn hol hkl hW1 hW2
  obtain ⟨n, rfl⟩ : ∃ m, n = m + 1 := ⟨n - 1, by omega⟩
  refine zD ?_; refine zE ?_; refine zJ (fun K hK => ?_); simp (maxSteps := 2000000) (disch := omega) only [push_cast, ↓Int.cast_ofNat_Int, simprocAttr]; refine hK _ ?_; clear hK K
  refine zE ?_; refine zJ (fun K hK => ?_); simp (maxSteps := 2000000) (disch := omega) only [push_cast, ↓Int.cast_ofNat_Int, simprocAttr]; refine hK _ ?_; clear hK K
  refine zE ?_; refine zE ?_; refine zJ (fun K hK => ?_); simp (maxSteps := 2000000) (disch := omega) only [push_cast, ↓Int.cast_ofNat_Int, simprocAttr]; refine hK _ ?_; clear hK K
  refine zA ?_; refine zD ?_
  refine bM (fun x : Nat × Int × HV × HV × HV => ⟨[(2, .ptr 16 4 0 0), (3, .ptr 24 3 0 0), (4, .ptr 32 3 0 0), (6, .own 120), (7, .own 9000), (9, .ptr 72 3 0 0), (10, .v (.int .i64 x.2.1)), (11, .v (.int .i64 x.1))], [(72, .bx true 53 [x.2.2.1, x.2.2.2.1, x.2.2.2.2]), (16, .bx true 52 (iT i0 j0 k0 L)), (24, .bx true 53 (iR T)), (32, .bx true 53 [.v (.slice none 0 0), .v (.slice none 0 0), .v (.slice none 0 0)]), (120, vN out), (9000, iE s)]⟩) (fun x => x.1 ≤ 3 ∧ NowI out L T x.1 x.2.1 x.2.2.1 x.2.2.2.1 x.2.2.2.2) (fun x => 3 - x.1) [2, 3, 4, 6, 7, 9, 10, 11] [72, 16, 24, 32, 120, 9000] (0, -1, .v (.slice none 0 0), .v (.slice none 0 0), .v (.slice none 0 0)) (by simp only [zZ, zR, zP, zQ, zN, zS, zM, zX, zU, Nat.reduceEqDiff, reduceIte]; try rfl) ⟨by decide, .s0⟩ ?_
  rintro ⟨k, b, c0, c1, c2⟩ ⟨hk, hN⟩
  dsimp only at hk hN
  cases hN with
  | s0 =>
   refine zE ?_; refine zE ?_; refine zJ (fun K hK => ?_); simp (maxSteps := 2000000) (disch := omega) only [push_cast, ↓Int.cast_ofNat_Int, simprocAttr]; refine hK _ ?_; clear hK K
   refine zA ?_
   refine yD rfl ?_
   refine zC ?_; refine zE ?_
   have hTk : Tree T.1 := hT.t0
   obtain ⟨fr, hfr⟩ : ∃ b, iA 0 out L = b := ⟨_, rfl⟩
   cases hZ : iU 0 (dN out) (lab L) T.1 with
   | ok u0 =>
    have hF : qBc (iA 0 out L) 0 out L T.1 = .tup [.lst fr (aH u0), .v (.int .i64 (-1))] := by rw [hfr, qBc, hZ]
    refine zD ?_; refine eQ 14 [(13, none)] [[(72, .bx true 53 [.v (.slice none 0 0), .v (.slice none 0 0), .v (.slice none 0 0)]), (16, .bx true 52 (iT i0 j0 k0 L)), (24, .bx true 53 (iR T)), (32, .bx true 53 [.v (.slice none 0 0), .v (.slice none 0 0), .v (.slice none 0 0)]), (120, vN out), (9000, iE s)], [(72, .bx true 53 [.lst fr (aH u0), .v (.slice none 0 0), .v (.slice none 0 0)]), (16, .bx true 52 (iT i0 j0 k0 L)), (24, .bx true 53 (iR T)), (32, .bx true 53 [.v (.slice none 0 0), .v (.slice none 0 0), .v (.slice none 0 0)]), (120, vN out), (9000, iE s)]] [(2, 0, 0), (6, 0, 0), (8, 0, 0)] mixed (by kernel_rfl) (by kernel_rfl) rfl (fun K hK K1 hK1 => ?_); simp (maxSteps := 2000000) (disch := omega) only [push_cast, ↓Int.cast_ofNat_Int, simprocAttr]
    refine qEg 0 (by decide) out L T.1 hTk hL hs hol (aN (iC _)) (mU (qAg _) rfl) ?_
    rw [hF]
    with_reducible refine aB ?_; simp (maxSteps := 2000000) (disch := omega) only [push_cast, ↓Int.cast_ofNat_Int, simprocAttr]
    refine hK1 _ ?_; clear hK1 K1; with_reducible refine aB ?_; simp (maxSteps := 2000000) (disch := omega) only [push_cast, ↓Int.cast_ofNat_Int, simprocAttr]
    refine hK _ ?_; clear hK K
    refine zB ?_; refine zA ?_
    refine zJ (fun K hK => ?_); simp (maxSteps := 2000000) (disch := omega) only [push_cast, ↓Int.cast_ofNat_Int, simprocAttr]; refine hK _ ?_; clear hK K
    refine zA ?_
    exact ⟨(1, -1, .lst fr (aH u0), .v (.slice none 0 0), .v (.slice none 0 0)), by simp only [zZ, zR, zP, zQ, zN, zS, zM, zX, zU, Nat.reduceEqDiff, reduceIte]; try rfl, ⟨by dsimp only; omega, .s1 fr u0 hZ⟩, by dsimp only; omega⟩
   | error e =>
    have hF : qBc (iA 0 out L) 0 out L T.1 = .tup [.v (.slice none 0 0), .v (.int .i64 (e : Nat))] := by rw [hfr, qBc, hZ]
    refine zD ?_; refine eQ 14 [(13, none)] [[(72, .bx true 53 [.v (.slice none 0 0), .v (.slice none 0 0), .v (.slice none 0 0)]), (16, .bx true 52 (iT i0 j0 k0 L)), (24, .bx true 53 (iR T)), (32, .bx true 53 [.v (.slice none 0 0), .v (.slice none 0 0), .v (.slice none 0 0)]), (120, vN out), (9000, iE s)], [(72, .bx true 53 [.v (.slice none 0 0), .v (.slice none 0 0), .v (.slice none 0 0)]), (16, .bx true 52 (iT i0 j0 k0 L)), (24, .bx true 53 (iR T)), (32, .bx true 53 [.v (.slice none 0 0), .v (.slice none 0 0), .v (.slice none 0 0)]), (120, vN out), (9000, iE s)]] [(2, 0, 0), (6, 0, 0), (8, 0, 0)] mixed (by kernel_rfl) (by kernel_rfl) rfl (fun K hK K1 hK1 => ?_); simp (maxSteps := 2000000) (disch := omega) only [push_cast, ↓Int.cast_ofNat_Int, simprocAttr]
    refine qEg 0 (by decide) out L T.1 hTk hL hs hol (aN (iC _)) (mU (qAg _) rfl) ?_
    rw [hF]
    with_reducible refine aB ?_; simp (maxSteps := 2000000) (disch := omega) only [push_cast, ↓Int.cast_ofNat_Int, simprocAttr]
    refine hK1 _ ?_; clear hK1 K1; with_reducible refine aB ?_; simp (maxSteps := 2000000) (disch := omega) only [push_cast, ↓Int.cast_ofNat_Int, simprocAttr]
    refine hK _ ?_; clear hK K
    refine zB ?_; refine zA ?_
    refine zJ (fun K hK => ?_); simp (maxSteps := 2000000) (disch := omega) only [push_cast, ↓Int.cast_ofNat_Int, simprocAttr]; refine hK _ ?_; clear hK K
    refine zA ?_
    exact ⟨(1, (e : Nat), .v (.slice none 0 0), .v (.slice none 0 0), .v (.slice none 0 0)), by simp only [zZ, zR, zP, zQ, zN, zS, zM, zX, zU, Nat.reduceEqDiff, reduceIte]; try rfl, ⟨by dsimp only; omega, .bad 1 e _ _ _ (by rw [uR, hZ]; rfl)⟩, by dsimp only; omega⟩
  | s1 f0 u0 h0 =>
   refine zE ?_; refine zE ?_; refine zJ (fun K hK => ?_); simp (maxSteps := 2000000) (disch := omega) only [push_cast, ↓Int.cast_ofNat_Int, simprocAttr]; refine hK _ ?_; clear hK K
   refine zA ?_
   refine yD rfl ?_
   refine zC ?_; refine zE ?_
   have hTk : Tree T.2.1 := hT.t1
   obtain ⟨fr, hfr⟩ : ∃ b, iA 1 out L = b := ⟨_, rfl⟩
   cases hZ : iU 1 (dN out) (lab L) T.2.1 with
   | ok u1 =>
    have hF : qBc (iA 1 out L) 1 out L T.2.1 = .tup [.lst fr (aH u1), .v (.int .i64 (-1))] := by rw [hfr, qBc, hZ]
    refine zD ?_; refine eQ 14 [(13, none)] [[(72, .bx true 53 [.lst f0 (aH u0), .v (.slice none 0 0), .v (.slice none 0 0)]), (16, .bx true 52 (iT i0 j0 k0 L)), (24, .bx true 53 (iR T)), (32, .bx true 53 [.v (.slice none 0 0), .v (.slice none 0 0), .v (.slice none 0 0)]), (120, vN out), (9000, iE s)], [(72, .bx true 53 [.lst f0 (aH u0), .lst fr (aH u1), .v (.slice none 0 0)]), (16, .bx true 52 (iT i0 j0 k0 L)), (24, .bx true 53 (iR T)), (32, .bx true 53 [.v (.slice none 0 0), .v (.slice none 0 0), .v (.slice none 0 0)]), (120, vN out), (9000, iE s)]] [(2, 0, 0), (6, 0, 0), (8, 0, 0)] mixed (by kernel_rfl) (by kernel_rfl) rfl (fun K hK K1 hK1 => ?_); simp (maxSteps := 2000000) (disch := omega) only [push_cast, ↓Int.cast_ofNat_Int, simprocAttr]
    refine qEg 1 (by decide) out L T.2.1 hTk hL hs hol (aN (iC _)) (mU (qAg _) rfl) ?_
    rw [hF]
    with_reducible refine aB ?_; simp (maxSteps := 2000000) (disch := omega) only [push_cast, ↓Int.cast_ofNat_Int, simprocAttr]
    refine hK1 _ ?_; clear hK1 K1; with_reducible refine aB ?_; simp (maxSteps := 2000000) (disch := omega) only [push_cast, ↓Int.cast_ofNat_Int, simprocAttr]
    refine hK _ ?_; clear hK K
    refine zB ?_; refine zA ?_
    refine zJ (fun K hK => ?_); simp (maxSteps := 2000000) (disch := omega) only [push_cast, ↓Int.cast_ofNat_Int, simprocAttr]; refine hK _ ?_; clear hK K
    refine zA ?_
    exact ⟨(2, -1, .lst f0 (aH u0), .lst fr (aH u1), .v (.slice none 0 0)), by simp only [zZ, zR, zP, zQ, zN, zS, zM, zX, zU, Nat.reduceEqDiff, reduceIte]; try rfl, ⟨by dsimp only; omega, .s2 f0 fr u0 u1 h0 hZ⟩, by dsimp only; omega⟩
   | error e =>
    have hF : qBc (iA 1 out L) 1 out L T.2.1 = .tup [.v (.slice none 0 0), .v (.int .i64 (e : Nat))] := by rw [hfr, qBc, hZ]
    refine zD ?_; refine eQ 14 [(13, none)] [[(72, .bx true 53 [.lst f0 (aH u0), .v (.slice none 0 0), .v (.slice none 0 0)]), (16, .bx true 52 (iT i0 j0 k0 L)), (24, .bx true 53 (iR T)), (32, .bx true 53 [.v (.slice none 0 0), .v (.slice none 0 0), .v (.slice none 0 0)]), (120, vN out), (9000, iE s)], [(72, .bx true 53 [.lst f0 (aH u0), .v (.slice none 0 0), .v (.slice none 0 0)]), (16, .bx true 52 (iT i0 j0 k0 L)), (24, .bx true 53 (iR T)), (32, .bx true 53 [.v (.slice none 0 0), .v (.slice none 0 0), .v (.slice none 0 0)]), (120, vN out), (9000, iE s)]] [(2, 0, 0), (6, 0, 0), (8, 0, 0)] mixed (by kernel_rfl) (by kernel_rfl) rfl (fun K hK K1 hK1 => ?_); simp (maxSteps := 2000000) (disch := omega) only [push_cast, ↓Int.cast_ofNat_Int, simprocAttr]
    refine qEg 1 (by decide) out L T.2.1 hTk hL hs hol (aN (iC _)) (mU (qAg _) rfl) ?_
    rw [hF]
    with_reducible refine aB ?_; simp (maxSteps := 2000000) (disch := omega) only [push_cast, ↓Int.cast_ofNat_Int, simprocAttr]
    refine hK1 _ ?_; clear hK1 K1; with_reducible refine aB ?_; simp (maxSteps := 2000000) (disch := omega) only [push_cast, ↓Int.cast_ofNat_Int, simprocAttr]
    refine hK _ ?_; clear hK K
    refine zB ?_; refine zA ?_
    refine zJ (fun K hK => ?_); simp (maxSteps := 2000000) (disch := omega) only [push_cast, ↓Int.cast_ofNat_Int, simprocAttr]; refine hK _ ?_; clear hK K
    refine zA ?_
    exact ⟨(2, (e : Nat), .lst f0 (aH u0), .v (.slice none 0 0), .v (.slice none 0 0)), by simp only [zZ, zR, zP, zQ, zN, zS, zM, zX, zU, Nat.reduceEqDiff, reduceIte]; try rfl, ⟨by dsimp only; omega, .bad 2 e _ _ _ (by rw [uR, h0, kJ, hZ]; rfl)⟩, by dsimp only; omega⟩
  | s2 f0 f1 u0 u1 h0 h1 =>
   refine zE ?_; refine zE ?_; refine zJ (fun K hK => ?_); simp (maxSteps := 2000000) (disch := omega) only [push_cast, ↓Int.cast_ofNat_Int, simprocAttr]; refine hK _ ?_; clear hK K
   refine zA ?_
   refine yD rfl ?_
   refine zC ?_; refine zE ?_
   have hTk : Tree T.2.2 := hT.t2
   obtain ⟨fr, hfr⟩ : ∃ b, iA 2 out L = b := ⟨_, rfl⟩
   cases hZ : iU 2 (dN out) (lab L) T.2.2 with
   | ok u2 =>
    have hF : qBc (iA 2 out L) 2 out L T.2.2 = .tup [.lst fr (aH u2), .v (.int .i64 (-1))] := by rw [hfr, qBc, hZ]
    refine zD ?_; refine eQ 14 [(13, none)] [[(72, .bx true 53 [.lst f0 (aH u0), .lst f1 (aH u1), .v (.slice none 0 0)]), (16, .bx true 52 (iT i0 j0 k0 L)), (24, .bx true 53 (iR T)), (32, .bx true 53 [.v (.slice none 0 0), .v (.slice none 0 0), .v (.slice none 0 0)]), (120, vN out), (9000, iE s)], [(72, .bx true 53 [.lst f0 (aH u0), .lst f1 (aH u1), .lst fr (aH u2)]), (16, .bx true 52 (iT i0 j0 k0 L)), (24, .bx true 53 (iR T)), (32, .bx true 53 [.v (.slice none 0 0), .v (.slice none 0 0), .v (.slice none 0 0)]), (120, vN out), (9000, iE s)]] [(2, 0, 0), (6, 0, 0), (8, 0, 0)] mixed (by kernel_rfl) (by kernel_rfl) rfl (fun K hK K1 hK1 => ?_); simp (maxSteps := 2000000) (disch := omega) only [push_cast, ↓Int.cast_ofNat_Int, simprocAttr]
    refine qEg 2 (by decide) out L T.2.2 hTk hL hs hol (aN (iC _)) (mU (qAg _) rfl) ?_
    rw [hF]
    with_reducible refine aB ?_; simp (maxSteps := 2000000) (disch := omega) only [push_cast, ↓Int.cast_ofNat_Int, simprocAttr]
    refine hK1 _ ?_; clear hK1 K1; with_reducible refine aB ?_; simp (maxSteps := 2000000) (disch := omega) only [push_cast, ↓Int.cast_ofNat_Int, simprocAttr]
    refine hK _ ?_; clear hK K
    refine zB ?_; refine zA ?_
    refine zJ (fun K hK => ?_); simp (maxSteps := 2000000) (disch := omega) only [push_cast, ↓Int.cast_ofNat_Int, simprocAttr]; refine hK _ ?_; clear hK K
    refine zA ?_
    exact ⟨(3, -1, .lst f0 (aH u0), .lst f1 (aH u1), .lst fr (aH u2)), by simp only [zZ, zR, zP, zQ, zN, zS, zM, zX, zU, Nat.reduceEqDiff, reduceIte]; try rfl, ⟨by dsimp only; omega, .s3 f0 f1 fr u0 u1 u2 (by rw [uR, h0, kJ, h1, kJ, hZ]; rfl)⟩, by dsimp only; omega⟩
   | error e =>
    have hF : qBc (iA 2 out L) 2 out L T.2.2 = .tup [.v (.slice none 0 0), .v (.int .i64 (e : Nat))] := by rw [hfr, qBc, hZ]
    refine zD ?_; refine eQ 14 [(13, none)] [[(72, .bx true 53 [.lst f0 (aH u0), .lst f1 (aH u1), .v (.slice none 0 0)]), (16, .bx true 52 (iT i0 j0 k0 L)), (24, .bx true 53 (iR T)), (32, .bx true 53 [.v (.slice none 0 0), .v (.slice none 0 0), .v (.slice none 0 0)]), (120, vN out), (9000, iE s)], [(72, .bx true 53 [.lst f0 (aH u0), .lst f1 (aH u1), .v (.slice none 0 0)]), (16, .bx true 52 (iT i0 j0 k0 L)), (24, .bx true 53 (iR T)), (32, .bx true 53 [.v (.slice none 0 0), .v (.slice none 0 0), .v (.slice none 0 0)]), (120, vN out), (9000, iE s)]] [(2, 0, 0), (6, 0, 0), (8, 0, 0)] mixed (by kernel_rfl) (by kernel_rfl) rfl (fun K hK K1 hK1 => ?_); simp (maxSteps := 2000000) (disch := omega) only [push_cast, ↓Int.cast_ofNat_Int, simprocAttr]
    refine qEg 2 (by decide) out L T.2.2 hTk hL hs hol (aN (iC _)) (mU (qAg _) rfl) ?_
    rw [hF]
    with_reducible refine aB ?_; simp (maxSteps := 2000000) (disch := omega) only [push_cast, ↓Int.cast_ofNat_Int, simprocAttr]
    refine hK1 _ ?_; clear hK1 K1; with_reducible refine aB ?_; simp (maxSteps := 2000000) (disch := omega) only [push_cast, ↓Int.cast_ofNat_Int, simprocAttr]
    refine hK _ ?_; clear hK K
    refine zB ?_; refine zA ?_
    refine zJ (fun K hK => ?_); simp (maxSteps := 2000000) (disch := omega) only [push_cast, ↓Int.cast_ofNat_Int, simprocAttr]; refine hK _ ?_; clear hK K
    refine zA ?_
    exact ⟨(3, (e : Nat), .lst f0 (aH u0), .lst f1 (aH u1), .v (.slice none 0 0)), by simp only [zZ, zR, zP, zQ, zN, zS, zM, zX, zU, Nat.reduceEqDiff, reduceIte]; try rfl, ⟨by dsimp only; omega, .bad 3 e _ _ _ (by rw [uR, h0, kJ, h1, kJ, hZ]; rfl)⟩, by dsimp only; omega⟩
  | s3 f0 f1 f2 u0 u1 u2 h =>
   rw [oU, h] at hW1 hW2
   simp only [List.append_nil] at hW1 hW2
   subst hW2
   rw [← hW1]
   refine zE ?_; refine zE ?_; refine zJ (fun K hK => ?_); simp (maxSteps := 2000000) (disch := omega) only [push_cast, ↓Int.cast_ofNat_Int, simprocAttr]; refine hK _ ?_; clear hK K
   refine zA ?_
   refine yC rfl ?_
   refine zT ?_; refine zG ?_; refine zG ?_; refine zH ?_; refine zE ?_; refine zE ?_
   refine zJ (fun K hK => ?_); simp (maxSteps := 2000000) (disch := omega) only [push_cast, ↓Int.cast_ofNat_Int, simprocAttr]; refine hK _ ?_; clear hK K
   refine zA ?_
   refine yD rfl ?_
   have c75 := zFq W.2 (by omega)
   refine zE ?_; refine eQ 3 [(2, some 544)] [[(72, .bx true 53 [.lst f0 (aH u0), .lst f1 (aH u1), .lst f2 (aH u2)]), (16, .bx true 52 (iT i0 j0 k0 L)), (24, .bx true 53 (iR T)), (32, .bx true 53 [.v (.slice none 0 0), .v (.slice none 0 0), .v (.slice none 0 0)]), (120, vN out), (9000, iE W.2)], [(544, iE (nJ W.2)), (72, .bx true 53 [.lst f0 (aH u0), .lst f1 (aH u1), .lst f2 (aH u2)]), (16, .bx true 52 (iT i0 j0 k0 L)), (24, .bx true 53 (iR T)), (32, .bx true 53 [.v (.slice none 0 0), .v (.slice none 0 0), .v (.slice none 0 0)]), (120, vN out), (9000, iE W.2)]] [(0, 0, 1)] mixed (by kernel_rfl) (by kernel_rfl) rfl (fun K hK K1 hK1 => ?_); simp (maxSteps := 2000000) (disch := omega) only [push_cast, ↓Int.cast_ofNat_Int, simprocAttr]
   refine qNf 544 zRu c75 (.cons (mU (vC _) rfl) .nil) (by simp only [aR, aP, bC, bD, cF, aU, aT, aS, cD, List.map_cons, List.map_nil, Nat.reduceBEq, Nat.reduceEqDiff, reduceIte, cond_false, cond_true]; try rfl) ?_
   simp (maxSteps := 2000000) (disch := omega) only [push_cast, ↓Int.cast_ofNat_Int, simprocAttr, dG, bQ, bP, bN, bR, List.map_cons, List.map_nil]
   refine hK1 _ ?_; clear hK1 K1; with_reducible refine aB ?_; simp (maxSteps := 2000000) (disch := omega) only [push_cast, ↓Int.cast_ofNat_Int, simprocAttr]
   refine hK _ ?_; clear hK K
   refine zA ?_; refine zW ?_; refine zK ?_; refine zL ?_; refine zK ?_; refine zL ?_
   simp (maxSteps := 2000000) (disch := omega) only [qAy, qKk, yH, yE, aA, aC, yK, yJ, qVj, push_cast, ↓Int.cast_ofNat_Int, Nat.reduceBEq, Nat.reduceAdd, Nat.reduceLT, Nat.reduceEqDiff, reduceIte, reduceCtorEq, Nat.reduceLeDiff, Nat.reduceSub, List.reduceReplicate, Nat.reduceMul, Int.reduceToNat, Int.toNat_natCast, Nat.reducePow, reduceIte]
   refine zMz [544] (by decide) (by decide) (by simp only [push_cast, dM, yF, jZ, yG, kH, yL, kC, mW, mX, mY, mZ, Option.getD_some, Option.map_some, Option.map_none, Nat.zero_add, dG, bQ, bP, bN, bR, dT, dV, dU, List.map_cons, List.map_nil, simprocAttr, and_self, true_and, and_true, true_implies, false_implies]) (by simp only [push_cast, dM, yF, jZ, yG, kH, yL, kC, mW, mX, mY, mZ, Option.getD_some, Option.map_some, Option.map_none, Nat.zero_add, dG, bQ, bP, bN, bR, dT, dV, dU, List.map_cons, List.map_nil, simprocAttr, and_self, true_and, and_true, true_implies, false_implies]) (by simp only [push_cast, dM, yF, jZ, yG, kH, yL, kC, mW, mX, mY, mZ, Option.getD_some, Option.map_some, Option.map_none, Nat.zero_add, dG, bQ, bP, bN, bR, dT, dV, dU, List.map_cons, List.map_nil, simprocAttr, and_self, true_and, and_true, true_implies, false_implies]; rfl) (by simp only [push_cast, dM, yF, jZ, yG, kH, yL, kC, mW, mX, mY, mZ, Option.getD_some, Option.map_some, Option.map_none, Nat.zero_add, dG, bQ, bP, bN, bR, dT, dV, dU, List.map_cons, List.map_nil, simprocAttr, and_self, true_and, and_true, true_implies, false_implies]; rfl) ?_
   exact ⟨f0, f1, f2, rfl, rfl⟩
  | bad k i c0 c1 c2 h =>
   rw [oU, h] at hW1 hW2
   dsimp only at hW1 hW2
   obtain ⟨hi, hk2⟩ := zK0 hol h
   have hgD : (L.getD i default).p = L[i].p := by simp [List.getD_eq_getElem?_getD, hi]
   rw [hgD] at hW2
   have hneg : ¬ ((i : Int) < 0) := by omega
   have hio : i < out.length := by omega
   have hset : (out.set i true).length = L.length := by rw [List.length_set]; exact hol
   by_cases hk3 : k < 3
   ·refine zE ?_; refine zE ?_; refine zJ (fun K hK => ?_); simp (maxSteps := 2000000) (disch := omega) only [push_cast, ↓Int.cast_ofNat_Int, simprocAttr]; refine hK _ ?_; clear hK K
    refine zA ?_
    refine yC rfl ?_
    refine zT ?_; refine zG ?_; refine zG ?_; refine zH ?_; refine zE ?_; refine zE ?_
    refine zJ (fun K hK => ?_); simp (maxSteps := 2000000) (disch := omega) only [push_cast, ↓Int.cast_ofNat_Int, simprocAttr]; refine hK _ ?_; clear hK K
    refine zA ?_
    refine yC rfl ?_
    refine zC ?_; refine zE ?_
    refine zJ (fun K hK => ?_); simp (maxSteps := 2000000) (disch := omega) only [push_cast, ↓Int.cast_ofNat_Int, simprocAttr, gL, gK, uQ hio, qTh, hol]; (repeat refine ⟨by first | omega | decide | ((repeat' apply And.intro) <;> first | omega | decide), ?_⟩); refine hK _ ?_; clear hK K
    refine zA ?_
    refine zJ (fun K hK => ?_); simp (maxSteps := 2000000) (disch := omega) only [push_cast, ↓Int.cast_ofNat_Int, simprocAttr, aJ, bF, bJ hi, aX, iS]; (repeat refine ⟨by first | omega | decide | ((repeat' apply And.intro) <;> first | omega | decide), ?_⟩); refine hK _ ?_; clear hK K
    refine zB ?_; refine zA ?_
    exact ⟨(n, out.set i true, s ++ [L[i].p]), by simp only [zZ, zR, zP, zQ, zN, zS, zM, zX, zU, Nat.reduceEqDiff, reduceIte]; try rfl, ⟨⟨by simp only [List.length_append, List.length_singleton]; omega, hset, by dsimp only; omega⟩, hW1, by rw [List.append_assoc]; exact hW2⟩, by dsimp only; omega⟩
   ·refine zE ?_; refine zE ?_; refine zJ (fun K hK => ?_); simp (maxSteps := 2000000) (disch := omega) only [push_cast, ↓Int.cast_ofNat_Int, simprocAttr]; refine hK _ ?_; clear hK K
    refine zA ?_
    refine yC rfl ?_
    refine zT ?_; refine zG ?_; refine zG ?_; refine zH ?_; refine zE ?_; refine zE ?_
    refine zJ (fun K hK => ?_); simp (maxSteps := 2000000) (disch := omega) only [push_cast, ↓Int.cast_ofNat_Int, simprocAttr]; refine hK _ ?_; clear hK K
    refine zA ?_
    refine yC rfl ?_
    refine zC ?_; refine zE ?_
    refine zJ (fun K hK => ?_); simp (maxSteps := 2000000) (disch := omega) only [push_cast, ↓Int.cast_ofNat_Int, simprocAttr, gL, gK, uQ hio, qTh, hol]; (repeat refine ⟨by first | omega | decide | ((repeat' apply And.intro) <;> first | omega | decide), ?_⟩); refine hK _ ?_; clear hK K
    refine zA ?_
    refine zJ (fun K hK => ?_); simp (maxSteps := 2000000) (disch := omega) only [push_cast, ↓Int.cast_ofNat_Int, simprocAttr, aJ, bF, bJ hi, aX, iS]; (repeat refine ⟨by first | omega | decide | ((repeat' apply And.intro) <;> first | omega | decide), ?_⟩); refine hK _ ?_; clear hK K
    refine zB ?_; refine zA ?_
    exact ⟨(n, out.set i true, s ++ [L[i].p]), by simp only [zZ, zR, zP, zQ, zN, zS, zM, zX, zU, Nat.reduceEqDiff, reduceIte]; try rfl, ⟨⟨by simp only [List.length_append, List.length_singleton]; omega, hset, by dsimp only; omega⟩, hW1, by rw [List.append_assoc]; exact hW2⟩, by dsimp only; omega⟩
end Go.Proofs.YtkonlklieacjoaaDoor
