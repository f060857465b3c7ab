/-
  ref22.one: a tree with changes taken back.
-/
import Derived.Test.YtkonlklieacjoaaDoorUbk
import Derived.Test.YtkonlklieacjoaaDoorUch
import Derived.Test.YtkonlklieacjoaaDoorTpE
set_option linter.unusedSimpArgs false
set_option linter.unusedVariables false
set_option maxRecDepth 20000
namespace Go.Tr
open Go Go.Eng Go.RowKit
def bls (l : List Bool) : List (List FV) := l.map fun b => [.v (.bool b)]
theorem gL (l : List Bool) : (bls l).length = l.length := by simp [bls]
theorem gK (l : List Bool) : Wid 1 (bls l) = True := eq_true (qGe l fun _ => rfl)
theorem uQ {l : List Bool} {i : Nat} {d : List FV} (h : i < l.length) : (bls l).getD i d = [.v (.bool l[i])] := by unfold bls; rw [tE h]
theorem qAg (l : List Bool) : mT (bls l) = bls l := by
 unfold mT bls; rw [List.map_map]; apply List.map_congr_left; intro s _; simp [FV.old]
theorem qTh (l : List Bool) (p : Nat) (v : Bool) : (bls l).set p [.v (.bool v)] = bls (l.set p v) := by simp [bls, List.map_set]
abbrev vN (l : List Bool) : Row := .sl true 4 1 (bls l)
def qVe (k : Nat) (out : List Bool) (L : List Chg) : Prop := ∀ x ∈ lab L, dN out x = true → x.2.b k = x.2.a k
theorem qMy {k : Nat} {pass : Bool} {c : Chg} (h : c.b k = c.a k) : act k pass c = false := by rw [act, decide_eq_true h]; rfl
theorem qDv {k : Nat} {f : Nat × Chg → Bool} : ∀ {l : List (Nat × Chg)} {t : List Ent}, (∀ x ∈ l, f x = false) → dW k f l t = .ok t
 | [], t, _ => rfl
 | x :: r, t, h => by
  rw [dW, if_neg (by rw [h x (by simp)]; decide)]
  exact qDv fun y hy => h y (by simp [hy])
theorem zGz {k : Nat} {out : List Bool} {L : List Chg} (h : qVe k out L) (t : List Ent) : iU k (dN out) (lab L) t = .ok t := by
 have key : ∀ pass, ∀ x ∈ lab L, (dN out x && act k pass x.2) = false := fun pass x hx => by
  cases hk : dN out x with
  | false => rfl
  | true => rw [qMy (h x hx hk)]; rfl
 unfold iU
 rw [qDv fun x hx => key true x (List.mem_reverse.1 hx)]
 exact qDv fun x hx => key false x hx
theorem zHa {L : List Chg} {i : Nat} (h : i < L.length) : (i, L[i]) ∈ lab L := by
 have : i < (lab L).length := by rw [fU]; exact h
 rw [← kV L this]; exact List.getElem_mem this
theorem qCu {out : List Bool} {i : Nat} {c : Chg} (h : i < out.length) : dN out (i, c) = !out[i] := by
 simp [dN, List.getD_eq_getElem?_getD, h]
def qY7 (L : List Chg) (q : Nat) : List (Nat × Chg) := ((lab L).take q).reverse
theorem zEt {L : List Chg} {m : Nat} (h : m < L.length) : qY7 L (m + 1) = (m, L[m]) :: qY7 L m := by
 have : m < (lab L).length := by rw [fU]; exact h
 unfold qY7
 rw [List.take_succ_eq_append_getElem this, List.reverse_append, kV]; rfl
theorem zH2 (L : List Chg) : qY7 L L.length = (lab L).reverse := by
 unfold qY7; rw [List.take_of_length_le (by rw [fU]; exact Nat.le_refl _)]
theorem zDk {L : List Chg} {m : Nat} (h : m < L.length) : (lab L).drop m = (m, L[m]) :: (lab L).drop (m + 1) := by
 have : m < (lab L).length := by rw [fU]; exact h
 rw [List.drop_eq_getElem_cons this, kV]
theorem qNm {k : Nat} {f : Nat × Chg → Bool} {x : Nat × Chg} {r : List (Nat × Chg)} {t : List Ent} (h : f x = false) : dW k f (x :: r) t = dW k f r t := by rw [dW, if_neg (by rw [h]; decide)]
theorem qZm {k : Nat} {f : Nat × Chg → Bool} {x : Nat × Chg} {r : List (Nat × Chg)} {t : List Ent} (h : f x = true) (hE : eW t x.2.p (x.2.b k) = 0) : dW k f (x :: r) t = dW k f r (jB t x.2.p (x.2.b k)) := by rw [dW, if_pos h, if_pos hE]
theorem qTm {k : Nat} {f : Nat × Chg → Bool} {x : Nat × Chg} {r : List (Nat × Chg)} {t : List Ent} (h : f x = true) (hE : eW t x.2.p (x.2.b k) ≠ 0) : dW k f (x :: r) t = .error x.1 := by rw [dW, if_pos h, if_neg hE]
theorem zLb {S : HS} {xs : List (List FV)} {b : Value} {Q : HV → aD → Prop} (hf : ∀ x ∈ xs, ∀ f ∈ x, FreshF f) (q : Q (.tup [.lst true xs, .v b]) []) : qAn S (.tup [.lst true xs, .v b]) Q :=
 ⟨[], by simp, rfl, .tup fun x hx => by
  simp only [List.mem_cons, List.not_mem_nil, or_false] at hx
  rcases hx with rfl | rfl
  ·exact .lst (.lst hf)
  ·exact .v _, fun id h => by simp at h, by simpa [HV.ren, gE] using q⟩
def qYq (k : Nat) (out : List Bool) (L : List Chg) (t : List Ent) : HV := match iU k (dN out) (lab L) t with
 | .ok u => .tup [.lst true (aH u), .v (.int .i64 (-1))]
 | .error i => .tup [.v (.slice none 0 0), .v (.int .i64 (i : Nat))]
end Go.Tr
namespace Go.Proofs.YtkonlklieacjoaaDoor
open Go Go.Eng Go.RowKit Go.Tr
set_option maxHeartbeats 8000000 in
theorem zNq (k : Nat) (hk : k < 3) (out : List Bool) (L : List Chg) (x : Value) (hL : L.length ≤ 1048576) (ho : out.length = L.length) (hid : qVe k out L) : HFun Tryd.prog 74 [.lst false (chs L), .lst false (bls out), .v x, .v (.int .i64 k)] (fun h st => h = .tup [.v x, .v (.int .i64 (-1))]) := by
 refine eK (N := 116) Tryd.func74 rfl Tryd.ntmps74 Tryd.results74 (by simp) ?_
 have hk0 : ∀ (m : Nat), (m : Int) + 1 - 1 = m := fun m => by omega
 refine zE ?_; refine zJ (fun K hK => ?_); simp (maxSteps := 2000000) (disch := omega) only [push_cast, ↓Int.cast_ofNat_Int, simprocAttr]; refine hK _ ?_; clear hK K
 refine zE ?_; refine zE ?_; refine zJ (fun K hK => ?_); simp (maxSteps := 2000000) (disch := omega) only [push_cast, ↓Int.cast_ofNat_Int, simprocAttr, aJ]; refine hK _ ?_; clear hK K
 refine zA ?_; refine zD ?_
 refine bM (fun q : Nat => ⟨[(0, .lst false (chs L)), (1, .lst false (bls out)), (2, .v x), (3, .v (.int .i64 k)), (10, .v (.int .i64 ((q : Int) - 1)))], []⟩) (fun q => q ≤ L.length) (fun q => q) [0, 1, 2, 3, 10] [] L.length (by simp only [zZ, zR, zP, zQ, zN, zS, zM, zX, zU, Nat.reduceEqDiff, reduceIte]; try rfl) (Nat.le_refl _) ?_
 intro q hq
 by_cases hlq : 0 < q
 ·obtain ⟨m, rfl⟩ : ∃ m, q = m + 1 := ⟨q - 1, by omega⟩
  have hm : m < L.length := by omega
  have hmo : m < out.length := by omega
  refine zE ?_; refine zE ?_; refine zJ (fun K hK => ?_); simp (maxSteps := 2000000) (disch := omega) only [push_cast, ↓Int.cast_ofNat_Int, simprocAttr, hk0]; refine hK _ ?_; clear hK K
  refine zA ?_
  refine yD rfl ?_
  refine zC ?_; refine zE ?_
  refine zD ?_; refine zE ?_; refine zJ (fun K hK => ?_); simp (maxSteps := 2000000) (disch := omega) only [push_cast, ↓Int.cast_ofNat_Int, simprocAttr, hk0, aJ, bF, bJ hm]; refine hK _ ?_; clear hK K
  have hin := hid _ (zHa hm)
  rw [qCu hmo] at hin
  dsimp only at hin
  obtain ⟨ob, hob⟩ : ∃ b, out[m] = b := ⟨_, rfl⟩
  obtain ⟨c, hc⟩ : ∃ c, L[m] = c := ⟨_, rfl⟩
  rw [hob, hc] at hin
  have bg : ∀ {d : List FV}, (bls out).getD m d = [.v (.bool ob)] := fun {d} => by rw [uQ hmo, hob]
  rw [hc]
  have e1 := qMn c hk
  have e2 := qMo c hk
  have e4 : (lJ c).getD (2 + k * 2) .junk = .v (.int .i64 (c.b k).1) := qMm c hk
  obtain ⟨nb, hnb⟩ : ∃ n, c.b k = n := ⟨_, rfl⟩
  obtain ⟨na, hna⟩ : ∃ n, c.a k = n := ⟨_, rfl⟩
  have hact : act k true c = (!decide (nb.1 = na.1 ∧ nb.2 = na.2) && (decide (nb.1 = 0) == true)) := by rw [act, hnb, hna, decide_eq_decide.2 Prod.ext_iff]
  rw [hnb] at e1 e4
  rw [hna] at e2
  rw [hnb, hna] at hin
  obtain ⟨kb, db⟩ := nb
  obtain ⟨ka, da⟩ := na
  dsimp only at e1 e2 e4 hact
  refine zE ?_; refine zE ?_
  refine jR (fun _ : Unit => ⟨[(0, .lst false (chs L)), (1, .lst false (bls out)), (2, .v x), (3, .v (.int .i64 k)), (10, .v (.int .i64 m)), (11, .ptr 88 14 0 0), (51, .v (.bool (ob || !act k true c)))], [(88, .bx true 58 (lJ c))]⟩) (fun _ => True) [0, 1, 2, 3, 10, 11, 51] [88] ?_ ?_
  ·cases ob with
   | true =>
    refine jS 23 mixed (by kernel_rfl) (fun K hK K1 hK1 => ?_); simp (maxSteps := 2000000) (disch := omega) only [push_cast, ↓Int.cast_ofNat_Int, simprocAttr, hk0, gL, gK, bg, e1, e2]
    refine hK1 _ ?_; clear hK1 K1; with_reducible refine aB ?_; simp (maxSteps := 2000000) (disch := omega) only [push_cast, ↓Int.cast_ofNat_Int, simprocAttr]
    refine hK _ ?_; clear hK K
    exact ⟨(), by simp only [zZ, zR, zP, zQ, zN, zS, zM, zX, zU, Nat.reduceEqDiff, reduceIte, Bool.true_or]; try rfl, trivial⟩
   | false =>
    cases hd : decide (kb = ka ∧ db = da) with
    | true =>
     rw [hd, Bool.not_true, Bool.false_and] at hact
     rw [hact]
     refine dQ 23 mixed (by kernel_rfl) (fun K hK K1 hK1 => ?_); simp (maxSteps := 2000000) (disch := omega) only [push_cast, ↓Int.cast_ofNat_Int, simprocAttr, hk0, gL, gK, bg, e1, e2]
     refine ⟨_, eqN _ _ _ _, ?_⟩
     with_reducible refine aB ?_; simp (maxSteps := 2000000) (disch := omega) only [push_cast, ↓Int.cast_ofNat_Int, simprocAttr, hd]
     refine hK1 _ ?_; clear hK1 K1; with_reducible refine aB ?_; simp (maxSteps := 2000000) (disch := omega) only [push_cast, ↓Int.cast_ofNat_Int, simprocAttr, hd]
     refine hK _ ?_; clear hK K
     exact ⟨(), by simp only [zZ, zR, zP, zQ, zN, zS, zM, zX, zU, Nat.reduceEqDiff, reduceIte, Bool.false_or, Bool.not_false]; try rfl, trivial⟩
    | false =>
     rw [hd, Bool.not_false, Bool.true_and] at hact
     rw [hact]
     refine dQ 23 mixed (by kernel_rfl) (fun K hK K1 hK1 => ?_); simp (maxSteps := 2000000) (disch := omega) only [push_cast, ↓Int.cast_ofNat_Int, simprocAttr, hk0, gL, gK, bg, e1, e2]
     refine ⟨_, eqN _ _ _ _, ?_⟩
     cases h0 : decide (kb = 0) with
     | true =>
      with_reducible refine aB ?_; simp (maxSteps := 2000000) (disch := omega) only [push_cast, ↓Int.cast_ofNat_Int, simprocAttr, hd, e4, h0]
      refine hK1 _ ?_; clear hK1 K1; with_reducible refine aB ?_; simp (maxSteps := 2000000) (disch := omega) only [push_cast, ↓Int.cast_ofNat_Int, simprocAttr, hd]
      refine hK _ ?_; clear hK K
      exact ⟨(), by simp only [zZ, zR, zP, zQ, zN, zS, zM, zX, zU, Nat.reduceEqDiff, reduceIte, h0, Bool.false_or]; try rfl, trivial⟩
     | false =>
      with_reducible refine aB ?_; simp (maxSteps := 2000000) (disch := omega) only [push_cast, ↓Int.cast_ofNat_Int, simprocAttr, hd, e4, h0]
      refine hK1 _ ?_; clear hK1 K1; with_reducible refine aB ?_; simp (maxSteps := 2000000) (disch := omega) only [push_cast, ↓Int.cast_ofNat_Int, simprocAttr, hd]
      refine hK _ ?_; clear hK K
      exact ⟨(), by simp only [zZ, zR, zP, zQ, zN, zS, zM, zX, zU, Nat.reduceEqDiff, reduceIte, h0, Bool.false_or]; try rfl, trivial⟩
  intro S' _ hE _
  refine zA ?_
  refine yB [0, 1, 2, 3, 10, 11, 51] [88] hE ?_
  clear hE
  have hx : (ob || !act k true c) = true := by
   cases ob with
   | true => rfl
   | false => rw [qMy (by rw [hnb, hna]; exact hin rfl)]; rfl
  rw [hx]
  refine yD rfl ?_
  refine zT ?_; refine zG ?_; refine zH ?_; refine zA ?_
  refine zJ (fun K hK => ?_); simp (maxSteps := 2000000) (disch := omega) only [push_cast, ↓Int.cast_ofNat_Int, simprocAttr, hk0]; refine hK _ ?_; clear hK K
  refine zA ?_
  exact ⟨m, by simp only [zZ, zR, zP, zQ, zN, zS, zM, zX, zU, Nat.reduceEqDiff, reduceIte]; try rfl, by omega, by omega⟩
 ·have hq0 : q = 0 := by omega
  subst hq0
  refine zE ?_; refine zE ?_; refine zJ (fun K hK => ?_); simp (maxSteps := 2000000) (disch := omega) only [push_cast, ↓Int.cast_ofNat_Int, simprocAttr]; refine hK _ ?_; clear hK K
  refine zA ?_
  refine yC rfl ?_
  refine zT ?_; refine zG ?_; refine zG ?_; refine zH ?_; refine zE ?_; refine zE ?_
  refine zJ (fun K hK => ?_); simp (maxSteps := 2000000) (disch := omega) only [push_cast, ↓Int.cast_ofNat_Int, simprocAttr]; refine hK _ ?_; clear hK K
  refine zA ?_; refine zD ?_
  refine bM (fun q : Nat => ⟨[(0, .lst false (chs L)), (1, .lst false (bls out)), (2, .v x), (3, .v (.int .i64 k)), (14, .v (.int .i64 q))], []⟩) (fun q => q ≤ L.length) (fun q => L.length - q) [0, 1, 2, 3, 14] [] 0 (by simp only [zZ, zR, zP, zQ, zN, zS, zM, zX, zU, Nat.reduceEqDiff, reduceIte]; try rfl) (Nat.zero_le _) ?_
  clear hlq hq
  intro m hq
  by_cases hlq : m < L.length
  ·have hm : m < L.length := by omega
   have hmo : m < out.length := by omega
   refine zE ?_; refine zE ?_; refine zJ (fun K hK => ?_); simp (maxSteps := 2000000) (disch := omega) only [push_cast, ↓Int.cast_ofNat_Int, simprocAttr, aJ]; refine hK _ ?_; clear hK K
   refine zA ?_
   refine yD rfl ?_
   refine zC ?_; refine zE ?_
   refine zD ?_; refine zE ?_; refine zJ (fun K hK => ?_); simp (maxSteps := 2000000) (disch := omega) only [push_cast, ↓Int.cast_ofNat_Int, simprocAttr, hk0, aJ, bF, bJ hm]; refine hK _ ?_; clear hK K
   have hin := hid _ (zHa hm)
   rw [qCu hmo] at hin
   dsimp only at hin
   obtain ⟨ob, hob⟩ : ∃ b, out[m] = b := ⟨_, rfl⟩
   obtain ⟨c, hc⟩ : ∃ c, L[m] = c := ⟨_, rfl⟩
   rw [hob, hc] at hin
   have bg : ∀ {d : List FV}, (bls out).getD m d = [.v (.bool ob)] := fun {d} => by rw [uQ hmo, hob]
   rw [hc]
   have e1 := qMn c hk
   have e2 := qMo c hk
   have e4 : (lJ c).getD (2 + k * 2) .junk = .v (.int .i64 (c.b k).1) := qMm c hk
   obtain ⟨nb, hnb⟩ : ∃ n, c.b k = n := ⟨_, rfl⟩
   obtain ⟨na, hna⟩ : ∃ n, c.a k = n := ⟨_, rfl⟩
   have hact : act k false c = (!decide (nb.1 = na.1 ∧ nb.2 = na.2) && (decide (nb.1 = 0) == false)) := by rw [act, hnb, hna, decide_eq_decide.2 Prod.ext_iff]
   rw [hnb] at e1 e4
   rw [hna] at e2
   rw [hnb, hna] at hin
   obtain ⟨kb, db⟩ := nb
   obtain ⟨ka, da⟩ := na
   dsimp only at e1 e2 e4 hact
   refine zE ?_; refine zE ?_
   refine jR (fun _ : Unit => ⟨[(0, .lst false (chs L)), (1, .lst false (bls out)), (2, .v x), (3, .v (.int .i64 k)), (14, .v (.int .i64 m)), (15, .ptr 120 14 0 0), (99, .v (.bool (ob || !act k false c)))], [(120, .bx true 58 (lJ c))]⟩) (fun _ => True) [0, 1, 2, 3, 14, 15, 99] [120] ?_ ?_
   ·cases ob with
    | true =>
     refine jS 23 mixed (by kernel_rfl) (fun K hK K1 hK1 => ?_); simp (maxSteps := 2000000) (disch := omega) only [push_cast, ↓Int.cast_ofNat_Int, simprocAttr, hk0, gL, gK, bg, e1, e2]
     refine hK1 _ ?_; clear hK1 K1; with_reducible refine aB ?_; simp (maxSteps := 2000000) (disch := omega) only [push_cast, ↓Int.cast_ofNat_Int, simprocAttr]
     refine hK _ ?_; clear hK K
     exact ⟨(), by simp only [zZ, zR, zP, zQ, zN, zS, zM, zX, zU, Nat.reduceEqDiff, reduceIte, Bool.true_or]; try rfl, trivial⟩
    | false =>
     cases hd : decide (kb = ka ∧ db = da) with
     | true =>
      rw [hd, Bool.not_true, Bool.false_and] at hact
      rw [hact]
      refine dQ 23 mixed (by kernel_rfl) (fun K hK K1 hK1 => ?_); simp (maxSteps := 2000000) (disch := omega) only [push_cast, ↓Int.cast_ofNat_Int, simprocAttr, hk0, gL, gK, bg, e1, e2]
      refine ⟨_, eqN _ _ _ _, ?_⟩
      with_reducible refine aB ?_; simp (maxSteps := 2000000) (disch := omega) only [push_cast, ↓Int.cast_ofNat_Int, simprocAttr, hd]
      refine hK1 _ ?_; clear hK1 K1; with_reducible refine aB ?_; simp (maxSteps := 2000000) (disch := omega) only [push_cast, ↓Int.cast_ofNat_Int, simprocAttr, hd]
      refine hK _ ?_; clear hK K
      exact ⟨(), by simp only [zZ, zR, zP, zQ, zN, zS, zM, zX, zU, Nat.reduceEqDiff, reduceIte, Bool.false_or, Bool.not_false]; try rfl, trivial⟩
     | false =>
      rw [hd, Bool.not_false, Bool.true_and] at hact
      rw [hact]
      refine dQ 23 mixed (by kernel_rfl) (fun K hK K1 hK1 => ?_); simp (maxSteps := 2000000) (disch := omega) only [push_cast, ↓Int.cast_ofNat_Int, simprocAttr, hk0, gL, gK, bg, e1, e2]
      refine ⟨_, eqN _ _ _ _, ?_⟩
      cases h0 : decide (kb = 0) with
      | true =>
       with_reducible refine aB ?_; simp (maxSteps := 2000000) (disch := omega) only [push_cast, ↓Int.cast_ofNat_Int, simprocAttr, hd, e4, h0]
       refine hK1 _ ?_; clear hK1 K1; with_reducible refine aB ?_; simp (maxSteps := 2000000) (disch := omega) only [push_cast, ↓Int.cast_ofNat_Int, simprocAttr, hd]
       refine hK _ ?_; clear hK K
       exact ⟨(), by simp only [zZ, zR, zP, zQ, zN, zS, zM, zX, zU, Nat.reduceEqDiff, reduceIte, h0, Bool.false_or]; try rfl, trivial⟩
      | false =>
       with_reducible refine aB ?_; simp (maxSteps := 2000000) (disch := omega) only [push_cast, ↓Int.cast_ofNat_Int, simprocAttr, hd, e4, h0]
       refine hK1 _ ?_; clear hK1 K1; with_reducible refine aB ?_; simp (maxSteps := 2000000) (disch := omega) only [push_cast, ↓Int.cast_ofNat_Int, simprocAttr, hd]
       refine hK _ ?_; clear hK K
       exact ⟨(), by simp only [zZ, zR, zP, zQ, zN, zS, zM, zX, zU, Nat.reduceEqDiff, reduceIte, h0, Bool.false_or]; try rfl, trivial⟩
   intro S' _ hE _
   refine zA ?_
   refine yB [0, 1, 2, 3, 14, 15, 99] [120] hE ?_
   clear hE
   have hx : (ob || !act k false c) = true := by
    cases ob with
    | true => rfl
    | false => rw [qMy (by rw [hnb, hna]; exact hin rfl)]; rfl
   rw [hx]
   refine yD rfl ?_
   refine zT ?_; refine zG ?_; refine zH ?_; refine zA ?_
   refine zJ (fun K hK => ?_); simp (maxSteps := 2000000) (disch := omega) only [push_cast, ↓Int.cast_ofNat_Int, simprocAttr, hk0]; refine hK _ ?_; clear hK K
   refine zA ?_
   exact ⟨m + 1, by simp only [zZ, zR, zP, zQ, zN, zS, zM, zX, zU, Nat.reduceEqDiff, reduceIte]; try rfl, hm, by omega⟩
  ·have hqe : m = L.length := by omega
   subst hqe
   refine zE ?_; refine zE ?_; refine zJ (fun K hK => ?_); simp (maxSteps := 2000000) (disch := omega) only [push_cast, ↓Int.cast_ofNat_Int, simprocAttr, aJ]; refine hK _ ?_; clear hK K
   refine zA ?_
   refine yC rfl ?_
   refine zT ?_; refine zG ?_; refine zG ?_; refine zH ?_; refine zE ?_
   refine zJ (fun K hK => ?_); simp (maxSteps := 2000000) (disch := omega) only [push_cast, ↓Int.cast_ofNat_Int, simprocAttr]; refine hK _ ?_; clear hK K
   refine zA ?_; refine zW ?_
   simp only [yA, yM, yH, yE, aA, aC, yK, yJ, zS, zM, Nat.reduceEqDiff, reduceIte, reduceCtorEq]
   exact uH rfl
end Go.Proofs.YtkonlklieacjoaaDoor
