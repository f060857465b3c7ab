/-
  merge's cutter: between, walked.
-/
import Derived.Test.YtdfjeokjmigkaaaGreatCln
import Derived.Test.YtdfjeokjmigkaaaGreatChn
import Derived.Test.YtdfjeokjmigkaaaGreatSl
set_option linter.unusedSimpArgs false
set_option linter.unusedVariables false
set_option maxRecDepth 20000
namespace Go.Proofs.YtdfjeokjmigkaaaGreat
open Go Go.Eng Go.RowKit Go.DiffM


def ckE (c : Ck ByteArray) : List FV := [.v (.bool c.st), .lst true (aQ c.b), .lst true (aQ c.l), .lst true (aQ c.r)]
def cks (l : List (Ck ByteArray)) : List (List FV) := l.map ckE
theorem wQ (l : List (Ck ByteArray)) : (cks l).length = l.length := by simp [cks]
theorem qN3 (l : List (Ck ByteArray)) : Wid 4 (cks l) = True := eq_true (qAe l fun _ => rfl)
theorem zG1 (l : List (Ck ByteArray)) (b : Bool) (x y z : List ByteArray) : cks l ++ [[.v (.bool b), .lst true (aQ x), .lst true (aQ y), .lst true (aQ z)]] = cks (l ++ [⟨b, x, y, z⟩]) := by simp [cks, ckE]
theorem qE0 (l : List (Ck ByteArray)) : ∀ x ∈ cks l, ∀ f ∈ x, FreshF f := fun x hx f hf => by
 obtain ⟨h, -, rfl⟩ := List.mem_map.1 hx
 simp only [ckE, List.mem_cons, List.not_mem_nil, or_false] at hf
 rcases hf with rfl | rfl | rfl | rfl
 ·exact .v _
 ·exact .lst (iD _)
 ·exact .lst (iD _)
 ·exact .lst (iD _)
abbrev cuR (o a b : List ByteArray) (i j k : Nat) : Row := .bx false 92 [.lst true (aQ o), .lst true (aQ a), .lst true (aQ b), .v (.int .i64 i), .v (.int .i64 j), .v (.int .i64 k), .own 1]
abbrev cuS (o a b : List ByteArray) (i j k : Nat) (out : List (Ck ByteArray)) : aB := [(0, cuR o a b i j k), (1, .sl true 77 4 (cks out))]
set_option maxHeartbeats 4000000 in
theorem pE (o a b : List ByteArray) (i j k i' j' k' : Nat) (out : List (Ck ByteArray)) (Q : eG) (ho : o.length ≤ 1000) (ha : a.length ≤ 1000) (hb : b.length ≤ 1000) (hi : i ≤ i' ∧ i' ≤ o.length) (hj : j ≤ j' ∧ j' ≤ a.length) (hk : k ≤ k' ∧ k' ≤ b.length) (hn : out.length ≤ 10000)
  (hQ : ∀ E, tQ [0, 1, 2, 3] E = [(0, .ptr 0 7 0 0), (1, .v (.int .i64 i')), (2, .v (.int .i64 j')), (3, .v (.int .i64 k'))] → Q .normal ⟨E, [(1, .sl true 77 4 (cks (out ++ [⟨false, (o.take i').drop i, (a.take j').drop j, (b.take k').drop k⟩]))), (0, cuR o a b i j k)]⟩) :
  HW Tryz.prog 85 (cAt [0, 1, 2] (Tryz.f66.body.getD .skip)) Q ⟨[(0, .ptr 0 7 0 0), (1, .v (.int .i64 i')), (2, .v (.int .i64 j')), (3, .v (.int .i64 k'))], cuS o a b i j k out⟩ := by
 unfold Tryz.f66
 dsimp only [Option.getD_some, cAt]
 have c1 := qN1 ((o.take i').drop i) (by rw [List.length_drop, List.length_take]; omega)
 have c2 := qN1 ((a.take j').drop j) (by rw [List.length_drop, List.length_take]; omega)
 have c3 := qN1 ((b.take k').drop k) (by rw [List.length_drop, List.length_take]; omega)
 refine qPc 41 [(40, some 1)] [cuS o a b i j k out, [(1, .sl true 77 4 (cks (out ++ [⟨false, (o.take i').drop i, (a.take j').drop j, (b.take k').drop k⟩]))), (0, .bx false 92 [.lst true (aQ o), .lst true (aQ a), .lst true (aQ b), .v (.int .i64 i), .v (.int .i64 j), .v (.int .i64 k), .junk])]] [(4, 0, 0), (8, 0, 1), (12, 0, 1), (19, 0, 1), (23, 0, 1), (30, 0, 1), (34, 0, 1)] mixed (by kernel_rfl) (by kernel_rfl) rfl (fun K hK K1 hK1 => ?_); simp (disch := omega) only [push_cast, ↓Int.cast_ofNat_Int, simprocAttr, eP, dG, gC, eM, iW, tK, eJ, dD, bT, bY, cM, bU, bV, iX, eQ, eY, gJ, gG, dJ, bZ, cP, jA, iZ, iY, eR, eU, eX, eW, jB, dU, eV, gE, List.tail_cons, List.take_nil, List.drop_nil, aK, fG, qAh, qAi]
 refine qFn zPp c1 (.cons (aP (bQ _)) .nil) ?_
 with_reducible refine aE ?_; simp (disch := omega) only [push_cast, ↓Int.cast_ofNat_Int, simprocAttr, eP, dG, gC, eM, iW, tK, eJ, dD, bT, bY, cM, bU, bV, iX, eQ, eY, gJ, gG, dJ, bZ, cP, jA, iZ, iY, eR, eU, eX, eW, jB, dU, eV, gE, List.tail_cons, List.take_nil, List.drop_nil, aK, fG, qAh, qAi]
 refine qFn zPp c2 (.cons (aP (bQ _)) .nil) ?_
 with_reducible refine aE ?_; simp (disch := omega) only [push_cast, ↓Int.cast_ofNat_Int, simprocAttr, eP, dG, gC, eM, iW, tK, eJ, dD, bT, bY, cM, bU, bV, iX, eQ, eY, gJ, gG, dJ, bZ, cP, jA, iZ, iY, eR, eU, eX, eW, jB, dU, eV, gE, List.tail_cons, List.take_nil, List.drop_nil, aK, fG, qAh, qAi]
 refine qFn zPp c3 (.cons (aP (bQ _)) .nil) ?_
 with_reducible refine aE ?_; simp (disch := omega) only [push_cast, ↓Int.cast_ofNat_Int, simprocAttr, eP, dG, gC, eM, iW, tK, eJ, dD, bT, bY, cM, bU, bV, iX, eQ, eY, gJ, gG, dJ, bZ, cP, jA, iZ, iY, eR, eU, eX, eW, jB, dU, eV, gE, List.tail_cons, List.take_nil, List.drop_nil, aK, fG, qAh, qAi, wQ, zG1]
 refine ⟨by intro x hx; simp at hx; subst hx; rfl, ?_⟩
 refine hK1 _ ?_; (try clear hK1 K1); with_reducible refine aE ?_; simp (disch := omega) only [push_cast, ↓Int.cast_ofNat_Int, simprocAttr]
 refine hK _ ?_; clear hK K
 exact hQ _ (by simp only [zZ, zR, zP, zQ, zN, zS, zM, zX, zU, Nat.reduceEqDiff, reduceIte])
def btO (o a b : List ByteArray) (i j k i' j' k' : Nat) (out : List (Ck ByteArray)) : List (Ck ByteArray) := (qD o a b ⟨i, j, k, out⟩ i' j' k').out
def ckH (l : List (Ck ByteArray)) : List (List HV) := (cks l).map (List.map FV.h)
theorem qN4 (l : List (Ck ByteArray)) (f : HV → HV) (h1 : ∀ x, f (.v x) = .v x) (h2 : ∀ fr xs, f (.lst fr xs) = .lst fr xs) : (ckH l).map (List.map f) = ckH l := by
 simp only [ckH, cks, List.map_map]
 apply List.map_congr_left
 intro c _
 simp [Function.comp, ckE, FV.h, h1, h2]
theorem qB (l : List (Ck ByteArray)) (p : Nat → Bool) : (ckH l).map (List.map (HV.kill p)) = ckH l := qN4 l _ (fun x => by rw [HV.kill]) (fun _ _ => by rw [HV.kill])
theorem kG (l : List (Ck ByteArray)) (id : Nat) (x : HV) : (ckH l).map (List.map (HV.sub id x)) = ckH l := qN4 l _ (fun x => by rw [HV.sub]) (fun _ _ => by rw [HV.sub])
theorem bG (l : List (Ck ByteArray)) (m : Nat → Option Nat) : (ckH l).map (List.map (HV.ren m)) = ckH l := qN4 l _ (fun x => by rw [HV.ren]) (fun _ _ => by rw [HV.ren])
theorem qSd (l : List (Ck ByteArray)) (b : Bool) (x y z : List ByteArray) : ckH l ++ [[.v (.bool b), .lst true (aQ x), .lst true (aQ y), .lst true (aQ z)]] = (cks (l ++ [⟨b, x, y, z⟩])).map (List.map FV.h) := by simp [ckH, cks, ckE, FV.h]
theorem qBt (l : List (Ck ByteArray)) : (ckH l).length = l.length := by simp [ckH, cks]
abbrev ckL (i j k : Nat) : List HV := [.v (.bool true), .own i, .own j, .own k]
abbrev cuT (o a b : List ByteArray) (i j k : Nat) (pre : List (Ck ByteArray)) (c : Ck ByteArray) : aB := [(0, cuR o a b i j k), (1, .hl true 77 4 (ckH pre ++ [ckL 2 3 4])), (2, .sl true 9 1 (aQ c.b)), (3, .sl true 9 1 (aQ c.l)), (4, .sl true 9 1 (aQ c.r))]
set_option maxHeartbeats 4000000 in
theorem qLu (o a b : List ByteArray) (i j k i' j' k' : Nat) (out : List (Ck ByteArray)) (ho : o.length ≤ 1000) (ha : a.length ≤ 1000) (hb : b.length ≤ 1000) (hi : i ≤ i' ∧ i' ≤ o.length) (hj : j ≤ j' ∧ j' ≤ a.length) (hk : k ≤ k' ∧ k' ≤ b.length) (hn : out.length ≤ 10000) :
  HFunS Tryz.prog 66 [.ptr 0 7 0 0, .v (.int .i64 i'), .v (.int .i64 j'), .v (.int .i64 k')] (cuS o a b i j k out) (fun h st => h = .tup [] ∧ st = cuS o a b i' j' k' (btO o a b i j k i' j' k' out)) := by
 refine qH3 (N := 85) Tryz.func66 rfl Tryz.ntmps66 Tryz.results66 (by simp) ?_
 have push : (i < i' ∨ j < j' ∨ k < k') → btO o a b i j k i' j' k' out = out ++ [⟨false, (o.take i').drop i, (a.take j').drop j, (b.take k').drop k⟩] := fun h => by rw [btO, qD, if_pos h]
 have stay : ¬ (i < i' ∨ j < j' ∨ k < k') → btO o a b i j k i' j' k' out = out := fun h => by rw [btO, qD, if_neg h]
 have cs : (i < i') ∨ (¬ i < i' ∧ j < j') ∨ (¬ i < i' ∧ ¬ j < j' ∧ k < k') ∨ (¬ i < i' ∧ ¬ j < j' ∧ ¬ k < k') := by omega
 rcases cs with c1 | ⟨c1, c2⟩ | ⟨c1, c2, c3⟩ | ⟨c1, c2, c3⟩
 ·refine zE ?_; refine zE ?_; refine zJ (fun K hK => ?_); simp (disch := omega) only [push_cast, ↓Int.cast_ofNat_Int, simprocAttr]; refine hK _ ?_; clear hK K
  refine zA ?_
  refine yD rfl ?_
  refine yB [0, 1, 2, 3] [0, 1] (by simp only [zZ, zR, zP, zQ, zN, zS, zM, zX, zU, Nat.reduceEqDiff, reduceIte]; exact rfl) ?_
  refine pE o a b i j k i' j' k' out _ ho ha hb hi hj hk hn (fun E hE => ?_)
  refine zA ?_
  refine yB (S' := ⟨[(0, .ptr 0 7 0 0), (1, .v (.int .i64 i')), (2, .v (.int .i64 j')), (3, .v (.int .i64 k'))], [(0, cuR o a b i j k), (1, .sl true 77 4 (cks (out ++ [⟨false, (o.take i').drop i, (a.take j').drop j, (b.take k').drop k⟩])))]⟩) [0, 1, 2, 3] [0, 1] (by simp only [HS.keep]; rw [hE]; rfl) ?_
  refine zJ (fun K hK => ?_); simp (disch := omega) only [push_cast, ↓Int.cast_ofNat_Int, simprocAttr]; refine hK _ ?_; clear hK K
  simp only [aM, bM, yH, yE, yK, yJ, cJ, zS, zM, Nat.reduceEqDiff, reduceIte, reduceCtorEq]
  refine jR [0, 1] (by decide) (by decide) (by simp only [push_cast, simprocAttr]) (by simp only [push_cast, simprocAttr]) (by simp only [push_cast, simprocAttr]; rfl) (by simp only [push_cast, simprocAttr]; rfl) ?_
  exact ⟨rfl, by rw [push (.inl c1)]⟩
 ·refine zE ?_; refine zE ?_; refine zJ (fun K hK => ?_); simp (disch := omega) only [push_cast, ↓Int.cast_ofNat_Int, simprocAttr]; refine hK _ ?_; clear hK K
  refine zA ?_
  refine yD rfl ?_
  refine yB [0, 1, 2, 3] [0, 1] (by simp only [zZ, zR, zP, zQ, zN, zS, zM, zX, zU, Nat.reduceEqDiff, reduceIte]; exact rfl) ?_
  refine pE o a b i j k i' j' k' out _ ho ha hb hi hj hk hn (fun E hE => ?_)
  refine zA ?_
  refine yB (S' := ⟨[(0, .ptr 0 7 0 0), (1, .v (.int .i64 i')), (2, .v (.int .i64 j')), (3, .v (.int .i64 k'))], [(0, cuR o a b i j k), (1, .sl true 77 4 (cks (out ++ [⟨false, (o.take i').drop i, (a.take j').drop j, (b.take k').drop k⟩])))]⟩) [0, 1, 2, 3] [0, 1] (by simp only [HS.keep]; rw [hE]; rfl) ?_
  refine zJ (fun K hK => ?_); simp (disch := omega) only [push_cast, ↓Int.cast_ofNat_Int, simprocAttr]; refine hK _ ?_; clear hK K
  simp only [aM, bM, yH, yE, yK, yJ, cJ, zS, zM, Nat.reduceEqDiff, reduceIte, reduceCtorEq]
  refine jR [0, 1] (by decide) (by decide) (by simp only [push_cast, simprocAttr]) (by simp only [push_cast, simprocAttr]) (by simp only [push_cast, simprocAttr]; rfl) (by simp only [push_cast, simprocAttr]; rfl) ?_
  exact ⟨rfl, by rw [push (.inr (.inl c2))]⟩
 ·refine zE ?_; refine zE ?_; refine zJ (fun K hK => ?_); simp (disch := omega) only [push_cast, ↓Int.cast_ofNat_Int, simprocAttr]; refine hK _ ?_; clear hK K
  refine zA ?_
  refine yD rfl ?_
  refine yB [0, 1, 2, 3] [0, 1] (by simp only [zZ, zR, zP, zQ, zN, zS, zM, zX, zU, Nat.reduceEqDiff, reduceIte]; exact rfl) ?_
  refine pE o a b i j k i' j' k' out _ ho ha hb hi hj hk hn (fun E hE => ?_)
  refine zA ?_
  refine yB (S' := ⟨[(0, .ptr 0 7 0 0), (1, .v (.int .i64 i')), (2, .v (.int .i64 j')), (3, .v (.int .i64 k'))], [(0, cuR o a b i j k), (1, .sl true 77 4 (cks (out ++ [⟨false, (o.take i').drop i, (a.take j').drop j, (b.take k').drop k⟩])))]⟩) [0, 1, 2, 3] [0, 1] (by simp only [HS.keep]; rw [hE]; rfl) ?_
  refine zJ (fun K hK => ?_); simp (disch := omega) only [push_cast, ↓Int.cast_ofNat_Int, simprocAttr]; refine hK _ ?_; clear hK K
  simp only [aM, bM, yH, yE, yK, yJ, cJ, zS, zM, Nat.reduceEqDiff, reduceIte, reduceCtorEq]
  refine jR [0, 1] (by decide) (by decide) (by simp only [push_cast, simprocAttr]) (by simp only [push_cast, simprocAttr]) (by simp only [push_cast, simprocAttr]; rfl) (by simp only [push_cast, simprocAttr]; rfl) ?_
  exact ⟨rfl, by rw [push (.inr (.inr c3))]⟩
 ·refine zE ?_; refine zE ?_; refine zJ (fun K hK => ?_); simp (disch := omega) only [push_cast, ↓Int.cast_ofNat_Int, simprocAttr]; refine hK _ ?_; clear hK K
  refine zA ?_
  refine yC rfl ?_
  refine zC ?_; refine zA ?_
  refine zJ (fun K hK => ?_); simp (disch := omega) only [push_cast, ↓Int.cast_ofNat_Int, simprocAttr]; refine hK _ ?_; clear hK K
  simp only [aM, bM, yH, yE, yK, yJ, cJ, zS, zM, Nat.reduceEqDiff, reduceIte, reduceCtorEq]
  refine jR [0, 1] (by decide) (by decide) (by simp only [push_cast, simprocAttr]) (by simp only [push_cast, simprocAttr]) (by simp only [push_cast, simprocAttr]; rfl) (by simp only [push_cast, simprocAttr]; rfl) ?_
  exact ⟨rfl, by rw [stay (by omega)]⟩
set_option maxHeartbeats 4000000 in
theorem qLt (o a b : List ByteArray) (i j k i' j' k' : Nat) (pre : List (Ck ByteArray)) (c : Ck ByteArray) (hc : c.st = true) (ho : o.length ≤ 1000) (ha : a.length ≤ 1000) (hb : b.length ≤ 1000) (hi : i ≤ i' ∧ i' ≤ o.length) (hj : j ≤ j' ∧ j' ≤ a.length) (hk : k ≤ k' ∧ k' ≤ b.length) (hn : (pre ++ [c]).length ≤ 10000) :
  HFunS Tryz.prog 66 [.ptr 0 7 0 0, .v (.int .i64 i'), .v (.int .i64 j'), .v (.int .i64 k')] (cuT o a b i j k pre c) (fun h st => h = .tup [] ∧
   (((i < i' ∨ j < j' ∨ k < k') ∧ st = cuS o a b i' j' k' (btO o a b i j k i' j' k' (pre ++ [c]))) ∨ (¬ (i < i' ∨ j < j' ∨ k < k') ∧ st = cuT o a b i' j' k' pre c))) := by
 refine qH3 (N := 85) Tryz.func66 rfl Tryz.ntmps66 Tryz.results66 (by simp) ?_
 have push : (i < i' ∨ j < j' ∨ k < k') → btO o a b i j k i' j' k' (pre ++ [c]) = (pre ++ [c]) ++ [⟨false, (o.take i').drop i, (a.take j').drop j, (b.take k').drop k⟩] := fun h => by rw [btO, qD, if_pos h]
 have cs : (i < i') ∨ (¬ i < i' ∧ j < j') ∨ (¬ i < i' ∧ ¬ j < j' ∧ k < k') ∨ (¬ i < i' ∧ ¬ j < j' ∧ ¬ k < k') := by omega
 have e1 : ckH pre ++ [[.v (.bool true), .lst true (aQ c.b), .lst true (aQ c.l), .lst true (aQ c.r)]] = (cks (pre ++ [c])).map (List.map FV.h) := by
  rw [qSd]; cases c; simp only at hc; subst hc; rfl
 rcases cs with c1 | ⟨c1, c2⟩ | ⟨c1, c2, c3⟩ | ⟨c1, c2, c3⟩
 ·refine zE ?_; refine zE ?_; refine zJ (fun K hK => ?_); simp (disch := omega) only [push_cast, ↓Int.cast_ofNat_Int, simprocAttr]; refine hK _ ?_; clear hK K
  refine zA ?_
  refine yD rfl ?_
  refine yB [0, 1, 2, 3] [0, 1, 2, 3, 4] (by simp only [zZ, zR, zP, zQ, zN, zS, zM, zX, zU, Nat.reduceEqDiff, reduceIte]; exact rfl) ?_
  refine dY 2 rfl (by simp only [fM, dT, cS, dK, cN, iH, dP, dQ, cR, dN, dM, fP, dR, dL, fH, fJ, fL, Nat.reduceEqDiff, reduceIte, List.map_cons, List.map_nil, List.map_append, kG]; exact rfl) ?_
  refine dY 3 rfl (by simp only [fM, dT, cS, dK, cN, iH, dP, dQ, cR, dN, dM, fP, dR, dL, fH, fJ, fL, Nat.reduceEqDiff, reduceIte, List.map_cons, List.map_nil, List.map_append, kG]; exact rfl) ?_
  refine dY 4 rfl (by simp only [fM, dT, cS, dK, cN, iH, dP, dQ, cR, dN, dM, fP, dR, dL, fH, fJ, fL, Nat.reduceEqDiff, reduceIte, List.map_cons, List.map_nil, List.map_append, kG]; exact rfl) ?_
  refine qYk 1 (cks (pre ++ [c])) e1 rfl (by simp only [sU, oY, Nat.reduceEqDiff, reduceIte]; exact rfl) ?_
  refine pE o a b i j k i' j' k' (pre ++ [c]) _ ho ha hb hi hj hk hn (fun E hE => ?_)
  refine zA ?_
  refine yB (S' := ⟨[(0, .ptr 0 7 0 0), (1, .v (.int .i64 i')), (2, .v (.int .i64 j')), (3, .v (.int .i64 k'))], [(0, cuR o a b i j k), (1, .sl true 77 4 (cks ((pre ++ [c]) ++ [⟨false, (o.take i').drop i, (a.take j').drop j, (b.take k').drop k⟩])))]⟩) [0, 1, 2, 3] [0, 1] (by simp only [HS.keep]; rw [hE]; rfl) ?_
  refine zJ (fun K hK => ?_); simp (disch := omega) only [push_cast, ↓Int.cast_ofNat_Int, simprocAttr]; refine hK _ ?_; clear hK K
  simp only [aM, bM, yH, yE, yK, yJ, cJ, zS, zM, Nat.reduceEqDiff, reduceIte, reduceCtorEq]
  refine jR [0, 1] (by decide) (by decide) (by simp only [push_cast, simprocAttr]) (by simp only [push_cast, simprocAttr]) (by simp only [push_cast, simprocAttr]; rfl) (by simp only [push_cast, simprocAttr]; rfl) ?_
  exact ⟨rfl, .inl ⟨by omega, by rw [push (.inl c1)]⟩⟩
 ·refine zE ?_; refine zE ?_; refine zJ (fun K hK => ?_); simp (disch := omega) only [push_cast, ↓Int.cast_ofNat_Int, simprocAttr]; refine hK _ ?_; clear hK K
  refine zA ?_
  refine yD rfl ?_
  refine yB [0, 1, 2, 3] [0, 1, 2, 3, 4] (by simp only [zZ, zR, zP, zQ, zN, zS, zM, zX, zU, Nat.reduceEqDiff, reduceIte]; exact rfl) ?_
  refine dY 2 rfl (by simp only [fM, dT, cS, dK, cN, iH, dP, dQ, cR, dN, dM, fP, dR, dL, fH, fJ, fL, Nat.reduceEqDiff, reduceIte, List.map_cons, List.map_nil, List.map_append, kG]; exact rfl) ?_
  refine dY 3 rfl (by simp only [fM, dT, cS, dK, cN, iH, dP, dQ, cR, dN, dM, fP, dR, dL, fH, fJ, fL, Nat.reduceEqDiff, reduceIte, List.map_cons, List.map_nil, List.map_append, kG]; exact rfl) ?_
  refine dY 4 rfl (by simp only [fM, dT, cS, dK, cN, iH, dP, dQ, cR, dN, dM, fP, dR, dL, fH, fJ, fL, Nat.reduceEqDiff, reduceIte, List.map_cons, List.map_nil, List.map_append, kG]; exact rfl) ?_
  refine qYk 1 (cks (pre ++ [c])) e1 rfl (by simp only [sU, oY, Nat.reduceEqDiff, reduceIte]; exact rfl) ?_
  refine pE o a b i j k i' j' k' (pre ++ [c]) _ ho ha hb hi hj hk hn (fun E hE => ?_)
  refine zA ?_
  refine yB (S' := ⟨[(0, .ptr 0 7 0 0), (1, .v (.int .i64 i')), (2, .v (.int .i64 j')), (3, .v (.int .i64 k'))], [(0, cuR o a b i j k), (1, .sl true 77 4 (cks ((pre ++ [c]) ++ [⟨false, (o.take i').drop i, (a.take j').drop j, (b.take k').drop k⟩])))]⟩) [0, 1, 2, 3] [0, 1] (by simp only [HS.keep]; rw [hE]; rfl) ?_
  refine zJ (fun K hK => ?_); simp (disch := omega) only [push_cast, ↓Int.cast_ofNat_Int, simprocAttr]; refine hK _ ?_; clear hK K
  simp only [aM, bM, yH, yE, yK, yJ, cJ, zS, zM, Nat.reduceEqDiff, reduceIte, reduceCtorEq]
  refine jR [0, 1] (by decide) (by decide) (by simp only [push_cast, simprocAttr]) (by simp only [push_cast, simprocAttr]) (by simp only [push_cast, simprocAttr]; rfl) (by simp only [push_cast, simprocAttr]; rfl) ?_
  exact ⟨rfl, .inl ⟨by omega, by rw [push (.inr (.inl c2))]⟩⟩
 ·refine zE ?_; refine zE ?_; refine zJ (fun K hK => ?_); simp (disch := omega) only [push_cast, ↓Int.cast_ofNat_Int, simprocAttr]; refine hK _ ?_; clear hK K
  refine zA ?_
  refine yD rfl ?_
  refine yB [0, 1, 2, 3] [0, 1, 2, 3, 4] (by simp only [zZ, zR, zP, zQ, zN, zS, zM, zX, zU, Nat.reduceEqDiff, reduceIte]; exact rfl) ?_
  refine dY 2 rfl (by simp only [fM, dT, cS, dK, cN, iH, dP, dQ, cR, dN, dM, fP, dR, dL, fH, fJ, fL, Nat.reduceEqDiff, reduceIte, List.map_cons, List.map_nil, List.map_append, kG]; exact rfl) ?_
  refine dY 3 rfl (by simp only [fM, dT, cS, dK, cN, iH, dP, dQ, cR, dN, dM, fP, dR, dL, fH, fJ, fL, Nat.reduceEqDiff, reduceIte, List.map_cons, List.map_nil, List.map_append, kG]; exact rfl) ?_
  refine dY 4 rfl (by simp only [fM, dT, cS, dK, cN, iH, dP, dQ, cR, dN, dM, fP, dR, dL, fH, fJ, fL, Nat.reduceEqDiff, reduceIte, List.map_cons, List.map_nil, List.map_append, kG]; exact rfl) ?_
  refine qYk 1 (cks (pre ++ [c])) e1 rfl (by simp only [sU, oY, Nat.reduceEqDiff, reduceIte]; exact rfl) ?_
  refine pE o a b i j k i' j' k' (pre ++ [c]) _ ho ha hb hi hj hk hn (fun E hE => ?_)
  refine zA ?_
  refine yB (S' := ⟨[(0, .ptr 0 7 0 0), (1, .v (.int .i64 i')), (2, .v (.int .i64 j')), (3, .v (.int .i64 k'))], [(0, cuR o a b i j k), (1, .sl true 77 4 (cks ((pre ++ [c]) ++ [⟨false, (o.take i').drop i, (a.take j').drop j, (b.take k').drop k⟩])))]⟩) [0, 1, 2, 3] [0, 1] (by simp only [HS.keep]; rw [hE]; rfl) ?_
  refine zJ (fun K hK => ?_); simp (disch := omega) only [push_cast, ↓Int.cast_ofNat_Int, simprocAttr]; refine hK _ ?_; clear hK K
  simp only [aM, bM, yH, yE, yK, yJ, cJ, zS, zM, Nat.reduceEqDiff, reduceIte, reduceCtorEq]
  refine jR [0, 1] (by decide) (by decide) (by simp only [push_cast, simprocAttr]) (by simp only [push_cast, simprocAttr]) (by simp only [push_cast, simprocAttr]; rfl) (by simp only [push_cast, simprocAttr]; rfl) ?_
  exact ⟨rfl, .inl ⟨by omega, by rw [push (.inr (.inr c3))]⟩⟩
 ·refine zE ?_; refine zE ?_; refine zJ (fun K hK => ?_); simp (disch := omega) only [push_cast, ↓Int.cast_ofNat_Int, simprocAttr]; refine hK _ ?_; clear hK K
  refine zA ?_
  refine yC rfl ?_
  refine zC ?_; refine zA ?_
  refine zJ (fun K hK => ?_); simp (disch := omega) only [push_cast, ↓Int.cast_ofNat_Int, simprocAttr]; refine hK _ ?_; clear hK K
  simp only [aM, bM, yH, yE, yK, yJ, cJ, zS, zM, Nat.reduceEqDiff, reduceIte, reduceCtorEq]
  refine jR [0, 1, 2, 3, 4] (by decide) (by decide) (by simp only [push_cast, simprocAttr, List.map_append, bG]) (by simp only [push_cast, simprocAttr, List.map_append, bG]) (by simp only [push_cast, simprocAttr, List.map_append, bG]; rfl) (by simp only [push_cast, simprocAttr, List.map_append, bG]; rfl) ?_
  exact ⟨rfl, .inr ⟨by omega, rfl⟩⟩
end Go.Proofs.YtdfjeokjmigkaaaGreat
