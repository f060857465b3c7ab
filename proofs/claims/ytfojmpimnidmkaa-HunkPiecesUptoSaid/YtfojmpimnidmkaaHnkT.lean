/-
  The walk of hunk.Between: the spans' row, the hunks' row, the second loop.
-/
import Derived.Test.YtfojmpimnidmkaaKept
import Derived.Test.YtfojmpimnidmkaaHnkM
import Derived.Test.YtfojmpimnidmkaaCln
import Derived.Test.YtfojmpimnidmkaaSl
set_option linter.unusedSimpArgs false
set_option linter.unusedVariables false
set_option maxRecDepth 20000
namespace Go.Proofs.Ytfojmpimnidmkaa
open Go Go.Eng Go.RowKit Go.DiffM

def spE (s : Sp) : List FV := [.v (.int .i64 s.a0), .v (.int .i64 s.a1), .v (.int .i64 s.b0), .v (.int .i64 s.b1)]
def sps (l : List Sp) : List (List FV) := l.map spE
theorem sps_len (l : List Sp) : (sps l).length = l.length := by simp [sps]
theorem sps_wid (l : List Sp) : Wid 4 (sps l) = True := eq_true (wid_map l fun _ => rfl)
theorem sps_get {l : List Sp} {i : Nat} {d : List FV} (h : i < l.length) : (sps l).getD i d = [.v (.int .i64 l[i].a0), .v (.int .i64 l[i].a1), .v (.int .i64 l[i].b0), .v (.int .i64 l[i].b1)] := by unfold sps; rw [getD_map h]; rfl
theorem sps_last (l : List Sp) (s : Sp) {d : List FV} : (sps (l ++ [s])).getD l.length d = [.v (.int .i64 s.a0), .v (.int .i64 s.a1), .v (.int .i64 s.b0), .v (.int .i64 s.b1)] := by
 rw [sps_get (by simp)]; simp
theorem sps_snoc (l : List Sp) (p q x y : Nat) : sps l ++ [[.v (.int .i64 p), .v (.int .i64 q), .v (.int .i64 x), .v (.int .i64 y)]] = sps (l ++ [⟨p, q, x, y⟩]) := by simp [sps, spE]
def hkE (fr : Bool) (h : Hk ByteArray) : List FV := [.v (.int .i64 h.at_), .lst fr (strs h.old), .lst fr (strs h.new)]
def hks (fr : Bool) (l : List (Hk ByteArray)) : List (List FV) := l.map (hkE fr)
theorem hks_len (fr : Bool) (l : List (Hk ByteArray)) : (hks fr l).length = l.length := by simp [hks]
theorem hks_snoc (fr : Bool) (l : List (Hk ByteArray)) (n : Nat) (x y : List ByteArray) : hks fr (l ++ [⟨n, x, y⟩]) = hks fr l ++ [[.v (.int .i64 n), .lst fr (strs x), .lst fr (strs y)]] := by simp [hks, hkE]
theorem hks_old (fr : Bool) (l : List (Hk ByteArray)) : olds (hks fr l) = hks false l := by
 simp only [olds, hks, List.map_map]
 apply List.map_congr_left
 intro h _
 simp only [Function.comp, hkE, List.map_cons, List.map_nil, fold_v, fold_lst, strs_old]
theorem hks_fresh (l : List (Hk ByteArray)) : ∀ x ∈ hks true l, ∀ f ∈ x, FreshF f := fun x hx f hf => by
 obtain ⟨h, -, rfl⟩ := List.mem_map.1 hx
 simp only [hkE, List.mem_cons, List.not_mem_nil, or_false] at hf
 rcases hf with rfl | rfl | rfl
 ·exact .v _
 ·exact .lst (strs_fresh _)
 ·exact .lst (strs_fresh _)
def spsH (l : List Sp) : List (List HV) := (sps l).map (List.map FV.h)
theorem spsH_eq (q : List Sp) (s : Sp) : (sps (q ++ [s])).map (List.map FV.h) = spsH q ++ [[.v (.int .i64 s.a0), .v (.int .i64 s.a1), .v (.int .i64 s.b0), .v (.int .i64 s.b1)]] := by simp [spsH, sps, spE, FV.h]
theorem spsH_len (q : List Sp) : (spsH q).length = q.length := by simp [spsH, sps]
theorem spsH_n (q : List Sp) (x : List HV) : (spsH q ++ [x]).length = q.length + 1 := by simp [spsH_len]
theorem spsH_get (q : List Sp) (x d : List HV) : (spsH q ++ [x]).getD q.length d = x := by
 rw [List.getD_eq_getElem?_getD, List.getElem?_append_right (by rw [spsH_len]; exact Nat.le_refl _), spsH_len, Nat.sub_self]; rfl
theorem spsH_set (q : List Sp) (x y : List HV) : (spsH q ++ [x]).set q.length y = spsH q ++ [y] := by
 rw [List.set_append_right _ _ (by rw [spsH_len]; exact Nat.le_refl _), spsH_len, Nat.sub_self]; rfl
abbrev rowS (l : List Sp) : Row := .sl true 44 4 (sps l)
abbrev rowH (l : List (Hk ByteArray)) : Row := .sl true 33 3 (hks true l)
theorem spans_in {α : Type} [DecidableEq α] (r : Nat) (a b : List α) : ∀ s ∈ spans (2 * r) a b, LocSp a b s ∧ min r s.a0 ≤ s.b0 ∧ s.b1 + min r (a.length - s.a1) ≤ b.length := by
 have end' : ∀ (s : Sp), LocSp a b s → a.drop s.a1 = b.drop s.b1 → s.b1 + min r (a.length - s.a1) ≤ b.length := fun s h e => by
  have := congrArg List.length e
  rw [List.length_drop, List.length_drop] at this
  have := h.lb
  omega
 have key : ∀ (l : List Sp) (s : Sp), min r s.a0 ≤ s.b0 → Sps (2 * r) a b (s :: l) → ∀ t ∈ s :: l, LocSp a b t ∧ min r t.a0 ≤ t.b0 ∧ t.b1 + min r (a.length - t.a1) ≤ b.length := by
  intro l
  induction l with
  | nil =>
   intro s h0 hs t ht
   obtain ⟨h1, h2⟩ := hs
   have : t = s := by simpa using ht
   subst this
   exact ⟨h1, h0, end' _ h1 h2⟩
  | cons u l ih =>
   intro s h0 hs t ht
   obtain ⟨h1, ⟨k1, k2, k3, k4⟩, h3, h4⟩ := hs
   have hu : LocSp a b u := by
    cases l with
    | nil => exact h4.1
    | cons v w => exact h4.1
   rcases List.mem_cons.1 ht with rfl | ht
   ·refine ⟨h1, h0, ?_⟩
    have := hu.hb; have := hu.lb
    omega
   ·exact ih u (by omega) h4 t ht
 intro s hs
 rcases spans_all (2 * r) a b with ⟨h, _⟩ | ⟨l, t, h, h1, h2, h3⟩
 ·rw [h] at hs; cases hs
 ·rw [h] at hs
  exact key t l (by omega) h3 s hs
def tailC : Nat → Code → Code
 | 0, c => c
 | n + 1, .seq _ b => tailC n b
 | _, c => c
set_option maxHeartbeats 16000000 in
theorem between_T (a b : List ByteArray) (r : Nat) (SP : List Sp) (Q : HPost) (hA : a.length ≤ 400) (hB : b.length ≤ 400) (hr4 : r ≤ 400) (hSPl : SP.length ≤ 800)
  (hin : ∀ s ∈ SP, LocSp a b s ∧ min r s.a0 ≤ s.b0 ∧ s.b1 + min r (a.length - s.a1) ≤ b.length) (hbd : ∀ s ∈ SP, s.a0 ≤ 400 ∧ s.a1 ≤ 400 ∧ s.b0 ≤ 400 ∧ s.b1 ≤ 400)
  (hQ : Q .ret ⟨[(7, .v (.int .i64 0)), (6, .own 880), (159, .own 880), (17, .own 880)], [(880, rowH (SP.map (hunkOf a b r)))]⟩) :
  HW Try.prog 160 (tailC 8 (Try.f4.body.getD .skip)) Q ⟨[(0, .lst false (strs a)), (1, .lst false (strs b)), (2, .v (.int .i64 r)), (10, .own 280)], [(280, rowS SP)]⟩ := by
 unfold Try.f4
 dsimp only [Option.getD_some, tailC]
 (repeat first | refine zE ?_ | refine zA ?_ | refine zC ?_ | refine zB ?_ | refine zD ?_); refine zJ (fun K hK => ?_); simp (maxSteps := 2000000) (disch := omega) only [push_cast, ↓Int.cast_ofNat_Int, Nat.reduceBEq, Nat.reduceAdd, Nat.reduceLT, Nat.reduceEqDiff, reduceIte, reduceCtorEq, Nat.reduceLeDiff, Nat.reduceSub, List.reduceReplicate, Nat.reduceMul, Int.reduceToNat, Int.toNat_natCast, Nat.reducePow, reduceIte]; refine hK _ ?_; clear hK K
 (repeat first | refine zE ?_ | refine zA ?_ | refine zC ?_ | refine zB ?_ | refine zD ?_); refine zJ (fun K hK => ?_); simp (maxSteps := 2000000) (disch := omega) only [push_cast, ↓Int.cast_ofNat_Int, Nat.reduceBEq, Nat.reduceAdd, Nat.reduceLT, Nat.reduceEqDiff, reduceIte, reduceCtorEq, Nat.reduceLeDiff, Nat.reduceSub, List.reduceReplicate, Nat.reduceMul, Int.reduceToNat, Int.toNat_natCast, Nat.reducePow, reduceIte, sps_len]; refine hK _ ?_; clear hK K
 refine yB [0, 1, 2, 17, 111, 112, 113] [280, 880] (by simp only [zZ, zR, zP, zQ, zN, zS, zM, zX, zU, Nat.reduceEqDiff, reduceIte]; exact rfl) ?_
 (repeat first | refine zE ?_ | refine zA ?_ | refine zC ?_ | refine zB ?_ | refine zD ?_)
 refine HW_loop (fun m : Nat => ⟨[(0, .lst false (strs a)), (1, .lst false (strs b)), (2, .v (.int .i64 r)), (17, .own 880), (111, .own 280), (112, .v (.int .i64 SP.length)), (113, .v (.int .i64 m))], [(280, rowS SP), (880, rowH ((SP.take m).map (hunkOf a b r)))]⟩) (fun m => m ≤ SP.length) (fun m => SP.length - m) [0, 1, 2, 17, 111, 112, 113] [280, 880] 0 rfl (Nat.zero_le _) ?_
 intro m hm
 by_cases hml : m < SP.length
 ·obtain ⟨s, hs⟩ : ∃ s, SP[m] = s := ⟨_, rfl⟩
  have hsm : s ∈ SP := hs ▸ List.getElem_mem hml
  obtain ⟨hL, k1, k2⟩ := hin s hsm
  obtain ⟨b1, b2, b3, b4⟩ := hbd s hsm
  obtain ⟨l1, l2, -, l3, l4, -⟩ := hL
  (repeat first | refine zE ?_ | refine zA ?_ | refine zC ?_ | refine zB ?_ | refine zD ?_); refine zJ (fun K hK => ?_); simp (maxSteps := 2000000) (disch := omega) only [push_cast, ↓Int.cast_ofNat_Int, Nat.reduceBEq, Nat.reduceAdd, Nat.reduceLT, Nat.reduceEqDiff, reduceIte, reduceCtorEq, Nat.reduceLeDiff, Nat.reduceSub, List.reduceReplicate, Nat.reduceMul, Int.reduceToNat, Int.toNat_natCast, Nat.reducePow, reduceIte]; refine hK _ ?_; clear hK K
  (repeat first | refine zE ?_ | refine zA ?_ | refine zC ?_ | refine zB ?_ | refine zD ?_)
  refine yD rfl ?_
  (repeat first | refine zK ?_ | refine zG ?_ | refine zH ?_ | refine zF rfl ?_ | refine zL ?_ | refine zB ?_ | refine zE ?_ | refine zA ?_ | refine zC ?_ | refine zT ?_ | refine zW ?_)
  (repeat first | refine zE ?_ | refine zA ?_ | refine zC ?_ | refine zB ?_ | refine zD ?_); refine zJ (fun K hK => ?_); simp (maxSteps := 2000000) (disch := omega) only [push_cast, ↓Int.cast_ofNat_Int, Nat.reduceBEq, Nat.reduceAdd, Nat.reduceLT, Nat.reduceEqDiff, reduceIte, reduceCtorEq, Nat.reduceLeDiff, Nat.reduceSub, List.reduceReplicate, Nat.reduceMul, Int.reduceToNat, Int.toNat_natCast, Nat.reducePow, reduceIte, sps_len, sps_get hml, hs]; refine hK _ ?_; clear hK K
  refine yB [0, 1, 2, 17, 19, 111, 112, 113] [152, 280, 880] (by simp only [zZ, zR, zP, zQ, zN, zS, zM, zX, zU, Nat.reduceEqDiff, reduceIte]; exact rfl) ?_
  obtain ⟨mn, hmn⟩ : ∃ mn, mn = min r s.a0 := ⟨_, rfl⟩
  obtain ⟨mx, hmx⟩ : ∃ mx, mx = min r (a.length - s.a1) := ⟨_, rfl⟩
  have em1 : (if (s.a0 : Int) < (r : Int) then (s.a0 : Int) else (r : Int)) = (mn : Int) := by split <;> omega
  have em2 : (if (a.length : Int) - (s.a1 : Int) < (r : Int) then (a.length : Int) - (s.a1 : Int) else (r : Int)) = (mx : Int) := by split <;> omega
  obtain ⟨lo, hlo⟩ : ∃ x, x = s.a0 - mn := ⟨_, rfl⟩
  obtain ⟨hi, hhi⟩ : ∃ x, x = s.a1 + mx := ⟨_, rfl⟩
  obtain ⟨lo2, hlo2⟩ : ∃ x, x = s.b0 - mn := ⟨_, rfl⟩
  obtain ⟨hi2, hhi2⟩ : ∃ x, x = s.b1 + mx := ⟨_, rfl⟩
  have el1 : (s.a0 : Int) - (mn : Int) = (lo : Int) := by omega
  have el2 : (s.a1 : Int) + (mx : Int) = (hi : Int) := by omega
  have el3 : (s.b0 : Int) - (mn : Int) = (lo2 : Int) := by omega
  have el4 : (s.b1 : Int) + (mx : Int) = (hi2 : Int) := by omega
  have hhk : hunkOf a b r s = ⟨lo, (a.take hi).drop lo, (b.take hi2).drop lo2⟩ := by simp only [hunkOf, ← hmn, ← hmx, ← hlo, ← hhi, ← hlo2, ← hhi2]
  rw [← hmn] at k1
  rw [← hmx] at k2
  have q1 : lo ≤ hi ∧ hi ≤ a.length := by omega
  have q2 : lo2 ≤ hi2 ∧ hi2 ≤ b.length := by omega
  have c1 := clone_H ((a.take hi).drop lo) (by rw [List.length_drop, List.length_take]; omega)
  have c2 := clone_H ((b.take hi2).drop lo2) (by rw [List.length_drop, List.length_take]; omega)
  (repeat first | refine zE ?_ | refine zA ?_ | refine zC ?_ | refine zB ?_ | refine zD ?_); refine HW_drw 13 mixed (by kernel_rfl) (fun K hK => ?_); simp (maxSteps := 2000000) (disch := omega) only [push_cast, ↓Int.cast_ofNat_Int, Nat.reduceBEq, Nat.reduceAdd, Nat.reduceLT, Nat.reduceEqDiff, reduceIte, reduceCtorEq, Nat.reduceLeDiff, Nat.reduceSub, List.reduceReplicate, Nat.reduceMul, Int.reduceToNat, Int.toNat_natCast, Nat.reducePow, reduceIte, strs_len]
  rw [em1, em2]
  with_reducible refine hstop ?_; simp (maxSteps := 2000000) (disch := omega) only [push_cast, ↓Int.cast_ofNat_Int, Nat.reduceBEq, Nat.reduceAdd, Nat.reduceLT, Nat.reduceEqDiff, reduceIte, reduceCtorEq, Nat.reduceLeDiff, Nat.reduceSub, List.reduceReplicate, Nat.reduceMul, Int.reduceToNat, Int.toNat_natCast, Nat.reducePow, reduceIte, strs_len]
  refine hK _ ?_; clear hK K
  refine yB [0, 1, 2, 17, 19, 20, 21, 111, 112, 113] [152, 280, 880] (by simp only [zZ, zR, zP, zQ, zN, zS, zM, zX, zU, Nat.reduceEqDiff, reduceIte]; exact rfl) ?_
  (repeat first | refine zE ?_ | refine zA ?_ | refine zC ?_ | refine zB ?_ | refine zD ?_); refine HW_drwR2 29 mixed (by kernel_rfl) (fun K hK K1 hK1 => ?_); simp (maxSteps := 2000000) (disch := omega) only [push_cast, ↓Int.cast_ofNat_Int, Nat.reduceBEq, Nat.reduceAdd, Nat.reduceLT, Nat.reduceEqDiff, reduceIte, reduceCtorEq, Nat.reduceLeDiff, Nat.reduceSub, List.reduceReplicate, Nat.reduceMul, Int.reduceToNat, Int.toNat_natCast, Nat.reducePow, reduceIte, el1, el2, el3, el4, strs_len, strs_wid, strs_take, strs_drop]
  refine hatRo cl11 c1 (.cons (lendL (strs_old _)) .nil) ?_
  with_reducible refine hstop ?_; simp (maxSteps := 2000000) (disch := omega) only [push_cast, ↓Int.cast_ofNat_Int, Nat.reduceBEq, Nat.reduceAdd, Nat.reduceLT, Nat.reduceEqDiff, reduceIte, reduceCtorEq, Nat.reduceLeDiff, Nat.reduceSub, List.reduceReplicate, Nat.reduceMul, Int.reduceToNat, Int.toNat_natCast, Nat.reducePow, reduceIte, el1, el2, el3, el4, strs_len, strs_wid, strs_take, strs_drop]
  refine hatRo cl11 c2 (.cons (lendL (strs_old _)) .nil) ?_
  clear c1 c2
  with_reducible refine hstop ?_; simp (maxSteps := 2000000) (disch := omega) only [push_cast, ↓Int.cast_ofNat_Int, Nat.reduceBEq, Nat.reduceAdd, Nat.reduceLT, Nat.reduceEqDiff, reduceIte, reduceCtorEq, Nat.reduceLeDiff, Nat.reduceSub, List.reduceReplicate, Nat.reduceMul, Int.reduceToNat, Int.toNat_natCast, Nat.reducePow, reduceIte, strs_len]
  clear em1 em2 el1 el2 el3 el4 hmn hmx hlo hhi hlo2 hhi2 k1 k2 b1 b2 b3 b4 l1 l2 l3 l4 q1 q2
  have hlen : ((SP.take m).map (hunkOf a b r)).length = m := by rw [List.length_map, List.length_take]; omega
  refine hK1 _ ?_; (try clear hK1 K1); with_reducible refine hstop ?_; simp (maxSteps := 2000000) (disch := omega) only [push_cast, ↓Int.cast_ofNat_Int, Nat.reduceBEq, Nat.reduceAdd, Nat.reduceLT, Nat.reduceEqDiff, reduceIte, reduceCtorEq, Nat.reduceLeDiff, Nat.reduceSub, List.reduceReplicate, Nat.reduceMul, Int.reduceToNat, Int.toNat_natCast, Nat.reducePow, reduceIte, hks_len, hlen]
  refine ⟨by intro x hx; simp at hx; subst hx; rfl, ?_⟩
  refine hK _ ?_; clear hK K
  (repeat first | refine zK ?_ | refine zG ?_ | refine zH ?_ | refine zF rfl ?_ | refine zL ?_ | refine zB ?_ | refine zE ?_ | refine zA ?_ | refine zC ?_ | refine zT ?_ | refine zW ?_)
  (repeat first | refine zE ?_ | refine zA ?_ | refine zC ?_ | refine zB ?_ | refine zD ?_); refine zJ (fun K hK => ?_); simp (maxSteps := 2000000) (disch := omega) only [push_cast, ↓Int.cast_ofNat_Int, Nat.reduceBEq, Nat.reduceAdd, Nat.reduceLT, Nat.reduceEqDiff, reduceIte, reduceCtorEq, Nat.reduceLeDiff, Nat.reduceSub, List.reduceReplicate, Nat.reduceMul, Int.reduceToNat, Int.toNat_natCast, Nat.reducePow, reduceIte]; refine hK _ ?_; clear hK K
  (repeat first | refine zK ?_ | refine zG ?_ | refine zH ?_ | refine zF rfl ?_ | refine zL ?_ | refine zB ?_ | refine zE ?_ | refine zA ?_ | refine zC ?_ | refine zT ?_ | refine zW ?_)
  refine ⟨m + 1, ?_, hml, by omega⟩
  simp only [zZ, zR, zP, zQ, zN, zS, zM, zX, zU, Nat.reduceEqDiff, reduceIte]
  rw [List.take_succ_eq_append_getElem hml, hs, List.map_append, List.map_singleton, hhk]
  simp only [rowH, hks_snoc]
  exact rfl
 ·have hne : m = SP.length := by omega
  subst hne
  (repeat first | refine zE ?_ | refine zA ?_ | refine zC ?_ | refine zB ?_ | refine zD ?_); refine zJ (fun K hK => ?_); simp (maxSteps := 2000000) (disch := omega) only [push_cast, ↓Int.cast_ofNat_Int, Nat.reduceBEq, Nat.reduceAdd, Nat.reduceLT, Nat.reduceEqDiff, reduceIte, reduceCtorEq, Nat.reduceLeDiff, Nat.reduceSub, List.reduceReplicate, Nat.reduceMul, Int.reduceToNat, Int.toNat_natCast, Nat.reducePow, reduceIte]; refine hK _ ?_; clear hK K
  (repeat first | refine zE ?_ | refine zA ?_ | refine zC ?_ | refine zB ?_ | refine zD ?_)
  refine yC rfl ?_
  (repeat first | refine zK ?_ | refine zG ?_ | refine zH ?_ | refine zF rfl ?_ | refine zL ?_ | refine zB ?_ | refine zE ?_ | refine zA ?_ | refine zC ?_ | refine zT ?_ | refine zW ?_)
  (repeat first | refine zE ?_ | refine zA ?_ | refine zC ?_ | refine zB ?_ | refine zD ?_); refine zJ (fun K hK => ?_); simp (maxSteps := 2000000) (disch := omega) only [push_cast, ↓Int.cast_ofNat_Int, Nat.reduceBEq, Nat.reduceAdd, Nat.reduceLT, Nat.reduceEqDiff, reduceIte, reduceCtorEq, Nat.reduceLeDiff, Nat.reduceSub, List.reduceReplicate, Nat.reduceMul, Int.reduceToNat, Int.toNat_natCast, Nat.reducePow, reduceIte]; refine hK _ ?_; clear hK K
  (repeat first | refine zE ?_ | refine zA ?_ | refine zC ?_ | refine zB ?_ | refine zD ?_)
  refine yB [7, 6, 159, 17] [880] (by simp only [zZ, zR, zP, zQ, zN, zS, zM, zX, zU, Nat.reduceEqDiff, reduceIte]; exact rfl) ?_
  (repeat first | refine zK ?_ | refine zG ?_ | refine zH ?_ | refine zF rfl ?_ | refine zL ?_ | refine zB ?_ | refine zE ?_ | refine zA ?_ | refine zC ?_ | refine zT ?_ | refine zW ?_)
  rw [List.take_length]
  exact hQ
end Go.Proofs.Ytfojmpimnidmkaa
