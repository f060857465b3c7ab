/-
  The document's pieces between two lists: walked; what it answers are views of the lists.
-/
import Derived.Test.YtfojmpimnidmkaaHpB
import Derived.Test.YtfojmpimnidmkaaFvw
set_option linter.unusedSimpArgs false
set_option linter.unusedVariables false
set_option maxRecDepth 20000
namespace Go.Eng
open Go Go.RowKit
theorem hresV_vv {S : HS} {Q : HV → Store → Prop} {a b : Value} (q : Q (.tup [.v a, .v b]) []) : HResV S (.tup [.v a, .v b]) Q :=
 ⟨[], by simp, by simp [dup], fun i h => by simp at h, by rw [HV.ren]; simp only [List.map_cons, List.map_nil, HV.ren, rpick]; exact q⟩
theorem hresV_ov {S : HS} {Q : HV → Store → Prop} {id ty sz : Nat} {nw : Bool} {els : List (List FV)} {b : Value} (hr : rlk S.st id = some (.sl nw ty sz els)) (q : Q (.tup [.own 0, .v b]) [(0, .sl nw ty sz els)]) : HResV S (.tup [.own id, .v b]) Q :=
 ⟨[id], by simp, by simp [dup], fun i h r hr' => by
  simp at h; subst h; rw [hr] at hr'; simp only [Option.some.injEq] at hr'; subst hr'; exact ⟨_, _, _, _, rfl⟩, by
  rw [HV.ren]; simp only [List.map_cons, List.map_nil, HV.ren, pos, if_true, rpick, hr, Row.ren]; exact q⟩
end Go.Eng
namespace Go.Proofs.Ytfojmpimnidmkaa
open Go Go.Eng Go.RowKit Go.DiffM
theorem addSp_len (g : Nat) (acc : List Sp) (s : Sp) : (addSp g acc s).length ≤ acc.length + 1 := by
 rcases List.eq_nil_or_concat acc with rfl | ⟨q, l, rfl⟩
 ·simp [addSp]
 ·rw [List.concat_eq_append, addSp_snoc]; split <;> simp
theorem spF_len (g : Nat) : ∀ (l : List (Nat × Nat)) (i j : Nat) (acc : List Sp), (spF g l i j acc).length ≤ acc.length + l.length
 | [], i, j, acc => by simp [spF]
 | (op, n) :: l, i, j, acc => by
  rw [spF]
  split
  ·have := spF_len g l (i + n) (j + n) acc; simp only [List.length_cons]; omega
  ·split
   ·have := spF_len g l (i + n) j (addSp g acc ⟨i, i + n, j, j⟩); have := addSp_len g acc ⟨i, i + n, j, j⟩; simp only [List.length_cons]; omega
   ·have := spF_len g l i (j + n) (addSp g acc ⟨i, i, j, j + n⟩); have := addSp_len g acc ⟨i, i, j, j + n⟩; simp only [List.length_cons]; omega
set_option maxHeartbeats 16000000 in
theorem rbetween_H (a b : List ByteArray) (around : Int) (w1 : -9223372036854775808 ≤ around) (w2 : around ≤ 9223372036854775807) : HFunV Try.prog 5 [.lst false (strs a), .lst false (strs b), .v (.int .i64 around)] (fun h st =>
  (around < 0 ∧ h = .tup [.v (.slice none 0 0), .v (.int .i64 1)] ∧ st = []) ∨ (0 ≤ around ∧ (400 < a.length ∨ 400 < b.length) ∧ h = .tup [.v (.slice none 0 0), .v (.int .i64 4)] ∧ st = []) ∨
  (0 ≤ around ∧ a.length ≤ 400 ∧ b.length ≤ 400 ∧ h = .tup [.own 0, .v (.int .i64 0)] ∧ st = [(0, .sl true 33 3 (hks false (between a b (min around 400).toNat)))])) := by
 refine hfunV (N := 97) Try.func5 rfl Try.ntmps5 Try.results5 (by simp) ?_
 (repeat first | refine zE ?_ | refine zA ?_ | refine zC ?_ | refine zB ?_ | refine zD ?_); refine zJ (fun K hK => ?_); simp (maxSteps := 2000000) (disch := omega) only [push_cast, ↓Int.cast_ofNat_Int, Nat.reduceBEq, Nat.reduceAdd, Nat.reduceLT, Nat.reduceEqDiff, reduceIte, reduceCtorEq, Nat.reduceLeDiff, Nat.reduceSub, List.reduceReplicate, Nat.reduceMul, Int.reduceToNat, Int.toNat_natCast, Nat.reducePow, reduceIte]; refine hK _ ?_; clear hK K
 by_cases hneg : around < 0
 ·(repeat first | refine zE ?_ | refine zA ?_ | refine zC ?_ | refine zB ?_ | refine zD ?_); refine zJ (fun K hK => ?_); simp (maxSteps := 2000000) (disch := omega) only [push_cast, ↓Int.cast_ofNat_Int, Nat.reduceBEq, Nat.reduceAdd, Nat.reduceLT, Nat.reduceEqDiff, reduceIte, reduceCtorEq, Nat.reduceLeDiff, Nat.reduceSub, List.reduceReplicate, Nat.reduceMul, Int.reduceToNat, Int.toNat_natCast, Nat.reducePow, reduceIte]; refine hK _ ?_; clear hK K
  (repeat first | refine zE ?_ | refine zA ?_ | refine zC ?_ | refine zB ?_ | refine zD ?_)
  refine yD rfl ?_
  (repeat first | refine zE ?_ | refine zA ?_ | refine zC ?_ | refine zB ?_ | refine zD ?_); refine zJ (fun K hK => ?_); simp (maxSteps := 2000000) (disch := omega) only [push_cast, ↓Int.cast_ofNat_Int, Nat.reduceBEq, Nat.reduceAdd, Nat.reduceLT, Nat.reduceEqDiff, reduceIte, reduceCtorEq, Nat.reduceLeDiff, Nat.reduceSub, List.reduceReplicate, Nat.reduceMul, Int.reduceToNat, Int.toNat_natCast, Nat.reducePow, reduceIte]; refine hK _ ?_; clear hK K
  (repeat first | refine zK ?_ | refine zG ?_ | refine zH ?_ | refine zF rfl ?_ | refine zL ?_ | refine zB ?_ | refine zE ?_ | refine zA ?_ | refine zC ?_ | refine zT ?_ | refine zW ?_)
  simp only [hfunVQ, yH, yE, yK, yJ, zS, zM, Nat.reduceEqDiff, reduceIte, reduceCtorEq]
  exact hresV_vv (.inl ⟨hneg, rfl, rfl⟩)
 (repeat first | refine zE ?_ | refine zA ?_ | refine zC ?_ | refine zB ?_ | refine zD ?_); refine zJ (fun K hK => ?_); simp (maxSteps := 2000000) (disch := omega) only [push_cast, ↓Int.cast_ofNat_Int, Nat.reduceBEq, Nat.reduceAdd, Nat.reduceLT, Nat.reduceEqDiff, reduceIte, reduceCtorEq, Nat.reduceLeDiff, Nat.reduceSub, List.reduceReplicate, Nat.reduceMul, Int.reduceToNat, Int.toNat_natCast, Nat.reducePow, reduceIte]; refine hK _ ?_; clear hK K
 (repeat first | refine zE ?_ | refine zA ?_ | refine zC ?_ | refine zB ?_ | refine zD ?_)
 refine yC rfl ?_
 by_cases hA : 400 < a.length
 ·(repeat first | refine zE ?_ | refine zA ?_ | refine zC ?_ | refine zB ?_ | refine zD ?_); refine zJ (fun K hK => ?_); simp (maxSteps := 2000000) (disch := omega) only [push_cast, ↓Int.cast_ofNat_Int, Nat.reduceBEq, Nat.reduceAdd, Nat.reduceLT, Nat.reduceEqDiff, reduceIte, reduceCtorEq, Nat.reduceLeDiff, Nat.reduceSub, List.reduceReplicate, Nat.reduceMul, Int.reduceToNat, Int.toNat_natCast, Nat.reducePow, reduceIte, strs_len]; refine hK _ ?_; clear hK K
  (repeat first | refine zE ?_ | refine zA ?_ | refine zC ?_ | refine zB ?_ | refine zD ?_)
  refine yD rfl ?_
  (repeat first | refine zE ?_ | refine zA ?_ | refine zC ?_ | refine zB ?_ | refine zD ?_); refine zJ (fun K hK => ?_); simp (maxSteps := 2000000) (disch := omega) only [push_cast, ↓Int.cast_ofNat_Int, Nat.reduceBEq, Nat.reduceAdd, Nat.reduceLT, Nat.reduceEqDiff, reduceIte, reduceCtorEq, Nat.reduceLeDiff, Nat.reduceSub, List.reduceReplicate, Nat.reduceMul, Int.reduceToNat, Int.toNat_natCast, Nat.reducePow, reduceIte]; refine hK _ ?_; clear hK K
  (repeat first | refine zK ?_ | refine zG ?_ | refine zH ?_ | refine zF rfl ?_ | refine zL ?_ | refine zB ?_ | refine zE ?_ | refine zA ?_ | refine zC ?_ | refine zT ?_ | refine zW ?_)
  simp only [hfunVQ, yH, yE, yK, yJ, zS, zM, Nat.reduceEqDiff, reduceIte, reduceCtorEq]
  exact hresV_vv (.inr (.inl ⟨by omega, .inl hA, rfl, rfl⟩))
 by_cases hB : 400 < b.length
 ·(repeat first | refine zE ?_ | refine zA ?_ | refine zC ?_ | refine zB ?_ | refine zD ?_); refine zJ (fun K hK => ?_); simp (maxSteps := 2000000) (disch := omega) only [push_cast, ↓Int.cast_ofNat_Int, Nat.reduceBEq, Nat.reduceAdd, Nat.reduceLT, Nat.reduceEqDiff, reduceIte, reduceCtorEq, Nat.reduceLeDiff, Nat.reduceSub, List.reduceReplicate, Nat.reduceMul, Int.reduceToNat, Int.toNat_natCast, Nat.reducePow, reduceIte, strs_len]; refine hK _ ?_; clear hK K
  (repeat first | refine zE ?_ | refine zA ?_ | refine zC ?_ | refine zB ?_ | refine zD ?_)
  refine yD rfl ?_
  (repeat first | refine zE ?_ | refine zA ?_ | refine zC ?_ | refine zB ?_ | refine zD ?_); refine zJ (fun K hK => ?_); simp (maxSteps := 2000000) (disch := omega) only [push_cast, ↓Int.cast_ofNat_Int, Nat.reduceBEq, Nat.reduceAdd, Nat.reduceLT, Nat.reduceEqDiff, reduceIte, reduceCtorEq, Nat.reduceLeDiff, Nat.reduceSub, List.reduceReplicate, Nat.reduceMul, Int.reduceToNat, Int.toNat_natCast, Nat.reducePow, reduceIte]; refine hK _ ?_; clear hK K
  (repeat first | refine zK ?_ | refine zG ?_ | refine zH ?_ | refine zF rfl ?_ | refine zL ?_ | refine zB ?_ | refine zE ?_ | refine zA ?_ | refine zC ?_ | refine zT ?_ | refine zW ?_)
  simp only [hfunVQ, yH, yE, yK, yJ, zS, zM, Nat.reduceEqDiff, reduceIte, reduceCtorEq]
  exact hresV_vv (.inr (.inl ⟨by omega, .inr hB, rfl, rfl⟩))
 (repeat first | refine zE ?_ | refine zA ?_ | refine zC ?_ | refine zB ?_ | refine zD ?_); refine zJ (fun K hK => ?_); simp (maxSteps := 2000000) (disch := omega) only [push_cast, ↓Int.cast_ofNat_Int, Nat.reduceBEq, Nat.reduceAdd, Nat.reduceLT, Nat.reduceEqDiff, reduceIte, reduceCtorEq, Nat.reduceLeDiff, Nat.reduceSub, List.reduceReplicate, Nat.reduceMul, Int.reduceToNat, Int.toNat_natCast, Nat.reducePow, reduceIte, strs_len]; refine hK _ ?_; clear hK K
 (repeat first | refine zE ?_ | refine zA ?_ | refine zC ?_ | refine zB ?_ | refine zD ?_)
 refine yC rfl ?_
 (repeat first | refine zE ?_ | refine zA ?_ | refine zC ?_ | refine zB ?_ | refine zD ?_)
 refine yB [0, 1, 2] [] (by simp only [zZ, zR, zP, zQ, zN, zS, zM, zX, zU, Nat.reduceEqDiff, reduceIte]; exact rfl) ?_
 obtain ⟨r, hr⟩ : ∃ r : Nat, (r : Int) = min around 400 := ⟨(min around 400).toNat, by omega⟩
 have hr4 : r ≤ 400 := by omega
 have hrn : (min around 400).toNat = r := by omega
 have hmin : (if (400 : Int) < around then (400 : Int) else around) = (r : Int) := by split <;> omega
 rw [hrn]
 have hl := least_H around 400
 rw [hmin] at hl
 (repeat first | refine zE ?_ | refine zA ?_ | refine zC ?_ | refine zB ?_ | refine zD ?_); refine zJ (fun K hK => ?_); simp (maxSteps := 2000000) (disch := omega) only [push_cast, ↓Int.cast_ofNat_Int, Nat.reduceBEq, Nat.reduceAdd, Nat.reduceLT, Nat.reduceEqDiff, reduceIte, reduceCtorEq, Nat.reduceLeDiff, Nat.reduceSub, List.reduceReplicate, Nat.reduceMul, Int.reduceToNat, Int.toNat_natCast, Nat.reducePow, reduceIte]
 refine hatv cl12 hl (.cons (.v _) (.cons (.v _) .nil)) ?_
 with_reducible refine hstop ?_; simp (maxSteps := 2000000) (disch := omega) only [push_cast, ↓Int.cast_ofNat_Int, Nat.reduceBEq, Nat.reduceAdd, Nat.reduceLT, Nat.reduceEqDiff, reduceIte, reduceCtorEq, Nat.reduceLeDiff, Nat.reduceSub, List.reduceReplicate, Nat.reduceMul, Int.reduceToNat, Int.toNat_natCast, Nat.reducePow, reduceIte]
 refine hK _ ?_; clear hK K
 clear hl
 (repeat first | refine zE ?_ | refine zA ?_ | refine zC ?_ | refine zB ?_ | refine zD ?_); refine zJ (fun K hK => ?_); simp (maxSteps := 2000000) (disch := omega) only [push_cast, ↓Int.cast_ofNat_Int, Nat.reduceBEq, Nat.reduceAdd, Nat.reduceLT, Nat.reduceEqDiff, reduceIte, reduceCtorEq, Nat.reduceLeDiff, Nat.reduceSub, List.reduceReplicate, Nat.reduceMul, Int.reduceToNat, Int.toNat_natCast, Nat.reducePow, reduceIte]; refine hK _ ?_; clear hK K
 obtain ⟨g, hg⟩ : ∃ g, g = 2 * r := ⟨_, rfl⟩
 have hgc : (2 : Int) * (r : Int) = (g : Int) := by omega
 (repeat first | refine zE ?_ | refine zA ?_ | refine zC ?_ | refine zB ?_ | refine zD ?_); refine zJ (fun K hK => ?_); simp (maxSteps := 2000000) (disch := omega) only [push_cast, ↓Int.cast_ofNat_Int, Nat.reduceBEq, Nat.reduceAdd, Nat.reduceLT, Nat.reduceEqDiff, reduceIte, reduceCtorEq, Nat.reduceLeDiff, Nat.reduceSub, List.reduceReplicate, Nat.reduceMul, Int.reduceToNat, Int.toNat_natCast, Nat.reducePow, reduceIte, hgc]
 refine hat 232 cl13 (gaps_H a b (by omega) (by omega) g (by omega)) (.cons (lendL (strs_old _)) (.cons (lendL (strs_old _)) (.cons (.v _) .nil))) ?_
 rintro _ _ ⟨rfl, rfl⟩
 with_reducible refine hstop ?_; simp (maxSteps := 2000000) (disch := omega) only [push_cast, ↓Int.cast_ofNat_Int, Nat.reduceBEq, Nat.reduceAdd, Nat.reduceLT, Nat.reduceEqDiff, reduceIte, reduceCtorEq, Nat.reduceLeDiff, Nat.reduceSub, List.reduceReplicate, Nat.reduceMul, Int.reduceToNat, Int.toNat_natCast, Nat.reducePow, reduceIte]
 refine hK _ ?_; clear hK K
 refine yB [0, 1, 2, 8, 9] [232] (by simp only [zZ, zR, zP, zQ, zN, zS, zM, zX, zU, Nat.reduceEqDiff, reduceIte]; exact rfl) ?_
 refine HW_ownS 8 9000 33 3 rfl (by simp only [kill_eq, row_eq, rep_eq, ekill_nil, ekill_cons, skill_nil, skill_cons, hkill_v, hkill_lst, hkill_elt, hkill_own, hkill_ptr, hkill_vw, hkill_agg, hkill_tup, hkill_junk, rkill_sl, rkill_bx, rkill_hl, only_eq, hrep_nil, hrep_cons, Nat.reduceBEq, Nat.reduceEqDiff, reduceIte, cond_true, cond_false, List.map_cons, List.map_nil]; exact rfl) ?_
 rw [show ([] : List (List FV)) = hks false [] from rfl]
 (repeat first | refine zE ?_ | refine zA ?_ | refine zC ?_ | refine zB ?_ | refine zD ?_); refine zJ (fun K hK => ?_); simp (maxSteps := 2000000) (disch := omega) only [push_cast, ↓Int.cast_ofNat_Int, Nat.reduceBEq, Nat.reduceAdd, Nat.reduceLT, Nat.reduceEqDiff, reduceIte, reduceCtorEq, Nat.reduceLeDiff, Nat.reduceSub, List.reduceReplicate, Nat.reduceMul, Int.reduceToNat, Int.toNat_natCast, Nat.reducePow, reduceIte]; refine hK _ ?_; clear hK K
 have hin := spans_in r a b
 rw [← hg] at hin
 have hbw : between a b r = (spans g a b).map (hunkOf a b r) := by rw [hg]; rfl
 rw [hbw]
 have hbd : ∀ s ∈ spans g a b, s.a0 ≤ 400 ∧ s.a1 ≤ 400 ∧ s.b0 ≤ 400 ∧ s.b1 ≤ 400 := fun s hs => by
  obtain ⟨⟨l1, l2, -, l3, l4, -⟩, -, -⟩ := hin s hs
  omega
 have hSPl : (spans g a b).length ≤ 1000000 := by
  have := spF_len g (script a b) 0 0 []
  obtain ⟨hlen, hcnt⟩ := script_len a b
  have e : spans g a b = spF g (script a b) 0 0 [] := rfl
  rw [e]
  simp only [List.length_nil] at this
  omega
 generalize spans g a b = SP at *
 (repeat first | refine zE ?_ | refine zA ?_ | refine zC ?_ | refine zB ?_ | refine zD ?_)
 refine HW_loop (fun m : Nat => ⟨[(0, .lst false (strs a)), (1, .lst false (strs b)), (2, .v (.int .i64 r)), (8, .own 9000), (9, .own 232), (10, .v (.int .i64 m))], [(232, .sl true 49 4 (sps SP)), (9000, .sl true 33 3 (hks false ((SP.take m).map (hunkOf a b r))))]⟩) (fun m => m ≤ SP.length) (fun m => SP.length - m) [0, 1, 2, 8, 9, 10] [232, 9000] 0 (by simp only [zZ, zR, zP, zQ, zN, zS, zM, zX, zU, Nat.reduceEqDiff, reduceIte]; try rfl) (Nat.zero_le _) ?_
 intro m hm
 by_cases hml : m < SP.length
 ·obtain ⟨s, hs⟩ : ∃ s, SP[m] = s := ⟨_, rfl⟩
  have hsm : s ∈ SP := hs ▸ List.getElem_mem hml
  obtain ⟨hL, k1, k2⟩ := hin s hsm
  obtain ⟨b1, b2, b3, b4⟩ := hbd s hsm
  obtain ⟨l1, l2, -, l3, l4, -⟩ := hL
  (repeat first | refine zE ?_ | refine zA ?_ | refine zC ?_ | refine zB ?_ | refine zD ?_); refine zJ (fun K hK => ?_); simp (maxSteps := 2000000) (disch := omega) only [push_cast, ↓Int.cast_ofNat_Int, Nat.reduceBEq, Nat.reduceAdd, Nat.reduceLT, Nat.reduceEqDiff, reduceIte, reduceCtorEq, Nat.reduceLeDiff, Nat.reduceSub, List.reduceReplicate, Nat.reduceMul, Int.reduceToNat, Int.toNat_natCast, Nat.reducePow, reduceIte, sps_len]; refine hK _ ?_; clear hK K
  (repeat first | refine zE ?_ | refine zA ?_ | refine zC ?_ | refine zB ?_ | refine zD ?_)
  refine yD rfl ?_
  (repeat first | refine zK ?_ | refine zG ?_ | refine zH ?_ | refine zF rfl ?_ | refine zL ?_ | refine zB ?_ | refine zE ?_ | refine zA ?_ | refine zC ?_ | refine zT ?_ | refine zW ?_)
  obtain ⟨mn, hmn⟩ : ∃ mn, mn = min r s.a0 := ⟨_, rfl⟩
  obtain ⟨mx, hmx⟩ : ∃ mx, mx = min r (a.length - s.a1) := ⟨_, rfl⟩
  have em1 : (if (s.a0 : Int) < (r : Int) then (s.a0 : Int) else (r : Int)) = (mn : Int) := by split <;> omega
  have em2 : (if (a.length : Int) - (s.a1 : Int) < (r : Int) then (a.length : Int) - (s.a1 : Int) else (r : Int)) = (mx : Int) := by split <;> omega
  have c1 := least_H (r : Int) (s.a0 : Int)
  have c2 := least_H (r : Int) ((a.length : Int) - (s.a1 : Int))
  rw [em1] at c1
  rw [em2] at c2
  (repeat first | refine zE ?_ | refine zA ?_ | refine zC ?_ | refine zB ?_ | refine zD ?_)
  (repeat first | refine zE ?_ | refine zA ?_ | refine zC ?_ | refine zB ?_ | refine zD ?_); refine zJ (fun K hK => ?_); simp (maxSteps := 2000000) (disch := omega) only [push_cast, ↓Int.cast_ofNat_Int, Nat.reduceBEq, Nat.reduceAdd, Nat.reduceLT, Nat.reduceEqDiff, reduceIte, reduceCtorEq, Nat.reduceLeDiff, Nat.reduceSub, List.reduceReplicate, Nat.reduceMul, Int.reduceToNat, Int.toNat_natCast, Nat.reducePow, reduceIte, sps_len, sps_wid, sps_get hml, hs]
  refine hatv cl12 c1 (.cons (.v _) (.cons (.v _) .nil)) ?_
  with_reducible refine hstop ?_; simp (maxSteps := 2000000) (disch := omega) only [push_cast, ↓Int.cast_ofNat_Int, Nat.reduceBEq, Nat.reduceAdd, Nat.reduceLT, Nat.reduceEqDiff, reduceIte, reduceCtorEq, Nat.reduceLeDiff, Nat.reduceSub, List.reduceReplicate, Nat.reduceMul, Int.reduceToNat, Int.toNat_natCast, Nat.reducePow, reduceIte]
  refine hK _ ?_; clear hK K
  (repeat first | refine zE ?_ | refine zA ?_ | refine zC ?_ | refine zB ?_ | refine zD ?_)
  (repeat first | refine zE ?_ | refine zA ?_ | refine zC ?_ | refine zB ?_ | refine zD ?_); refine zJ (fun K hK => ?_); simp (maxSteps := 2000000) (disch := omega) only [push_cast, ↓Int.cast_ofNat_Int, Nat.reduceBEq, Nat.reduceAdd, Nat.reduceLT, Nat.reduceEqDiff, reduceIte, reduceCtorEq, Nat.reduceLeDiff, Nat.reduceSub, List.reduceReplicate, Nat.reduceMul, Int.reduceToNat, Int.toNat_natCast, Nat.reducePow, reduceIte, strs_len, sps_len, sps_wid, sps_get hml, hs]
  refine hatv cl12 c2 (.cons (.v _) (.cons (.v _) .nil)) ?_
  with_reducible refine hstop ?_; simp (maxSteps := 2000000) (disch := omega) only [push_cast, ↓Int.cast_ofNat_Int, Nat.reduceBEq, Nat.reduceAdd, Nat.reduceLT, Nat.reduceEqDiff, reduceIte, reduceCtorEq, Nat.reduceLeDiff, Nat.reduceSub, List.reduceReplicate, Nat.reduceMul, Int.reduceToNat, Int.toNat_natCast, Nat.reducePow, reduceIte]
  refine hK _ ?_; clear hK K
  refine yB [0, 1, 2, 8, 9, 10, 11, 12] [232, 9000] (by simp only [zZ, zR, zP, zQ, zN, zS, zM, zX, zU, Nat.reduceEqDiff, reduceIte]; exact rfl) ?_
  obtain ⟨lo, hlo⟩ : ∃ x, x = s.a0 - mn := ⟨_, rfl⟩
  obtain ⟨hi, hhi⟩ : ∃ x, x = s.a1 + mx := ⟨_, rfl⟩
  obtain ⟨lo2, hlo2⟩ : ∃ x, x = s.b0 - mn := ⟨_, rfl⟩
  obtain ⟨hi2, hhi2⟩ : ∃ x, x = s.b1 + mx := ⟨_, rfl⟩
  have el1 : (s.a0 : Int) - (mn : Int) = (lo : Int) := by omega
  have el2 : (s.a1 : Int) + (mx : Int) = (hi : Int) := by omega
  have el3 : (s.b0 : Int) - (mn : Int) = (lo2 : Int) := by omega
  have el4 : (s.b1 : Int) + (mx : Int) = (hi2 : Int) := by omega
  have hhk : hunkOf a b r s = ⟨lo, (a.take hi).drop lo, (b.take hi2).drop lo2⟩ := by simp only [hunkOf, ← hmn, ← hmx, ← hlo, ← hhi, ← hlo2, ← hhi2]
  rw [← hmn] at k1
  rw [← hmx] at k2
  have q1 : lo ≤ hi ∧ hi ≤ a.length := by omega
  have q2 : lo2 ≤ hi2 ∧ hi2 ≤ b.length := by omega
  have hlen : ((SP.take m).map (hunkOf a b r)).length = m := by rw [List.length_map, List.length_take]; omega
  (repeat first | refine zE ?_ | refine zA ?_ | refine zC ?_ | refine zB ?_ | refine zD ?_); refine HW_drwR2 42 mixed (by kernel_rfl) (fun K hK K1 hK1 => ?_); simp (maxSteps := 2000000) (disch := omega) only [push_cast, ↓Int.cast_ofNat_Int, Nat.reduceBEq, Nat.reduceAdd, Nat.reduceLT, Nat.reduceEqDiff, reduceIte, reduceCtorEq, Nat.reduceLeDiff, Nat.reduceSub, List.reduceReplicate, Nat.reduceMul, Int.reduceToNat, Int.toNat_natCast, Nat.reducePow, reduceIte, el1, el2, el3, el4, strs_len, strs_wid, strs_take, strs_drop, sps_len, sps_wid, sps_get hml, hs]
  refine hK1 _ ?_; (try clear hK1 K1); with_reducible refine hstop ?_; simp (maxSteps := 2000000) (disch := omega) only [push_cast, ↓Int.cast_ofNat_Int, Nat.reduceBEq, Nat.reduceAdd, Nat.reduceLT, Nat.reduceEqDiff, reduceIte, reduceCtorEq, Nat.reduceLeDiff, Nat.reduceSub, List.reduceReplicate, Nat.reduceMul, Int.reduceToNat, Int.toNat_natCast, Nat.reducePow, reduceIte, hks_len, hlen]
  refine ⟨by intro x hx; simp at hx; subst hx; rfl, ?_⟩
  refine hK _ ?_; clear hK K
  (repeat first | refine zK ?_ | refine zG ?_ | refine zH ?_ | refine zF rfl ?_ | refine zL ?_ | refine zB ?_ | refine zE ?_ | refine zA ?_ | refine zC ?_ | refine zT ?_ | refine zW ?_)
  (repeat first | refine zE ?_ | refine zA ?_ | refine zC ?_ | refine zB ?_ | refine zD ?_); refine zJ (fun K hK => ?_); simp (maxSteps := 2000000) (disch := omega) only [push_cast, ↓Int.cast_ofNat_Int, Nat.reduceBEq, Nat.reduceAdd, Nat.reduceLT, Nat.reduceEqDiff, reduceIte, reduceCtorEq, Nat.reduceLeDiff, Nat.reduceSub, List.reduceReplicate, Nat.reduceMul, Int.reduceToNat, Int.toNat_natCast, Nat.reducePow, reduceIte]; refine hK _ ?_; clear hK K
  (repeat first | refine zK ?_ | refine zG ?_ | refine zH ?_ | refine zF rfl ?_ | refine zL ?_ | refine zB ?_ | refine zE ?_ | refine zA ?_ | refine zC ?_ | refine zT ?_ | refine zW ?_)
  refine ⟨m + 1, ?_, hml, by omega⟩
  simp only [zZ, zR, zP, zQ, zN, zS, zM, zX, zU, Nat.reduceEqDiff, reduceIte]
  rw [List.take_succ_eq_append_getElem hml, hs, List.map_append, List.map_singleton, hhk]
  simp only [hks_snoc]
  exact rfl
 ·have hne : m = SP.length := by omega
  subst hne
  (repeat first | refine zE ?_ | refine zA ?_ | refine zC ?_ | refine zB ?_ | refine zD ?_); refine zJ (fun K hK => ?_); simp (maxSteps := 2000000) (disch := omega) only [push_cast, ↓Int.cast_ofNat_Int, Nat.reduceBEq, Nat.reduceAdd, Nat.reduceLT, Nat.reduceEqDiff, reduceIte, reduceCtorEq, Nat.reduceLeDiff, Nat.reduceSub, List.reduceReplicate, Nat.reduceMul, Int.reduceToNat, Int.toNat_natCast, Nat.reducePow, reduceIte, sps_len]; refine hK _ ?_; clear hK K
  (repeat first | refine zE ?_ | refine zA ?_ | refine zC ?_ | refine zB ?_ | refine zD ?_)
  refine yC rfl ?_
  (repeat first | refine zK ?_ | refine zG ?_ | refine zH ?_ | refine zF rfl ?_ | refine zL ?_ | refine zB ?_ | refine zE ?_ | refine zA ?_ | refine zC ?_ | refine zT ?_ | refine zW ?_)
  (repeat first | refine zE ?_ | refine zA ?_ | refine zC ?_ | refine zB ?_ | refine zD ?_); refine zJ (fun K hK => ?_); simp (maxSteps := 2000000) (disch := omega) only [push_cast, ↓Int.cast_ofNat_Int, Nat.reduceBEq, Nat.reduceAdd, Nat.reduceLT, Nat.reduceEqDiff, reduceIte, reduceCtorEq, Nat.reduceLeDiff, Nat.reduceSub, List.reduceReplicate, Nat.reduceMul, Int.reduceToNat, Int.toNat_natCast, Nat.reducePow, reduceIte]; refine hK _ ?_; clear hK K
  (repeat first | refine zE ?_ | refine zA ?_ | refine zC ?_ | refine zB ?_ | refine zD ?_)
  refine yB [7, 6] [9000] (by simp only [zZ, zR, zP, zQ, zN, zS, zM, zX, zU, Nat.reduceEqDiff, reduceIte]; exact rfl) ?_
  (repeat first | refine zK ?_ | refine zG ?_ | refine zH ?_ | refine zF rfl ?_ | refine zL ?_ | refine zB ?_ | refine zE ?_ | refine zA ?_ | refine zC ?_ | refine zT ?_ | refine zW ?_)
  rw [List.take_length]
  simp only [hfunVQ, yH, yE, yK, yJ, zS, zM, Nat.reduceEqDiff, reduceIte, reduceCtorEq]
  exact hresV_ov rfl (.inr (.inr ⟨by omega, by omega, by omega, rfl, rfl⟩))
end Go.Proofs.Ytfojmpimnidmkaa
