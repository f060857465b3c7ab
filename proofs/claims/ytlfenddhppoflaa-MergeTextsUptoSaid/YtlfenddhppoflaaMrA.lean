/- What the walk of the law stands on. -/
import Derived.Test.YtlfenddhppoflaaScr
import Derived.Test.YtlfenddhppoflaaMgB
import Derived.Test.YtlfenddhppoflaaChn
set_option linter.unusedSimpArgs false
set_option linter.unusedVariables false
set_option maxRecDepth 20000
namespace Go.Proofs.Ytlfenddhppoflaa
open Go Go.Eng Go.RowKit Go.DiffM

def trE (t : Nat × Nat × Nat) : List FV := [.v (.int .i64 t.1), .v (.int .i64 t.2.1), .v (.int .i64 t.2.2)]
def trips (l : List (Nat × Nat × Nat)) : List (List FV) := l.map trE
abbrev rowTr (l : List (Nat × Nat × Nat)) : Row := .sl true 114 3 (trips l)
theorem trips_len (l : List (Nat × Nat × Nat)) : (trips l).length = l.length := by simp [trips]
theorem trips_snoc (l : List (Nat × Nat × Nat)) (t : Nat × Nat × Nat) : trips l ++ [[.v (.int .i64 (t.1 : Nat)), .v (.int .i64 (t.2.1 : Nat)), .v (.int .i64 (t.2.2 : Nat))]] = trips (l ++ [t]) := by simp [trips, trE]
theorem trips_wid (l : List (Nat × Nat × Nat)) : Wid 3 (trips l) = True := eq_true (wid_map l fun _ => rfl)
theorem trips_get {l : List (Nat × Nat × Nat)} {i : Nat} {d : List FV} (h : i < l.length) : (trips l).getD i d = [.v (.int .i64 (l[i].1 : Nat)), .v (.int .i64 (l[i].2.1 : Nat)), .v (.int .i64 (l[i].2.2 : Nat))] := by unfold trips; rw [getD_map h]; rfl
theorem trips_fresh (l : List (Nat × Nat × Nat)) : ∀ x ∈ trips l, ∀ f ∈ x, FreshF f := fun x hx f hf => by
 obtain ⟨t, -, rfl⟩ := List.mem_map.1 hx
 simp only [trE, List.mem_cons, List.not_mem_nil, or_false] at hf
 rcases hf with rfl | rfl | rfl <;> exact .v _
def tri1 (p : Nat × Nat) (y : List (Nat × Nat)) : List (Nat × Nat × Nat) := (y.filter fun q => p.1 == q.1).map fun q => (p.1, p.2, q.2)
theorem tri_take {x y : List (Nat × Nat)} {i : Nat} (h : i < x.length) : tri (x.take (i + 1)) y = tri (x.take i) y ++ tri1 x[i] y := by
 rw [List.take_succ_eq_append_getElem h]
 simp only [tri, tri1, List.flatMap_append, List.flatMap_cons, List.flatMap_nil, List.append_nil]
theorem tri1_take {p : Nat × Nat} {y : List (Nat × Nat)} {j : Nat} (h : j < y.length) : tri1 p (y.take (j + 1)) = tri1 p (y.take j) ++ (if p.1 = y[j].1 then [(p.1, p.2, y[j].2)] else []) := by
 rw [List.take_succ_eq_append_getElem h, tri1, List.filter_append, List.map_append]
 congr 1
 by_cases e : p.1 = y[j].1
 ·simp [e]
 ·simp [e]
theorem tri1_len (p : Nat × Nat) (y : List (Nat × Nat)) : (tri1 p y).length ≤ y.length := by
 rw [tri1, List.length_map]; exact List.length_filter_le ..
theorem tri_len (x y : List (Nat × Nat)) : (tri x y).length ≤ x.length * y.length := by
 induction x with
 | nil => simp [tri]
 | cons p r ih =>
  have h := tri1_len p y
  have e : tri (p :: r) y = tri1 p y ++ tri r y := by simp [tri, tri1]
  rw [e, List.length_append, List.length_cons, Nat.add_mul, Nat.one_mul]
  omega
def rtE (x y : List (Nat × Nat)) (l : List (Nat × Nat × Nat)) (i : Nat) : HS := ⟨[(7, .lst true (int2s (x.map pairI))), (9, .lst true (int2s (y.map pairI))), (11, .own 9000), (12, .v (.int .i64 i))], [(9000, rowTr l)]⟩
def rtF (x y : List (Nat × Nat)) (l : List (Nat × Nat × Nat)) (i j : Nat) : HS := ⟨[(7, .lst true (int2s (x.map pairI))), (9, .lst true (int2s (y.map pairI))), (11, .own 9000), (12, .v (.int .i64 i)), (13, .v (.int .i64 j))], [(9000, rowTr l)]⟩
set_option maxHeartbeats 8000000 in
theorem refStable_H (o a b : List ByteArray) (ho : o.length ≤ 400) (ha : a.length ≤ 400) (hb : b.length ≤ 400) : HFun Try.prog 71 [.lst false (strs o), .lst false (strs a), .lst false (strs b)] (fun h st =>
  h = .own 0 ∧ st = [(0, rowTr (tri (kn o a) (kn o b)))]) := by
 refine hfun (N := 69) Try.func71 rfl Try.ntmps71 Try.results71 (by simp) ?_
 (repeat first | refine qE ?_ | refine qA ?_ | refine qC ?_ | refine qB ?_ | refine qD ?_); refine qJ (fun K hK => ?_); simp (maxSteps := 2000000) (disch := omega) only [push_cast, ↓Int.cast_ofNat_Int, Nat.reduceBEq, Nat.reduceAdd, Nat.reduceLT, Nat.reduceEqDiff, reduceIte, reduceCtorEq, Nat.reduceLeDiff, Nat.reduceSub, List.reduceReplicate, Nat.reduceMul, Int.reduceToNat, Nat.reducePow]; refine hK _ ?_; clear hK K
 (repeat first | refine qE ?_ | refine qA ?_ | refine qC ?_ | refine qB ?_ | refine qD ?_); refine qJ (fun K hK => ?_); simp (maxSteps := 2000000) (disch := omega) only [push_cast, ↓Int.cast_ofNat_Int, Nat.reduceBEq, Nat.reduceAdd, Nat.reduceLT, Nat.reduceEqDiff, reduceIte, reduceCtorEq, Nat.reduceLeDiff, Nat.reduceSub, List.reduceReplicate, Nat.reduceMul, Int.reduceToNat, Nat.reducePow]
 refine hat 136 cl26 (refKept_H o a) (.cons (lendL (strs_old _)) (.cons (lendL (strs_old _)) .nil)) ?_
 rintro _ _ (⟨hlim, rfl, rfl⟩ | ⟨-, -, rfl, rfl⟩)
 ·omega
 rw [keptP_kn]
 with_reducible refine hstop ?_; simp (maxSteps := 2000000) (disch := omega) only [push_cast, ↓Int.cast_ofNat_Int, Nat.reduceBEq, Nat.reduceAdd, Nat.reduceLT, Nat.reduceEqDiff, reduceIte, reduceCtorEq, Nat.reduceLeDiff, Nat.reduceSub, List.reduceReplicate, Nat.reduceMul, Int.reduceToNat, Nat.reducePow]
 refine hK _ ?_; clear hK K
 refine zB [0, 2, 7] [136] (by simp only [qZ, qR, qP, qQ, qN, qS, qM, qX, qU, Nat.reduceEqDiff, reduceIte]; exact rfl) ?_
 refine HW_restS 136 rfl (by simp only [rest_eq, esub_nil, esub_cons, ssub_nil, ssub_cons, hsub_v, hsub_lst, hsub_elt, hsub_junk, hsub_own, hsub_ptr, hsub_vw, hsub_agg, hsub_tup, rsub_sl, rsub_hl, rsub_bx, Nat.reduceEqDiff, reduceIte, List.map_cons, List.map_nil, List.map_append]; exact rfl) ?_
 (repeat first | refine qE ?_ | refine qA ?_ | refine qC ?_ | refine qB ?_ | refine qD ?_); refine qJ (fun K hK => ?_); simp (maxSteps := 2000000) (disch := omega) only [push_cast, ↓Int.cast_ofNat_Int, Nat.reduceBEq, Nat.reduceAdd, Nat.reduceLT, Nat.reduceEqDiff, reduceIte, reduceCtorEq, Nat.reduceLeDiff, Nat.reduceSub, List.reduceReplicate, Nat.reduceMul, Int.reduceToNat, Nat.reducePow]
 refine hat 184 cl26 (refKept_H o b) (.cons (lendL (strs_old _)) (.cons (lendL (strs_old _)) .nil)) ?_
 rintro _ _ (⟨hlim, rfl, rfl⟩ | ⟨-, -, rfl, rfl⟩)
 ·omega
 rw [keptP_kn]
 with_reducible refine hstop ?_; simp (maxSteps := 2000000) (disch := omega) only [push_cast, ↓Int.cast_ofNat_Int, Nat.reduceBEq, Nat.reduceAdd, Nat.reduceLT, Nat.reduceEqDiff, reduceIte, reduceCtorEq, Nat.reduceLeDiff, Nat.reduceSub, List.reduceReplicate, Nat.reduceMul, Int.reduceToNat, Nat.reducePow]
 refine hK _ ?_; clear hK K
 refine zB [7, 9] [184] (by simp only [qZ, qR, qP, qQ, qN, qS, qM, qX, qU, Nat.reduceEqDiff, reduceIte]; exact rfl) ?_
 refine HW_restS 184 rfl (by simp only [rest_eq, esub_nil, esub_cons, ssub_nil, ssub_cons, hsub_v, hsub_lst, hsub_elt, hsub_junk, hsub_own, hsub_ptr, hsub_vw, hsub_agg, hsub_tup, rsub_sl, rsub_hl, rsub_bx, Nat.reduceEqDiff, reduceIte, List.map_cons, List.map_nil, List.map_append]; exact rfl) ?_
 have hX : (kn o a).length ≤ 400 := by have := (kn_ok o a).len; omega
 have hY : (kn o b).length ≤ 400 := by have := (kn_ok o b).len; omega
 generalize kn o a = x at *
 generalize kn o b = y at *
 (repeat first | refine qE ?_ | refine qA ?_ | refine qC ?_ | refine qB ?_ | refine qD ?_); refine qJ (fun K hK => ?_); simp (maxSteps := 2000000) (disch := omega) only [push_cast, ↓Int.cast_ofNat_Int, Nat.reduceBEq, Nat.reduceAdd, Nat.reduceLT, Nat.reduceEqDiff, reduceIte, reduceCtorEq, Nat.reduceLeDiff, Nat.reduceSub, List.reduceReplicate, Nat.reduceMul, Int.reduceToNat, Nat.reducePow]; refine hK _ ?_; clear hK K
 refine HW_ownS 11 9000 114 3 rfl (by simp only [kill_eq, row_eq, rep_eq, ekill_nil, ekill_cons, skill_nil, skill_cons, hkill_v, hkill_lst, hkill_own, hkill_ptr, hkill_vw, hkill_agg, hkill_tup, hkill_junk, rkill_sl, rkill_bx, rkill_hl, only_eq, hrep_nil, hrep_cons, Nat.reduceBEq, Nat.reduceEqDiff, reduceIte, cond_true, cond_false, List.map_cons, List.map_nil]; exact rfl) ?_
 (repeat first | refine qE ?_ | refine qA ?_ | refine qC ?_ | refine qB ?_ | refine qD ?_); refine qJ (fun K hK => ?_); simp (maxSteps := 2000000) (disch := omega) only [push_cast, ↓Int.cast_ofNat_Int, Nat.reduceBEq, Nat.reduceAdd, Nat.reduceLT, Nat.reduceEqDiff, reduceIte, reduceCtorEq, Nat.reduceLeDiff, Nat.reduceSub, List.reduceReplicate, Nat.reduceMul, Int.reduceToNat, Nat.reducePow]; refine hK _ ?_; clear hK K
 (repeat first | refine qE ?_ | refine qA ?_ | refine qC ?_ | refine qB ?_ | refine qD ?_)
 have hxl : (int2s (x.map pairI)).length = x.length := by rw [int2s_len, List.length_map]
 have hyl : (int2s (y.map pairI)).length = y.length := by rw [int2s_len, List.length_map]
 refine HW_loop (fun i => rtE x y (tri (x.take i) y) i) (fun i => i ≤ x.length) (fun i => x.length - i) [7, 9, 11, 12] [9000] 0 (by simp only [qZ, qR, qP, qQ, qN, qS, qM, qX, qU, Nat.reduceEqDiff, reduceIte, rtE]; try rfl) (Nat.zero_le _) ?_
 intro i hi
 simp only [rtE]
 by_cases hlt : i < x.length
 ·obtain ⟨p, q, hpq⟩ : ∃ p q, x[i] = (p, q) := ⟨x[i].1, x[i].2, rfl⟩
  have gx : ∀ d, (int2s (x.map pairI)).getD i d = [.v (.int .i64 (p : Nat)), .v (.int .i64 (q : Nat))] := fun d => by
   rw [int2s_get (by rw [List.length_map]; exact hlt), List.getElem_map, hpq]; rfl
  have hsucc : tri (x.take (i + 1)) y = tri (x.take i) y ++ tri1 (p, q) y := by rw [tri_take hlt, hpq]
  have hB : (tri (x.take i) y).length ≤ 400 * 400 := Nat.le_trans (tri_len _ _) (Nat.mul_le_mul (by rw [List.length_take]; omega) hY)
  generalize tri (x.take i) y = l at *
  (repeat first | refine qE ?_ | refine qA ?_ | refine qC ?_ | refine qB ?_ | refine qD ?_); refine qJ (fun K hK => ?_); simp (maxSteps := 2000000) (disch := omega) only [push_cast, ↓Int.cast_ofNat_Int, Nat.reduceBEq, Nat.reduceAdd, Nat.reduceLT, Nat.reduceEqDiff, reduceIte, reduceCtorEq, Nat.reduceLeDiff, Nat.reduceSub, List.reduceReplicate, Nat.reduceMul, Int.reduceToNat, Nat.reducePow, hxl]; refine hK _ ?_; clear hK K
  (repeat first | refine qE ?_ | refine qA ?_ | refine qC ?_ | refine qB ?_ | refine qD ?_)
  refine zD rfl ?_
  (repeat first | refine qK ?_ | refine qG ?_ | refine qH ?_ | refine qF rfl ?_ | refine qL ?_ | refine qB ?_ | refine qE ?_ | refine qA ?_ | refine qC ?_ | refine qT ?_ | refine qW ?_)
  (repeat first | refine qE ?_ | refine qA ?_ | refine qC ?_ | refine qB ?_ | refine qD ?_); refine qJ (fun K hK => ?_); simp (maxSteps := 2000000) (disch := omega) only [push_cast, ↓Int.cast_ofNat_Int, Nat.reduceBEq, Nat.reduceAdd, Nat.reduceLT, Nat.reduceEqDiff, reduceIte, reduceCtorEq, Nat.reduceLeDiff, Nat.reduceSub, List.reduceReplicate, Nat.reduceMul, Int.reduceToNat, Nat.reducePow]; refine hK _ ?_; clear hK K
  (repeat first | refine qE ?_ | refine qA ?_ | refine qC ?_ | refine qB ?_ | refine qD ?_)
  refine HW_loop (fun j => rtF x y (l ++ tri1 (p, q) (y.take j)) i j) (fun j => j ≤ y.length) (fun j => y.length - j) [7, 9, 11, 12, 13] [9000] 0 (by simp only [qZ, qR, qP, qQ, qN, qS, qM, qX, qU, Nat.reduceEqDiff, reduceIte, rtF, List.take_zero, show tri1 (p, q) [] = [] from rfl, List.append_nil]; try rfl) (Nat.zero_le _) ?_
  intro j hj
  simp only [rtF]
  by_cases hjt : j < y.length
  ·obtain ⟨r, s, hrs⟩ : ∃ r s, y[j] = (r, s) := ⟨y[j].1, y[j].2, rfl⟩
   have gy : ∀ d, (int2s (y.map pairI)).getD j d = [.v (.int .i64 (r : Nat)), .v (.int .i64 (s : Nat))] := fun d => by
    rw [int2s_get (by rw [List.length_map]; exact hjt), List.getElem_map, hrs]; rfl
   have hnx : tri1 (p, q) (y.take (j + 1)) = tri1 (p, q) (y.take j) ++ (if p = r then [(p, q, s)] else []) := by rw [tri1_take hjt, hrs]
   have hT := tri1_len (p, q) (y.take j)
   rw [List.length_take] at hT
   generalize tri1 (p, q) (y.take j) = m at *
   (repeat first | refine qE ?_ | refine qA ?_ | refine qC ?_ | refine qB ?_ | refine qD ?_); refine qJ (fun K hK => ?_); simp (maxSteps := 2000000) (disch := omega) only [push_cast, ↓Int.cast_ofNat_Int, Nat.reduceBEq, Nat.reduceAdd, Nat.reduceLT, Nat.reduceEqDiff, reduceIte, reduceCtorEq, Nat.reduceLeDiff, Nat.reduceSub, List.reduceReplicate, Nat.reduceMul, Int.reduceToNat, Nat.reducePow, hyl]; refine hK _ ?_; clear hK K
   (repeat first | refine qE ?_ | refine qA ?_ | refine qC ?_ | refine qB ?_ | refine qD ?_)
   refine zD rfl ?_
   (repeat first | refine qK ?_ | refine qG ?_ | refine qH ?_ | refine qF rfl ?_ | refine qL ?_ | refine qB ?_ | refine qE ?_ | refine qA ?_ | refine qC ?_ | refine qT ?_ | refine qW ?_)
   by_cases e : p = r
   ·subst e
    (repeat first | refine qE ?_ | refine qA ?_ | refine qC ?_ | refine qB ?_ | refine qD ?_); refine HW_drw 11 mixed (by kernel_rfl) (fun K hK => ?_); simp (maxSteps := 2000000) (disch := omega) only [push_cast, ↓Int.cast_ofNat_Int, Nat.reduceBEq, Nat.reduceAdd, Nat.reduceLT, Nat.reduceEqDiff, reduceIte, reduceCtorEq, Nat.reduceLeDiff, Nat.reduceSub, List.reduceReplicate, Nat.reduceMul, Int.reduceToNat, Nat.reducePow, hxl, hyl, gx, gy, int2s_wid]
    with_reducible refine hstop ?_; simp (maxSteps := 2000000) (disch := omega) only [push_cast, ↓Int.cast_ofNat_Int, Nat.reduceBEq, Nat.reduceAdd, Nat.reduceLT, Nat.reduceEqDiff, reduceIte, reduceCtorEq, Nat.reduceLeDiff, Nat.reduceSub, List.reduceReplicate, Nat.reduceMul, Int.reduceToNat, Nat.reducePow, hxl, hyl, gx, gy, int2s_wid]
    refine hK _ ?_; clear hK K
    refine zD rfl ?_
    have hsn : trips (l ++ m) ++ [[.v (.int .i64 (p : Nat)), .v (.int .i64 (q : Nat)), .v (.int .i64 (s : Nat))]] = trips (l ++ m ++ [(p, q, s)]) := trips_snoc (l ++ m) (p, q, s)
    have hw1 : Wid 3 [[FV.v (.int .i64 (p : Nat)), FV.v (.int .i64 (q : Nat)), FV.v (.int .i64 (s : Nat))]] = True := trips_wid [(p, q, s)]
    have hln : (trips (l ++ m)).length = l.length + m.length := by rw [trips_len, List.length_append]
    refine zB [7, 9, 11, 12, 13] [9000] (by simp only [qZ, qR, qP, qQ, qN, qS, qM, qX, qU, Nat.reduceEqDiff, reduceIte]; exact rfl) ?_
    (repeat first | refine qE ?_ | refine qA ?_ | refine qC ?_ | refine qB ?_ | refine qD ?_); refine HW_drwC 19 [(18, some 9000)] [[(9000, rowTr (l ++ m))], [(9000, rowTr (l ++ m ++ [(p, q, s)]))]] [(0, 0, 0)] mixed (by kernel_rfl) (by kernel_rfl) rfl (fun K hK K1 hK1 => ?_); simp (maxSteps := 2000000) (disch := omega) only [push_cast, ↓Int.cast_ofNat_Int, Nat.reduceBEq, Nat.reduceAdd, Nat.reduceLT, Nat.reduceEqDiff, reduceIte, reduceCtorEq, Nat.reduceLeDiff, Nat.reduceSub, List.reduceReplicate, Nat.reduceMul, Int.reduceToNat, Nat.reducePow, nextW_nil, nextW_cons, rgOf_nil, rgOf_cons, kf_some, kf_no, stays_nil, stays_cons, strongK_store, strongK_copy, strongK_app, strongK_build, hwr2_go, hall_zero, hall_one, hall_two, hall_three, slotsW_store, slotsW_call, hvca_eq, hvcb_eq, hvce_eq, hvcw_some, hvcw_none, hvc1_none, hvc1_some, hvc_nil, hvcS_some, hvcS_none, hvc_cons, List.tail_cons, List.take_nil, List.drop_nil, implies_true, hxl, hyl, gx, gy, int2s_wid, hsn, hln, hw1]
    refine hK1 _ ?_; clear hK1 K1; with_reducible refine hstop ?_; simp (maxSteps := 2000000) (disch := omega) only [push_cast, ↓Int.cast_ofNat_Int, Nat.reduceBEq, Nat.reduceAdd, Nat.reduceLT, Nat.reduceEqDiff, reduceIte, reduceCtorEq, Nat.reduceLeDiff, Nat.reduceSub, List.reduceReplicate, Nat.reduceMul, Int.reduceToNat, Nat.reducePow]
    refine hK _ ?_; clear hK K
    (repeat first | refine qK ?_ | refine qG ?_ | refine qH ?_ | refine qF rfl ?_ | refine qL ?_ | refine qB ?_ | refine qE ?_ | refine qA ?_ | refine qC ?_ | refine qT ?_ | refine qW ?_)
    (repeat first | refine qE ?_ | refine qA ?_ | refine qC ?_ | refine qB ?_ | refine qD ?_); refine qJ (fun K hK => ?_); simp (maxSteps := 2000000) (disch := omega) only [push_cast, ↓Int.cast_ofNat_Int, Nat.reduceBEq, Nat.reduceAdd, Nat.reduceLT, Nat.reduceEqDiff, reduceIte, reduceCtorEq, Nat.reduceLeDiff, Nat.reduceSub, List.reduceReplicate, Nat.reduceMul, Int.reduceToNat, Nat.reducePow]; refine hK _ ?_; clear hK K
    (repeat first | refine qK ?_ | refine qG ?_ | refine qH ?_ | refine qF rfl ?_ | refine qL ?_ | refine qB ?_ | refine qE ?_ | refine qA ?_ | refine qC ?_ | refine qT ?_ | refine qW ?_)
    refine ⟨j + 1, by simp only [qZ, qR, qP, qQ, qN, qS, qM, qX, qU, Nat.reduceEqDiff, reduceIte, rtF]; rw [hnx, if_pos rfl, List.append_assoc]; try rfl, hjt, by omega⟩
   ·(repeat first | refine qE ?_ | refine qA ?_ | refine qC ?_ | refine qB ?_ | refine qD ?_); refine HW_drw 11 mixed (by kernel_rfl) (fun K hK => ?_); simp (maxSteps := 2000000) (disch := omega) only [push_cast, ↓Int.cast_ofNat_Int, Nat.reduceBEq, Nat.reduceAdd, Nat.reduceLT, Nat.reduceEqDiff, reduceIte, reduceCtorEq, Nat.reduceLeDiff, Nat.reduceSub, List.reduceReplicate, Nat.reduceMul, Int.reduceToNat, Nat.reducePow, hxl, hyl, gx, gy, int2s_wid]
    with_reducible refine hstop ?_; simp (maxSteps := 2000000) (disch := omega) only [push_cast, ↓Int.cast_ofNat_Int, Nat.reduceBEq, Nat.reduceAdd, Nat.reduceLT, Nat.reduceEqDiff, reduceIte, reduceCtorEq, Nat.reduceLeDiff, Nat.reduceSub, List.reduceReplicate, Nat.reduceMul, Int.reduceToNat, Nat.reducePow, hxl, hyl, gx, gy, int2s_wid]
    refine hK _ ?_; clear hK K
    refine zC rfl ?_
    (repeat first | refine qK ?_ | refine qG ?_ | refine qH ?_ | refine qF rfl ?_ | refine qL ?_ | refine qB ?_ | refine qE ?_ | refine qA ?_ | refine qC ?_ | refine qT ?_ | refine qW ?_)
    (repeat first | refine qE ?_ | refine qA ?_ | refine qC ?_ | refine qB ?_ | refine qD ?_); refine qJ (fun K hK => ?_); simp (maxSteps := 2000000) (disch := omega) only [push_cast, ↓Int.cast_ofNat_Int, Nat.reduceBEq, Nat.reduceAdd, Nat.reduceLT, Nat.reduceEqDiff, reduceIte, reduceCtorEq, Nat.reduceLeDiff, Nat.reduceSub, List.reduceReplicate, Nat.reduceMul, Int.reduceToNat, Nat.reducePow]; refine hK _ ?_; clear hK K
    (repeat first | refine qK ?_ | refine qG ?_ | refine qH ?_ | refine qF rfl ?_ | refine qL ?_ | refine qB ?_ | refine qE ?_ | refine qA ?_ | refine qC ?_ | refine qT ?_ | refine qW ?_)
    refine ⟨j + 1, by simp only [qZ, qR, qP, qQ, qN, qS, qM, qX, qU, Nat.reduceEqDiff, reduceIte, rtF]; rw [hnx, if_neg e, List.append_nil]; try rfl, hjt, by omega⟩
  ·have hjy : y.take j = y := List.take_of_length_le (by omega)
   rw [hjy]
   (repeat first | refine qE ?_ | refine qA ?_ | refine qC ?_ | refine qB ?_ | refine qD ?_); refine qJ (fun K hK => ?_); simp (maxSteps := 2000000) (disch := omega) only [push_cast, ↓Int.cast_ofNat_Int, Nat.reduceBEq, Nat.reduceAdd, Nat.reduceLT, Nat.reduceEqDiff, reduceIte, reduceCtorEq, Nat.reduceLeDiff, Nat.reduceSub, List.reduceReplicate, Nat.reduceMul, Int.reduceToNat, Nat.reducePow, hyl]; refine hK _ ?_; clear hK K
   (repeat first | refine qE ?_ | refine qA ?_ | refine qC ?_ | refine qB ?_ | refine qD ?_)
   refine zC rfl ?_
   (repeat first | refine qK ?_ | refine qG ?_ | refine qH ?_ | refine qF rfl ?_ | refine qL ?_ | refine qB ?_ | refine qE ?_ | refine qA ?_ | refine qC ?_ | refine qT ?_ | refine qW ?_)
   (repeat first | refine qE ?_ | refine qA ?_ | refine qC ?_ | refine qB ?_ | refine qD ?_); refine qJ (fun K hK => ?_); simp (maxSteps := 2000000) (disch := omega) only [push_cast, ↓Int.cast_ofNat_Int, Nat.reduceBEq, Nat.reduceAdd, Nat.reduceLT, Nat.reduceEqDiff, reduceIte, reduceCtorEq, Nat.reduceLeDiff, Nat.reduceSub, List.reduceReplicate, Nat.reduceMul, Int.reduceToNat, Nat.reducePow]; refine hK _ ?_; clear hK K
   (repeat first | refine qK ?_ | refine qG ?_ | refine qH ?_ | refine qF rfl ?_ | refine qL ?_ | refine qB ?_ | refine qE ?_ | refine qA ?_ | refine qC ?_ | refine qT ?_ | refine qW ?_)
   refine ⟨i + 1, by simp only [qZ, qR, qP, qQ, qN, qS, qM, qX, qU, Nat.reduceEqDiff, reduceIte, rtE]; rw [hsucc]; try rfl, hlt, by omega⟩
 ·have hfin : x.take i = x := List.take_of_length_le (by omega)
  rw [hfin]
  (repeat first | refine qE ?_ | refine qA ?_ | refine qC ?_ | refine qB ?_ | refine qD ?_); refine qJ (fun K hK => ?_); simp (maxSteps := 2000000) (disch := omega) only [push_cast, ↓Int.cast_ofNat_Int, Nat.reduceBEq, Nat.reduceAdd, Nat.reduceLT, Nat.reduceEqDiff, reduceIte, reduceCtorEq, Nat.reduceLeDiff, Nat.reduceSub, List.reduceReplicate, Nat.reduceMul, Int.reduceToNat, Nat.reducePow, hxl]; refine hK _ ?_; clear hK K
  (repeat first | refine qE ?_ | refine qA ?_ | refine qC ?_ | refine qB ?_ | refine qD ?_)
  refine zC rfl ?_
  (repeat first | refine qK ?_ | refine qG ?_ | refine qH ?_ | refine qF rfl ?_ | refine qL ?_ | refine qB ?_ | refine qE ?_ | refine qA ?_ | refine qC ?_ | refine qT ?_ | refine qW ?_)
  (repeat first | refine qE ?_ | refine qA ?_ | refine qC ?_ | refine qB ?_ | refine qD ?_); refine qJ (fun K hK => ?_); simp (maxSteps := 2000000) (disch := omega) only [push_cast, ↓Int.cast_ofNat_Int, Nat.reduceBEq, Nat.reduceAdd, Nat.reduceLT, Nat.reduceEqDiff, reduceIte, reduceCtorEq, Nat.reduceLeDiff, Nat.reduceSub, List.reduceReplicate, Nat.reduceMul, Int.reduceToNat, Nat.reducePow]; refine hK _ ?_; clear hK K
  (repeat first | refine qK ?_ | refine qG ?_ | refine qH ?_ | refine qF rfl ?_ | refine qL ?_ | refine qB ?_ | refine qE ?_ | refine qA ?_ | refine qC ?_ | refine qT ?_ | refine qW ?_)
  simp only [zA, zM, zH, zE, zK, zJ, qS, qM, Nat.reduceEqDiff, reduceIte, reduceCtorEq]
  exact hres_o rfl (trips_fresh _) ⟨rfl, rfl⟩
end Go.Proofs.Ytlfenddhppoflaa
