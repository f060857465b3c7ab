/- What the walk of the law stands on. -/
import Derived.Test.YtlfenddhppoflaaMrA
import Derived.Test.YtlfenddhppoflaaMgC
import Derived.Test.YtlfenddhppoflaaMgF
set_option linter.unusedSimpArgs false
set_option linter.unusedVariables false
set_option maxRecDepth 20000
namespace Go.Proofs.Ytlfenddhppoflaa
open Go Go.Eng Go.RowKit Go.DiffM


set_option maxHeartbeats 8000000 in
theorem ref_A (o a b : List ByteArray) (L : List (Nat × Nat × Nat)) (n i j k p q r : Nat) (out : List (Ck ByteArray)) (Q : HPost) (ho : o.length ≤ 400) (ha : a.length ≤ 400) (hb : b.length ≤ 400) (hn : n < L.length) (hL : L[n] = (p, q, r)) (hLl : L.length ≤ 200000)
  (hi : i ≤ p ∧ p ≤ o.length) (hj : j ≤ q ∧ q ≤ a.length) (hk : k ≤ r ∧ r ≤ b.length) (ho2 : out.length ≤ 400000)
  (hQ : ∀ S', S'.keep [10, 11, 12, 13, 14, 18] [9000] = ⟨[(10, .lst true (strs o)), (11, .lst true (strs a)), (12, .lst true (strs b)), (13, .lst true (trips L)), (14, .own 9000), (18, .v (.int .i64 n))], [(9000, .sl true 77 4 (cks (btO o a b i j k p q r out)))]⟩ → Q .normal S') :
  HW Try.prog 189 (cAt [1, 1, 1, 1, 1, 1, 1, 0, 1, 5, 4, 1, 0, 5, 0] (Try.f48.body.getD .skip)) Q ⟨[(10, .lst true (strs o)), (11, .lst true (strs a)), (12, .lst true (strs b)), (13, .lst true (trips L)), (14, .own 9000), (15, .v (.int .i64 i)), (16, .v (.int .i64 j)), (17, .v (.int .i64 k)), (18, .v (.int .i64 n))], [(9000, .sl true 77 4 (cks out))]⟩ := by
 unfold Try.f48
 dsimp only [Option.getD_some, cAt]
 have hll : (trips L).length = L.length := trips_len L
 have gL : ∀ d, (trips L).getD n d = [.v (.int .i64 (p : Nat)), .v (.int .i64 (q : Nat)), .v (.int .i64 (r : Nat))] := fun d => by rw [trips_get hn, hL]
 have push : (i < p ∨ j < q ∨ k < r) → btO o a b i j k p q r out = out ++ [⟨false, (o.take p).drop i, (a.take q).drop j, (b.take r).drop k⟩] := fun h => by rw [btO, betw, if_pos h]
 have stay : ¬ (i < p ∨ j < q ∨ k < r) → btO o a b i j k p q r out = out := fun h => by rw [btO, betw, if_neg h]
 have hw1 : Wid 4 [[FV.v (.bool false), .lst true (strs ((o.take p).drop i)), .lst true (strs ((a.take q).drop j)), .lst true (strs ((b.take r).drop k))]] = True := cks_wid [⟨false, (o.take p).drop i, (a.take q).drop j, (b.take r).drop k⟩]
 have cs : (i < p) ∨ (¬ i < p ∧ j < q) ∨ (¬ i < p ∧ ¬ j < q ∧ k < r) ∨ (¬ i < p ∧ ¬ j < q ∧ ¬ k < r) := by omega
 rcases cs with c1 | ⟨c1, c2⟩ | ⟨c1, c2, c3⟩ | ⟨c1, c2, c3⟩
 ·(repeat first | refine qE ?_ | refine qA ?_ | refine qC ?_ | refine qB ?_ | refine qD ?_); refine qJ (fun K hK => ?_); simp (maxSteps := 2000000) (disch := omega) only [push_cast, ↓Int.cast_ofNat_Int, Nat.reduceBEq, Nat.reduceAdd, Nat.reduceLT, Nat.reduceEqDiff, reduceIte, reduceCtorEq, Nat.reduceLeDiff, Nat.reduceSub, List.reduceReplicate, Nat.reduceMul, Int.reduceToNat, Nat.reducePow, hll, gL, trips_wid]; refine hK _ ?_; clear hK K
  refine zD rfl ?_
  refine zB [10, 11, 12, 13, 14, 15, 16, 17, 18] [9000] (by simp only [qZ, qR, qP, qQ, qN, qS, qM, qX, qU, Nat.reduceEqDiff, reduceIte]; exact rfl) ?_
  (repeat first | refine qE ?_ | refine qA ?_ | refine qC ?_ | refine qB ?_ | refine qD ?_); refine HW_drwC 28 [(27, some 9000)] [[(9000, .sl true 77 4 (cks out))], [(9000, .sl true 77 4 (cks (out ++ [⟨false, (o.take p).drop i, (a.take q).drop j, (b.take r).drop k⟩])))]] [(0, 0, 0)] mixed (by kernel_rfl) (by kernel_rfl) rfl (fun K hK K1 hK1 => ?_); simp (maxSteps := 2000000) (disch := omega) only [push_cast, ↓Int.cast_ofNat_Int, Nat.reduceBEq, Nat.reduceAdd, Nat.reduceLT, Nat.reduceEqDiff, reduceIte, reduceCtorEq, Nat.reduceLeDiff, Nat.reduceSub, List.reduceReplicate, Nat.reduceMul, Int.reduceToNat, Nat.reducePow, nextW_nil, nextW_cons, rgOf_nil, rgOf_cons, kf_some, kf_no, stays_nil, stays_cons, strongK_store, strongK_copy, strongK_app, strongK_build, hwr2_go, hall_zero, hall_one, hall_two, hall_three, slotsW_store, slotsW_call, hvca_eq, hvcb_eq, hvce_eq, hvcw_some, hvcw_none, hvc1_none, hvc1_some, hvc_nil, hvcS_some, hvcS_none, hvc_cons, List.tail_cons, List.take_nil, List.drop_nil, implies_true, hll, gL, trips_wid, strs_len, strs_wid, strs_take, strs_drop, cks_len, cks_snoc, hw1]
  refine hK1 _ ?_; clear hK1 K1; with_reducible refine hstop ?_; simp (maxSteps := 2000000) (disch := omega) only [push_cast, ↓Int.cast_ofNat_Int, Nat.reduceBEq, Nat.reduceAdd, Nat.reduceLT, Nat.reduceEqDiff, reduceIte, reduceCtorEq, Nat.reduceLeDiff, Nat.reduceSub, List.reduceReplicate, Nat.reduceMul, Int.reduceToNat, Nat.reducePow]
  refine hK _ ?_; clear hK K
  refine hQ _ ?_
  rw [push (.inl c1)]
  simp only [qZ, qR, qP, qQ, qN, qS, qM, qX, qU, Nat.reduceEqDiff, reduceIte]
 ·(repeat first | refine qE ?_ | refine qA ?_ | refine qC ?_ | refine qB ?_ | refine qD ?_); refine qJ (fun K hK => ?_); simp (maxSteps := 2000000) (disch := omega) only [push_cast, ↓Int.cast_ofNat_Int, Nat.reduceBEq, Nat.reduceAdd, Nat.reduceLT, Nat.reduceEqDiff, reduceIte, reduceCtorEq, Nat.reduceLeDiff, Nat.reduceSub, List.reduceReplicate, Nat.reduceMul, Int.reduceToNat, Nat.reducePow, hll, gL, trips_wid]; refine hK _ ?_; clear hK K
  refine zD rfl ?_
  refine zB [10, 11, 12, 13, 14, 15, 16, 17, 18] [9000] (by simp only [qZ, qR, qP, qQ, qN, qS, qM, qX, qU, Nat.reduceEqDiff, reduceIte]; exact rfl) ?_
  (repeat first | refine qE ?_ | refine qA ?_ | refine qC ?_ | refine qB ?_ | refine qD ?_); refine HW_drwC 28 [(27, some 9000)] [[(9000, .sl true 77 4 (cks out))], [(9000, .sl true 77 4 (cks (out ++ [⟨false, (o.take p).drop i, (a.take q).drop j, (b.take r).drop k⟩])))]] [(0, 0, 0)] mixed (by kernel_rfl) (by kernel_rfl) rfl (fun K hK K1 hK1 => ?_); simp (maxSteps := 2000000) (disch := omega) only [push_cast, ↓Int.cast_ofNat_Int, Nat.reduceBEq, Nat.reduceAdd, Nat.reduceLT, Nat.reduceEqDiff, reduceIte, reduceCtorEq, Nat.reduceLeDiff, Nat.reduceSub, List.reduceReplicate, Nat.reduceMul, Int.reduceToNat, Nat.reducePow, nextW_nil, nextW_cons, rgOf_nil, rgOf_cons, kf_some, kf_no, stays_nil, stays_cons, strongK_store, strongK_copy, strongK_app, strongK_build, hwr2_go, hall_zero, hall_one, hall_two, hall_three, slotsW_store, slotsW_call, hvca_eq, hvcb_eq, hvce_eq, hvcw_some, hvcw_none, hvc1_none, hvc1_some, hvc_nil, hvcS_some, hvcS_none, hvc_cons, List.tail_cons, List.take_nil, List.drop_nil, implies_true, hll, gL, trips_wid, strs_len, strs_wid, strs_take, strs_drop, cks_len, cks_snoc, hw1]
  refine hK1 _ ?_; clear hK1 K1; with_reducible refine hstop ?_; simp (maxSteps := 2000000) (disch := omega) only [push_cast, ↓Int.cast_ofNat_Int, Nat.reduceBEq, Nat.reduceAdd, Nat.reduceLT, Nat.reduceEqDiff, reduceIte, reduceCtorEq, Nat.reduceLeDiff, Nat.reduceSub, List.reduceReplicate, Nat.reduceMul, Int.reduceToNat, Nat.reducePow]
  refine hK _ ?_; clear hK K
  refine hQ _ ?_
  rw [push (.inr (.inl c2))]
  simp only [qZ, qR, qP, qQ, qN, qS, qM, qX, qU, Nat.reduceEqDiff, reduceIte]
 ·(repeat first | refine qE ?_ | refine qA ?_ | refine qC ?_ | refine qB ?_ | refine qD ?_); refine qJ (fun K hK => ?_); simp (maxSteps := 2000000) (disch := omega) only [push_cast, ↓Int.cast_ofNat_Int, Nat.reduceBEq, Nat.reduceAdd, Nat.reduceLT, Nat.reduceEqDiff, reduceIte, reduceCtorEq, Nat.reduceLeDiff, Nat.reduceSub, List.reduceReplicate, Nat.reduceMul, Int.reduceToNat, Nat.reducePow, hll, gL, trips_wid]; refine hK _ ?_; clear hK K
  refine zD rfl ?_
  refine zB [10, 11, 12, 13, 14, 15, 16, 17, 18] [9000] (by simp only [qZ, qR, qP, qQ, qN, qS, qM, qX, qU, Nat.reduceEqDiff, reduceIte]; exact rfl) ?_
  (repeat first | refine qE ?_ | refine qA ?_ | refine qC ?_ | refine qB ?_ | refine qD ?_); refine HW_drwC 28 [(27, some 9000)] [[(9000, .sl true 77 4 (cks out))], [(9000, .sl true 77 4 (cks (out ++ [⟨false, (o.take p).drop i, (a.take q).drop j, (b.take r).drop k⟩])))]] [(0, 0, 0)] mixed (by kernel_rfl) (by kernel_rfl) rfl (fun K hK K1 hK1 => ?_); simp (maxSteps := 2000000) (disch := omega) only [push_cast, ↓Int.cast_ofNat_Int, Nat.reduceBEq, Nat.reduceAdd, Nat.reduceLT, Nat.reduceEqDiff, reduceIte, reduceCtorEq, Nat.reduceLeDiff, Nat.reduceSub, List.reduceReplicate, Nat.reduceMul, Int.reduceToNat, Nat.reducePow, nextW_nil, nextW_cons, rgOf_nil, rgOf_cons, kf_some, kf_no, stays_nil, stays_cons, strongK_store, strongK_copy, strongK_app, strongK_build, hwr2_go, hall_zero, hall_one, hall_two, hall_three, slotsW_store, slotsW_call, hvca_eq, hvcb_eq, hvce_eq, hvcw_some, hvcw_none, hvc1_none, hvc1_some, hvc_nil, hvcS_some, hvcS_none, hvc_cons, List.tail_cons, List.take_nil, List.drop_nil, implies_true, hll, gL, trips_wid, strs_len, strs_wid, strs_take, strs_drop, cks_len, cks_snoc, hw1]
  refine hK1 _ ?_; clear hK1 K1; with_reducible refine hstop ?_; simp (maxSteps := 2000000) (disch := omega) only [push_cast, ↓Int.cast_ofNat_Int, Nat.reduceBEq, Nat.reduceAdd, Nat.reduceLT, Nat.reduceEqDiff, reduceIte, reduceCtorEq, Nat.reduceLeDiff, Nat.reduceSub, List.reduceReplicate, Nat.reduceMul, Int.reduceToNat, Nat.reducePow]
  refine hK _ ?_; clear hK K
  refine hQ _ ?_
  rw [push (.inr (.inr c3))]
  simp only [qZ, qR, qP, qQ, qN, qS, qM, qX, qU, Nat.reduceEqDiff, reduceIte]
 ·(repeat first | refine qE ?_ | refine qA ?_ | refine qC ?_ | refine qB ?_ | refine qD ?_); refine qJ (fun K hK => ?_); simp (maxSteps := 2000000) (disch := omega) only [push_cast, ↓Int.cast_ofNat_Int, Nat.reduceBEq, Nat.reduceAdd, Nat.reduceLT, Nat.reduceEqDiff, reduceIte, reduceCtorEq, Nat.reduceLeDiff, Nat.reduceSub, List.reduceReplicate, Nat.reduceMul, Int.reduceToNat, Nat.reducePow, hll, gL, trips_wid]; refine hK _ ?_; clear hK K
  refine zC rfl ?_
  refine qC ?_
  refine hQ _ ?_
  rw [stay (by omega)]
  simp only [qZ, qR, qP, qQ, qN, qS, qM, qX, qU, Nat.reduceEqDiff, reduceIte]
set_option maxHeartbeats 8000000 in
theorem ref_B (o a b : List ByteArray) (L : List (Nat × Nat × Nat)) (n p q r : Nat) (s : ByteArray) (out : List (Ck ByteArray)) (Q : HPost) (ho : o.length ≤ 400) (hp : p < o.length) (hs : o[p] = s) (ho2 : out.length ≤ 400000) (hok : ∀ c ∈ out, (c.st = true → c.b = c.l ∧ c.b = c.r) ∧ c.b.length ≤ 400)
  (hQ : ∀ S', S'.keep [10, 11, 12, 13, 14, 15, 16, 17, 18] [9000] = ⟨[(10, .lst true (strs o)), (11, .lst true (strs a)), (12, .lst true (strs b)), (13, .lst true (trips L)), (14, .own 9000), (15, .v (.int .i64 p)), (16, .v (.int .i64 q)), (17, .v (.int .i64 r)), (18, .v (.int .i64 n))], [(9000, .sl true 77 4 (cks (cadd out s)))]⟩ → Q .normal S') :
  HW Try.prog 189 (cAt [1, 1, 1, 1, 1, 1, 1, 0, 1, 5, 4, 1, 0, 5, 1, 1, 1, 1, 1, 0] (Try.f48.body.getD .skip)) Q ⟨[(10, .lst true (strs o)), (11, .lst true (strs a)), (12, .lst true (strs b)), (13, .lst true (trips L)), (14, .own 9000), (15, .v (.int .i64 p)), (16, .v (.int .i64 q)), (17, .v (.int .i64 r)), (18, .v (.int .i64 n)), (19, .lst true (strs [s])), (20, .v (.int .i64 ((out.length : Int) - 1)))], [(9000, .sl true 77 4 (cks out))]⟩ := by
 unfold Try.f48
 dsimp only [Option.getD_some, cAt]
 have go : ∀ d, (strs o).getD p d = [.v (.string s)] := fun d => by rw [strs_get hp, hs]
 have hw1 : Wid 4 [[FV.v (.bool true), .lst true (strs [s]), .lst true (strs [s]), .lst true (strs [s])]] = True := cks_wid [⟨true, [s], [s], [s]⟩]
 have hw2 : Wid 1 [[FV.v (.string s)]] = True := strs_wid [s]
 rcases cadd_cases out s with ⟨pre, c, rfl, hc, e⟩ | ⟨hl, e⟩
 ·obtain ⟨hcc, hcl⟩ := hok c (by simp)
  obtain ⟨e1, e2⟩ := hcc hc
  have hli : ((((pre ++ [c]).length : Nat) : Int) - 1) = (pre.length : Int) := by simp
  rw [hli]
  have hlen : (cks (pre ++ [c])).length = pre.length + 1 := by rw [cks_len]; simp
  have gc : ∀ d, (cks (pre ++ [c])).getD pre.length d = [.v (.bool true), .lst true (strs c.b), .lst true (strs c.l), .lst true (strs c.r)] := fun d => by
   rw [cks, getD_map (by simp)]; simp [ckE, hc]
  have hset : (cks (pre ++ [c])).set pre.length [.v (.bool true), .lst true (strs (c.b ++ [s])), .lst true (strs (c.b ++ [s])), .lst true (strs (c.b ++ [s]))] = cks (cadd (pre ++ [c]) s) := by
   rw [e, ← e1, ← e2]; simp [cks, ckE]
  (repeat first | refine qE ?_ | refine qA ?_ | refine qC ?_ | refine qB ?_ | refine qD ?_); refine qJ (fun K hK => ?_); simp (maxSteps := 2000000) (disch := omega) only [push_cast, ↓Int.cast_ofNat_Int, Nat.reduceBEq, Nat.reduceAdd, Nat.reduceLT, Nat.reduceEqDiff, reduceIte, reduceCtorEq, Nat.reduceLeDiff, Nat.reduceSub, List.reduceReplicate, Nat.reduceMul, Int.reduceToNat, Nat.reducePow, hlen, gc, cks_wid]; refine hK _ ?_; clear hK K
  refine zD rfl ?_
  (repeat first | refine qE ?_ | refine qA ?_ | refine qC ?_ | refine qB ?_ | refine qD ?_)
  refine zB [10, 11, 12, 13, 14, 15, 16, 17, 18, 20] [9000] (by simp only [qZ, qR, qP, qQ, qN, qS, qM, qX, qU, Nat.reduceEqDiff, reduceIte]; exact rfl) ?_
  (repeat first | refine qE ?_ | refine qA ?_ | refine qC ?_ | refine qB ?_ | refine qD ?_); refine HW_drwC 13 [(0, some 1240), (6, some 1240), (12, some 1240)] [[(9000, .sl true 77 4 (cks (pre ++ [c])))], [(1240, .sl true 9 1 []), (9000, .sl true 77 4 (cks (pre ++ [c])))], [(1240, .sl true 9 1 (strs c.b)), (9000, .sl true 77 4 (cks (pre ++ [c])))], [(1240, .sl true 9 1 (strs (c.b ++ [s]))), (9000, .sl true 77 4 (cks (pre ++ [c])))]] [(3, 0, 3), (4, 0, 3), (5, 0, 1)] mixed (by kernel_rfl) (by kernel_rfl) rfl (fun K hK K1 hK1 => ?_); simp (maxSteps := 2000000) (disch := omega) only [push_cast, ↓Int.cast_ofNat_Int, Nat.reduceBEq, Nat.reduceAdd, Nat.reduceLT, Nat.reduceEqDiff, reduceIte, reduceCtorEq, Nat.reduceLeDiff, Nat.reduceSub, List.reduceReplicate, Nat.reduceMul, Int.reduceToNat, Nat.reducePow, nextW_nil, nextW_cons, rgOf_nil, rgOf_cons, kf_some, kf_no, stays_nil, stays_cons, strongK_store, strongK_copy, strongK_app, strongK_build, hwr2_go, hall_zero, hall_one, hall_two, hall_three, slotsW_store, slotsW_call, hvca_eq, hvcb_eq, hvce_eq, hvcw_some, hvcw_none, hvc1_none, hvc1_some, hvc_nil, hvcS_some, hvcS_none, hvc_cons, List.tail_cons, List.take_nil, List.drop_nil, implies_true, hlen, gc, go, cks_wid, strs_len, strs_wid, strs_snoc, strs_app, hw2, List.nil_append]
  refine hK1 _ ?_; clear hK1 K1; with_reducible refine hstop ?_; simp (maxSteps := 2000000) (disch := omega) only [push_cast, ↓Int.cast_ofNat_Int, Nat.reduceBEq, Nat.reduceAdd, Nat.reduceLT, Nat.reduceEqDiff, reduceIte, reduceCtorEq, Nat.reduceLeDiff, Nat.reduceSub, List.reduceReplicate, Nat.reduceMul, Int.reduceToNat, Nat.reducePow]
  refine hK _ ?_; clear hK K
  refine zB [10, 11, 12, 13, 14, 15, 16, 17, 18, 19, 20] [9000, 1240] (by simp only [qZ, qR, qP, qQ, qN, qS, qM, qX, qU, Nat.reduceEqDiff, reduceIte]; exact rfl) ?_
  refine HW_restS 1240 rfl (by simp only [rest_eq, esub_nil, esub_cons, ssub_nil, ssub_cons, hsub_v, hsub_lst, hsub_elt, hsub_junk, hsub_own, hsub_ptr, hsub_vw, hsub_agg, hsub_tup, rsub_sl, rsub_hl, rsub_bx, Nat.reduceEqDiff, reduceIte, List.map_cons, List.map_nil, List.map_append]; exact rfl) ?_
  (repeat first | refine qE ?_ | refine qA ?_ | refine qC ?_ | refine qB ?_ | refine qD ?_); refine qJ (fun K hK => ?_); simp (maxSteps := 2000000) (disch := omega) only [push_cast, ↓Int.cast_ofNat_Int, Nat.reduceBEq, Nat.reduceAdd, Nat.reduceLT, Nat.reduceEqDiff, reduceIte, reduceCtorEq, Nat.reduceLeDiff, Nat.reduceSub, List.reduceReplicate, Nat.reduceMul, Int.reduceToNat, Nat.reducePow, hlen, gc, cks_wid, hset]; refine hK _ ?_; clear hK K
  refine hQ _ ?_
  simp only [qZ, qR, qP, qQ, qN, qS, qM, qX, qU, Nat.reduceEqDiff, reduceIte]
 ·rcases List.eq_nil_or_concat out with rfl | ⟨pre, c, rfl⟩
  ·have hli : (((([] : List (Ck ByteArray)).length : Nat) : Int) - 1) = -1 := rfl
   rw [hli]
   have hsn : cks [] ++ [[.v (.bool true), .lst true (strs [s]), .lst true (strs [s]), .lst true (strs [s])]] = cks (cadd [] s) := by rw [e, cks_snoc]
   (repeat first | refine qE ?_ | refine qA ?_ | refine qC ?_ | refine qB ?_ | refine qD ?_); refine qJ (fun K hK => ?_); simp (maxSteps := 2000000) (disch := omega) only [push_cast, ↓Int.cast_ofNat_Int, Nat.reduceBEq, Nat.reduceAdd, Nat.reduceLT, Nat.reduceEqDiff, reduceIte, reduceCtorEq, Nat.reduceLeDiff, Nat.reduceSub, List.reduceReplicate, Nat.reduceMul, Int.reduceToNat, Nat.reducePow]; refine hK _ ?_; clear hK K
   refine zC rfl ?_
   (repeat first | refine qE ?_ | refine qA ?_ | refine qC ?_ | refine qB ?_ | refine qD ?_); refine qJ (fun K hK => ?_); simp (maxSteps := 2000000) (disch := omega) only [push_cast, ↓Int.cast_ofNat_Int, Nat.reduceBEq, Nat.reduceAdd, Nat.reduceLT, Nat.reduceEqDiff, reduceIte, reduceCtorEq, Nat.reduceLeDiff, Nat.reduceSub, List.reduceReplicate, Nat.reduceMul, Int.reduceToNat, Nat.reducePow, cks_len, hw1, hsn]; (repeat refine ⟨by first | omega | decide | ((repeat' apply And.intro) <;> first | omega | decide), ?_⟩); refine hK _ ?_; clear hK K
   refine hQ _ ?_
   simp only [qZ, qR, qP, qQ, qN, qS, qM, qX, qU, Nat.reduceEqDiff, reduceIte]
  ·rw [List.concat_eq_append] at *
   have hc : c.st = false := hl c (by simp)
   have hli : ((((pre ++ [c]).length : Nat) : Int) - 1) = (pre.length : Int) := by simp
   rw [hli]
   have hlen : (cks (pre ++ [c])).length = pre.length + 1 := by rw [cks_len]; simp
   have hll : pre.length + 1 ≤ 400000 := by simpa using ho2
   have gc : ∀ d, (cks (pre ++ [c])).getD pre.length d = [.v (.bool false), .lst true (strs c.b), .lst true (strs c.l), .lst true (strs c.r)] := fun d => by
    rw [cks, getD_map (by simp)]; simp [ckE, hc]
   have hsn : cks (pre ++ [c]) ++ [[.v (.bool true), .lst true (strs [s]), .lst true (strs [s]), .lst true (strs [s])]] = cks (cadd (pre ++ [c]) s) := by rw [e, cks_snoc]
   (repeat first | refine qE ?_ | refine qA ?_ | refine qC ?_ | refine qB ?_ | refine qD ?_); refine qJ (fun K hK => ?_); simp (maxSteps := 2000000) (disch := omega) only [push_cast, ↓Int.cast_ofNat_Int, Nat.reduceBEq, Nat.reduceAdd, Nat.reduceLT, Nat.reduceEqDiff, reduceIte, reduceCtorEq, Nat.reduceLeDiff, Nat.reduceSub, List.reduceReplicate, Nat.reduceMul, Int.reduceToNat, Nat.reducePow, hlen, gc, cks_wid]; refine hK _ ?_; clear hK K
   refine zC rfl ?_
   (repeat first | refine qE ?_ | refine qA ?_ | refine qC ?_ | refine qB ?_ | refine qD ?_); refine qJ (fun K hK => ?_); simp (maxSteps := 2000000) (disch := omega) only [push_cast, ↓Int.cast_ofNat_Int, Nat.reduceBEq, Nat.reduceAdd, Nat.reduceLT, Nat.reduceEqDiff, reduceIte, reduceCtorEq, Nat.reduceLeDiff, Nat.reduceSub, List.reduceReplicate, Nat.reduceMul, Int.reduceToNat, Nat.reducePow, hlen, hw1, hsn]; (repeat refine ⟨by first | omega | decide | ((repeat' apply And.intro) <;> first | omega | decide), ?_⟩); refine hK _ ?_; clear hK K
   refine hQ _ ?_
   simp only [qZ, qR, qP, qQ, qN, qS, qM, qX, qU, Nat.reduceEqDiff, reduceIte]
end Go.Proofs.Ytlfenddhppoflaa
