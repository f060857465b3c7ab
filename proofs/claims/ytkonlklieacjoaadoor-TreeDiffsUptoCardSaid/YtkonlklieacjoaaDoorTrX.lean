/-
  The law TreeDiffs.
-/
import Derived.Test.YtkonlklieacjoaaDoorTrQ
import Derived.Test.YtkonlklieacjoaaDoorTrV
import Derived.Test.YtkonlklieacjoaaDoorUpe
set_option linter.unusedSimpArgs false
set_option linter.unusedVariables false
set_option maxRecDepth 20000
namespace Go.Tr
open Go Go.Eng
theorem fresh_node (n : Int × ByteArray) : FreshH (nodeH n) := .agg fun x hx => by simp at hx; rcases hx with rfl | rfl <;> exact .v _
theorem node_any {n : Int × ByteArray} {ρ ρ' : Nat → Value} {w : World} {A : Nat → Prop} {n0 : Nat} {v : Value} (h : RepH w A n0 ρ v (nodeH n)) : RepH w A n0 ρ' v (nodeH n) := by
  cases h with
  | agg hn h1 h =>
    refine .agg hn h1 fun j a b => ?_
    have := h j a b
    match j, b with
    | 0, _ => rw [repH_v this]; exact .v _
    | 1, _ => rw [repH_v this]; exact .v _
/-- a call that answers a node, in a drawn region -/
theorem hatRn {P : Program} {T : HS} {f : FuncId} {args args' : List HV} {n : Int × ByteArray} {K : HV → Prop} (hc : callable P f = true) (H : HFun P f args' (fun h st => h = nodeH n ∧ st = [])) (hl : Lends T.st args args') (hK : K (nodeH n)) : HAtR P f args T K :=
  hatR hc H (fresh_node n) (fun ρ ρ' w A n v h => node_any h) hl hK
theorem okR_kinds {t : List Ent} (h : okR t = true) : kinds t := fun e he => by
  obtain ⟨i, hi, rfl⟩ := List.getElem_of_mem he
  have := all_range.1 h i hi
  simp only [rowR, rowA, Bool.and_eq_true, Bool.not_eq_true', decide_eq_false_iff_not] at this
  rw [atE_eq hi] at this
  intro e
  exact this.1.2.2.1 (by rw [e]; rfl)
theorem okR_path {t : List Ent} (h : okR t = true) : ∀ e ∈ t, pOk e.1 5 = true := fun e he => by
  obtain ⟨i, hi, rfl⟩ := List.getElem_of_mem he
  have := all_range.1 h i hi
  simp only [rowR, rowA, Bool.and_eq_true] at this
  rw [atE_eq hi] at this
  exact this.1.1
theorem checkS_zero (t : List Ent) : checkS t = 0 ∨ checkS t = 3 ∨ checkS t = 4 := by
  unfold checkS
  split
  · exact .inr (.inr rfl)
  · cases okR t
    · exact .inr (.inl rfl)
    · exact .inl rfl
theorem checkS_ok {t : List Ent} (h : checkS t = 0) : t.length ≤ 200 ∧ okR t = true := by
  unfold checkS at h
  split at h
  · cases h
  · refine ⟨by omega, ?_⟩
    cases e : okR t
    · rw [e] at h; cases h
    · rfl
end Go.Tr
namespace Go.Proofs.YtkonlklieacjoaaDoor
open Go Go.Eng Go.RowKit Go.Tr
set_option maxHeartbeats 8000000 in
theorem treeDiffs_H (a b : List Ent) (p : ByteArray) (hla : a.length ≤ 1048576) (hlb : b.length ≤ 1048576) (hsa : ∀ e ∈ a, e.1.size ≤ 1048576) (hsb : ∀ e ∈ b, e.1.size ≤ 1048576) : HFun Tryd.prog 6 [.lst false (ents a), .lst false (ents b), .v (.string p)] (fun h st => h = .v (.bool true)) := by
  refine hfun (N := 106) Tryd.func6 rfl Tryd.ntmps6 Tryd.results6 (by simp) ?_
  have ca := check_H a (by omega) hsa
  have cb := check_H b (by omega) hsb
  (repeat first | refine HW_seq ?_ | refine hseqQ_normal ?_ | refine HW_skip ?_ | refine hblkQ_normal ?_ | refine HW_block ?_); refine HW_reg (fun K hK => ?_); simp (maxSteps := 2000000) (disch := omega) only [push_cast, ↓Int.cast_ofNat_Int, Nat.reduceBEq, Nat.reduceAdd, Nat.reduceLT, Nat.reduceEqDiff, reduceIte, reduceCtorEq, Nat.reduceLeDiff, Nat.reduceSub, List.reduceReplicate, Nat.reduceMul, Int.reduceToNat, Int.toNat_natCast, Nat.reducePow, reduceIte, cond_true', ltT, ltF, leT, leF, eqT, eqF, getD_map, wr64, toNat_succ, toNat_add]; refine hK _ ?_; clear hK K
  by_cases ha : checkS a = 0
  · rw [ha] at ca
    by_cases hb : checkS b = 0
    · rw [hb] at cb
      (repeat first | refine HW_seq ?_ | refine hseqQ_normal ?_ | refine HW_skip ?_ | refine hblkQ_normal ?_ | refine HW_block ?_); refine HW_reg (fun K hK => ?_); simp (maxSteps := 2000000) (disch := omega) only [push_cast, ↓Int.cast_ofNat_Int, Nat.reduceBEq, Nat.reduceAdd, Nat.reduceLT, Nat.reduceEqDiff, reduceIte, reduceCtorEq, Nat.reduceLeDiff, Nat.reduceSub, List.reduceReplicate, Nat.reduceMul, Int.reduceToNat, Int.toNat_natCast, Nat.reducePow, reduceIte, cond_true', ltT, ltF, leT, leF, eqT, eqF, getD_map, wr64, toNat_succ, toNat_add]
      refine hatv cl14 tawake_H .nil ?_
      with_reducible refine hstop ?_; simp (maxSteps := 2000000) (disch := omega) only [push_cast, ↓Int.cast_ofNat_Int, Nat.reduceBEq, Nat.reduceAdd, Nat.reduceLT, Nat.reduceEqDiff, reduceIte, reduceCtorEq, Nat.reduceLeDiff, Nat.reduceSub, List.reduceReplicate, Nat.reduceMul, Int.reduceToNat, Int.toNat_natCast, Nat.reducePow, reduceIte, cond_true', ltT, ltF, leT, leF, eqT, eqF, getD_map, wr64, toNat_succ, toNat_add]
      refine hatv cl15 ca (.cons (lendL (ents_old _)) .nil) ?_
      with_reducible refine hstop ?_; simp (maxSteps := 2000000) (disch := omega) only [push_cast, ↓Int.cast_ofNat_Int, Nat.reduceBEq, Nat.reduceAdd, Nat.reduceLT, Nat.reduceEqDiff, reduceIte, reduceCtorEq, Nat.reduceLeDiff, Nat.reduceSub, List.reduceReplicate, Nat.reduceMul, Int.reduceToNat, Int.toNat_natCast, Nat.reducePow, reduceIte, cond_true', ltT, ltF, leT, leF, eqT, eqF, getD_map, wr64, toNat_succ, toNat_add]
      refine hatv cl15 cb (.cons (lendL (ents_old _)) .nil) ?_
      with_reducible refine hstop ?_; simp (maxSteps := 2000000) (disch := omega) only [push_cast, ↓Int.cast_ofNat_Int, Nat.reduceBEq, Nat.reduceAdd, Nat.reduceLT, Nat.reduceEqDiff, reduceIte, reduceCtorEq, Nat.reduceLeDiff, Nat.reduceSub, List.reduceReplicate, Nat.reduceMul, Int.reduceToNat, Int.toNat_natCast, Nat.reducePow, reduceIte, cond_true', ltT, ltF, leT, leF, eqT, eqF, getD_map, wr64, toNat_succ, toNat_add]
      refine hK _ ?_; clear hK K
      refine HW_false rfl ?_
      (repeat first | refine HW_seq ?_ | refine hseqQ_normal ?_ | refine HW_skip ?_ | refine hblkQ_normal ?_ | refine HW_block ?_)
      obtain ⟨la, oka⟩ := checkS_ok ha
      obtain ⟨lb, okb⟩ := checkS_ok hb
      have ra := okR_rise oka
      have rb := okR_rise okb
      have iff := fun q => diffS_iff q a b ra rb (okR_kinds oka) (okR_kinds okb)
      have cd := diff_H a b (by omega)
      have ce := diff_H b a (by omega)
      rw [diffS_symm] at ce
      (repeat first | refine HW_seq ?_ | refine hseqQ_normal ?_ | refine HW_skip ?_ | refine hblkQ_normal ?_ | refine HW_block ?_); refine HW_reg (fun K hK => ?_); simp (maxSteps := 2000000) (disch := omega) only [push_cast, ↓Int.cast_ofNat_Int, Nat.reduceBEq, Nat.reduceAdd, Nat.reduceLT, Nat.reduceEqDiff, reduceIte, reduceCtorEq, Nat.reduceLeDiff, Nat.reduceSub, List.reduceReplicate, Nat.reduceMul, Int.reduceToNat, Int.toNat_natCast, Nat.reducePow, reduceIte, cond_true', ltT, ltF, leT, leF, eqT, eqF, getD_map, wr64, toNat_succ, toNat_add]
      refine hat 200 cl32 cd (.cons (lendL (ents_old _)) (.cons (lendL (ents_old _)) .nil)) ?_
      rintro _ _ ⟨rfl, rfl⟩
      with_reducible refine hstop ?_; simp (maxSteps := 2000000) (disch := omega) only [push_cast, ↓Int.cast_ofNat_Int, Nat.reduceBEq, Nat.reduceAdd, Nat.reduceLT, Nat.reduceEqDiff, reduceIte, reduceCtorEq, Nat.reduceLeDiff, Nat.reduceSub, List.reduceReplicate, Nat.reduceMul, Int.reduceToNat, Int.toNat_natCast, Nat.reducePow, reduceIte, cond_true', ltT, ltF, leT, leF, eqT, eqF, getD_map, wr64, toNat_succ, toNat_add]
      refine hK _ ?_; clear hK K
      (repeat first | refine HW_seq ?_ | refine hseqQ_normal ?_ | refine HW_skip ?_ | refine hblkQ_normal ?_ | refine HW_block ?_); refine HW_reg (fun K hK => ?_); simp (maxSteps := 2000000) (disch := omega) only [push_cast, ↓Int.cast_ofNat_Int, Nat.reduceBEq, Nat.reduceAdd, Nat.reduceLT, Nat.reduceEqDiff, reduceIte, reduceCtorEq, Nat.reduceLeDiff, Nat.reduceSub, List.reduceReplicate, Nat.reduceMul, Int.reduceToNat, Int.toNat_natCast, Nat.reducePow, reduceIte, cond_true', ltT, ltF, leT, leF, eqT, eqF, getD_map, wr64, toNat_succ, toNat_add]; refine hK _ ?_; clear hK K
      (repeat first | refine HW_seq ?_ | refine hseqQ_normal ?_ | refine HW_skip ?_ | refine hblkQ_normal ?_ | refine HW_block ?_); refine HW_reg (fun K hK => ?_); simp (maxSteps := 2000000) (disch := omega) only [push_cast, ↓Int.cast_ofNat_Int, Nat.reduceBEq, Nat.reduceAdd, Nat.reduceLT, Nat.reduceEqDiff, reduceIte, reduceCtorEq, Nat.reduceLeDiff, Nat.reduceSub, List.reduceReplicate, Nat.reduceMul, Int.reduceToNat, Int.toNat_natCast, Nat.reducePow, reduceIte, cond_true', ltT, ltF, leT, leF, eqT, eqF, getD_map, wr64, toNat_succ, toNat_add]; refine hK _ ?_; clear hK K
      (repeat first | refine HW_seq ?_ | refine hseqQ_normal ?_ | refine HW_skip ?_ | refine hblkQ_normal ?_ | refine HW_block ?_)
      have dl := diffS_len a b
      have dm := diffS_mem a b
      have dr := diffS_rise a b ra rb
      have dn : decide ((diffS a b).length = 0) = decide (a = b) := by
        rw [decide_eq_decide]
        exact ⟨fun h => diffS_none a b (List.eq_nil_of_length_eq_zero h), fun h => by rw [h, diffS_self]; rfl⟩
      generalize diffS a b = D at *
      refine HW_loop (fun i : Nat => ⟨[(0, .lst false (ents a)), (1, .lst false (ents b)), (2, .v (.string p)), (7, .own 200), (8, .v (.bool ((D.take i).any fun q => decide (q = p)))), (9, .v (.int .i64 i))], [(200, .sl true 9 1 (strs D))]⟩)
        (fun i => i ≤ D.length) (fun i => D.length - i) [0, 1, 2, 7, 8, 9] [200] 0 (by simp only [keep_eq, hkeep_nil, hkeep_cons, rkeep_nil, rkeep_cons, hlk_nil, hlk_cons, rlk_nil, rlk_cons, Nat.reduceEqDiff, reduceIte]; rfl) (Nat.zero_le _) ?_
      rintro i hi
      by_cases hlt : i < D.length
      · (repeat first | refine HW_seq ?_ | refine hseqQ_normal ?_ | refine HW_skip ?_ | refine hblkQ_normal ?_ | refine HW_block ?_); refine HW_reg (fun K hK => ?_); simp (maxSteps := 2000000) (disch := omega) only [push_cast, ↓Int.cast_ofNat_Int, Nat.reduceBEq, Nat.reduceAdd, Nat.reduceLT, Nat.reduceEqDiff, reduceIte, reduceCtorEq, Nat.reduceLeDiff, Nat.reduceSub, List.reduceReplicate, Nat.reduceMul, Int.reduceToNat, Int.toNat_natCast, Nat.reducePow, reduceIte, cond_true', ltT, ltF, leT, leF, eqT, eqF, getD_map, wr64, toNat_succ, toNat_add, strs_len]; refine hK _ ?_; clear hK K
        (repeat first | refine HW_seq ?_ | refine hseqQ_normal ?_ | refine HW_skip ?_ | refine hblkQ_normal ?_ | refine HW_block ?_)
        refine HW_true rfl ?_
        (repeat first | refine hseqQ_ret ?_ | refine hseqQ_exit ?_ | refine hblkQ_exit ?_ | refine hblkQ_other rfl ?_ | refine hblkQ_ret ?_ | refine hblkQ_normal ?_ | refine HW_seq ?_ | refine hseqQ_normal ?_ | refine HW_skip ?_ | refine HW_exit ?_ | refine HW_ret ?_)
        have hmem := List.getElem_mem hlt
        have hne := (iff D[i]).1 hmem
        have hpk : pOk D[i] 5 = true ∧ D[i].size ≤ 1048576 := by
          rcases dm _ hmem with ⟨e, he, h⟩ | ⟨e, he, h⟩
          · exact ⟨h ▸ okR_path oka e he, h ▸ hsa e he⟩
          · exact ⟨h ▸ okR_path okb e he, h ▸ hsb e he⟩
        have c34 : HFun Tryd.prog 34 [.v (.string D[i]), .v (.int .i64 5)] (fun h st => h = .v (.int .i64 (okN (pOk D[i] 5)))) := rpcheck_H D[i] 5 hpk.2 (by omega)
        rw [hpk.1, okN_t] at c34
        have c25a := get_H a D[i] ra (by omega)
        have c25b := get_H b D[i] rb (by omega)
        have hany : (D.take (i + 1)).any (fun q => decide (q = p)) = ((D.take i).any (fun q => decide (q = p)) || decide (D[i] = p)) := by
          rw [List.take_succ_eq_append_getElem hlt, List.any_append, List.any_cons, List.any_nil, Bool.or_false]
        generalize getN a D[i] = na at c25a hne
        generalize getN b D[i] = nb at c25b hne
        obtain ⟨ka, da⟩ := na
        obtain ⟨kb, db⟩ := nb
        have heq : decide (ka = kb ∧ da = db) = false := decide_eq_false fun h => hne (by rw [h.1, h.2])
        have hk0 : ∀ (m : Nat), (m : Int) + 1 - 1 = m := fun m => by omega
        (repeat first | refine HW_seq ?_ | refine hseqQ_normal ?_ | refine HW_skip ?_ | refine hblkQ_normal ?_ | refine HW_block ?_)
        refine HW_meet (fun _ : Unit => ⟨[(0, .lst false (ents a)), (1, .lst false (ents b)), (2, .v (.string p)), (7, .own 200), (8, .v (.bool ((D.take i).any fun q => decide (q = p)))), (9, .v (.int .i64 i)), (69, .v (.bool false))], [(200, .sl true 9 1 (strs D))]⟩) (fun _ => True) [0, 1, 2, 7, 8, 9, 69] [200] ?_ ?_
        · rcases Nat.eq_zero_or_pos i with rfl | hpos
          · skip
            (repeat first | refine HW_seq ?_ | refine hseqQ_normal ?_ | refine HW_skip ?_ | refine hblkQ_normal ?_ | refine HW_block ?_); refine HW_drwR2 38 mixed (by kernel_rfl) (fun K hK K1 hK1 => ?_); simp (maxSteps := 2000000) (disch := omega) only [push_cast, ↓Int.cast_ofNat_Int, Nat.reduceBEq, Nat.reduceAdd, Nat.reduceLT, Nat.reduceEqDiff, reduceIte, reduceCtorEq, Nat.reduceLeDiff, Nat.reduceSub, List.reduceReplicate, Nat.reduceMul, Int.reduceToNat, Int.toNat_natCast, Nat.reducePow, reduceIte, cond_true', ltT, ltF, leT, leF, eqT, eqF, getD_map, wr64, toNat_succ, toNat_add, strs_len, strs_wid, strs_get hlt, hk0]
            refine hatRn cl25 c25a (.cons (lendL (ents_old _)) (.cons (.v _) .nil)) ?_
            with_reducible refine hstop ?_; simp (maxSteps := 2000000) (disch := omega) only [push_cast, ↓Int.cast_ofNat_Int, Nat.reduceBEq, Nat.reduceAdd, Nat.reduceLT, Nat.reduceEqDiff, reduceIte, reduceCtorEq, Nat.reduceLeDiff, Nat.reduceSub, List.reduceReplicate, Nat.reduceMul, Int.reduceToNat, Int.toNat_natCast, Nat.reducePow, reduceIte, cond_true', ltT, ltF, leT, leF, eqT, eqF, getD_map, wr64, toNat_succ, toNat_add, strs_len, strs_wid, strs_get hlt, hk0]
            refine hatRn cl25 c25b (.cons (lendL (ents_old _)) (.cons (.v _) .nil)) ?_
            with_reducible refine hstop ?_; simp (maxSteps := 2000000) (disch := omega) only [push_cast, ↓Int.cast_ofNat_Int, Nat.reduceBEq, Nat.reduceAdd, Nat.reduceLT, Nat.reduceEqDiff, reduceIte, reduceCtorEq, Nat.reduceLeDiff, Nat.reduceSub, List.reduceReplicate, Nat.reduceMul, Int.reduceToNat, Int.toNat_natCast, Nat.reducePow, reduceIte, cond_true', ltT, ltF, leT, leF, eqT, eqF, getD_map, wr64, toNat_succ, toNat_add, strs_len, strs_wid, strs_get hlt, hk0]
            refine ⟨_, eqN _ _ _ _, ?_⟩
            with_reducible refine hstop ?_; simp (maxSteps := 2000000) (disch := omega) only [push_cast, ↓Int.cast_ofNat_Int, Nat.reduceBEq, Nat.reduceAdd, Nat.reduceLT, Nat.reduceEqDiff, reduceIte, reduceCtorEq, Nat.reduceLeDiff, Nat.reduceSub, List.reduceReplicate, Nat.reduceMul, Int.reduceToNat, Int.toNat_natCast, Nat.reducePow, reduceIte, cond_true', ltT, ltF, leT, leF, eqT, eqF, getD_map, wr64, toNat_succ, toNat_add, strs_len, strs_wid, strs_get hlt, hk0, heq]
            refine hatRv cl34 c34 (.cons (.v _) (.cons (.v _) .nil)) ?_
            with_reducible refine hstop ?_; simp (maxSteps := 2000000) (disch := omega) only [push_cast, ↓Int.cast_ofNat_Int, Nat.reduceBEq, Nat.reduceAdd, Nat.reduceLT, Nat.reduceEqDiff, reduceIte, reduceCtorEq, Nat.reduceLeDiff, Nat.reduceSub, List.reduceReplicate, Nat.reduceMul, Int.reduceToNat, Int.toNat_natCast, Nat.reducePow, reduceIte, cond_true', ltT, ltF, leT, leF, eqT, eqF, getD_map, wr64, toNat_succ, toNat_add, heq]
            refine hK1 _ ?_; clear hK1 K1; with_reducible refine hstop ?_; simp (maxSteps := 2000000) (disch := omega) only [push_cast, ↓Int.cast_ofNat_Int, Nat.reduceBEq, Nat.reduceAdd, Nat.reduceLT, Nat.reduceEqDiff, reduceIte, reduceCtorEq, Nat.reduceLeDiff, Nat.reduceSub, List.reduceReplicate, Nat.reduceMul, Int.reduceToNat, Int.toNat_natCast, Nat.reducePow, reduceIte, cond_true', ltT, ltF, leT, leF, eqT, eqF, getD_map, wr64, toNat_succ, toNat_add, heq]
            refine hK _ ?_; clear hK K
            exact ⟨(), by simp only [keep_eq, hkeep_nil, hkeep_cons, rkeep_nil, rkeep_cons, hlk_nil, hlk_cons, rlk_nil, rlk_cons, Nat.reduceEqDiff, reduceIte]; try rfl, trivial⟩
          · obtain ⟨m, rfl⟩ : ∃ m, i = m + 1 := ⟨i - 1, by omega⟩
            have hm : m < D.length := by omega
            have hb : Op.bytesLess D[m].toList D[m + 1].toList = true := List.pairwise_iff_getElem.1 dr m (m + 1) hm hlt (by omega)
            (repeat first | refine HW_seq ?_ | refine hseqQ_normal ?_ | refine HW_skip ?_ | refine hblkQ_normal ?_ | refine HW_block ?_); refine HW_drwR2 38 mixed (by kernel_rfl) (fun K hK K1 hK1 => ?_); simp (maxSteps := 2000000) (disch := omega) only [push_cast, ↓Int.cast_ofNat_Int, Nat.reduceBEq, Nat.reduceAdd, Nat.reduceLT, Nat.reduceEqDiff, reduceIte, reduceCtorEq, Nat.reduceLeDiff, Nat.reduceSub, List.reduceReplicate, Nat.reduceMul, Int.reduceToNat, Int.toNat_natCast, Nat.reducePow, reduceIte, cond_true', ltT, ltF, leT, leF, eqT, eqF, getD_map, wr64, toNat_succ, toNat_add, strs_len, strs_wid, strs_get hlt, hk0, strs_get hm, hb]
            refine hatRn cl25 c25a (.cons (lendL (ents_old _)) (.cons (.v _) .nil)) ?_
            with_reducible refine hstop ?_; simp (maxSteps := 2000000) (disch := omega) only [push_cast, ↓Int.cast_ofNat_Int, Nat.reduceBEq, Nat.reduceAdd, Nat.reduceLT, Nat.reduceEqDiff, reduceIte, reduceCtorEq, Nat.reduceLeDiff, Nat.reduceSub, List.reduceReplicate, Nat.reduceMul, Int.reduceToNat, Int.toNat_natCast, Nat.reducePow, reduceIte, cond_true', ltT, ltF, leT, leF, eqT, eqF, getD_map, wr64, toNat_succ, toNat_add, strs_len, strs_wid, strs_get hlt, hk0, strs_get hm, hb]
            refine hatRn cl25 c25b (.cons (lendL (ents_old _)) (.cons (.v _) .nil)) ?_
            with_reducible refine hstop ?_; simp (maxSteps := 2000000) (disch := omega) only [push_cast, ↓Int.cast_ofNat_Int, Nat.reduceBEq, Nat.reduceAdd, Nat.reduceLT, Nat.reduceEqDiff, reduceIte, reduceCtorEq, Nat.reduceLeDiff, Nat.reduceSub, List.reduceReplicate, Nat.reduceMul, Int.reduceToNat, Int.toNat_natCast, Nat.reducePow, reduceIte, cond_true', ltT, ltF, leT, leF, eqT, eqF, getD_map, wr64, toNat_succ, toNat_add, strs_len, strs_wid, strs_get hlt, hk0, strs_get hm, hb]
            refine ⟨_, eqN _ _ _ _, ?_⟩
            with_reducible refine hstop ?_; simp (maxSteps := 2000000) (disch := omega) only [push_cast, ↓Int.cast_ofNat_Int, Nat.reduceBEq, Nat.reduceAdd, Nat.reduceLT, Nat.reduceEqDiff, reduceIte, reduceCtorEq, Nat.reduceLeDiff, Nat.reduceSub, List.reduceReplicate, Nat.reduceMul, Int.reduceToNat, Int.toNat_natCast, Nat.reducePow, reduceIte, cond_true', ltT, ltF, leT, leF, eqT, eqF, getD_map, wr64, toNat_succ, toNat_add, strs_len, strs_wid, strs_get hlt, hk0, heq, strs_get hm, hb]
            refine hatRv cl34 c34 (.cons (.v _) (.cons (.v _) .nil)) ?_
            with_reducible refine hstop ?_; simp (maxSteps := 2000000) (disch := omega) only [push_cast, ↓Int.cast_ofNat_Int, Nat.reduceBEq, Nat.reduceAdd, Nat.reduceLT, Nat.reduceEqDiff, reduceIte, reduceCtorEq, Nat.reduceLeDiff, Nat.reduceSub, List.reduceReplicate, Nat.reduceMul, Int.reduceToNat, Int.toNat_natCast, Nat.reducePow, reduceIte, cond_true', ltT, ltF, leT, leF, eqT, eqF, getD_map, wr64, toNat_succ, toNat_add, heq]
            refine hK1 _ ?_; clear hK1 K1; with_reducible refine hstop ?_; simp (maxSteps := 2000000) (disch := omega) only [push_cast, ↓Int.cast_ofNat_Int, Nat.reduceBEq, Nat.reduceAdd, Nat.reduceLT, Nat.reduceEqDiff, reduceIte, reduceCtorEq, Nat.reduceLeDiff, Nat.reduceSub, List.reduceReplicate, Nat.reduceMul, Int.reduceToNat, Int.toNat_natCast, Nat.reducePow, reduceIte, cond_true', ltT, ltF, leT, leF, eqT, eqF, getD_map, wr64, toNat_succ, toNat_add, heq]
            refine hK _ ?_; clear hK K
            exact ⟨(), by simp only [keep_eq, hkeep_nil, hkeep_cons, rkeep_nil, rkeep_cons, hlk_nil, hlk_cons, rlk_nil, rlk_cons, Nat.reduceEqDiff, reduceIte]; try rfl, trivial⟩
        intro S' _ hE _
        (repeat first | refine hseqQ_ret ?_ | refine hseqQ_exit ?_ | refine hblkQ_exit ?_ | refine hblkQ_other rfl ?_ | refine hblkQ_ret ?_ | refine hblkQ_normal ?_ | refine HW_seq ?_ | refine hseqQ_normal ?_ | refine HW_skip ?_ | refine HW_exit ?_ | refine HW_ret ?_)
        refine HW_keep [0, 1, 2, 7, 8, 9, 69] [200] hE ?_
        clear hE
        refine HW_false rfl ?_
        (repeat first | refine HW_seq ?_ | refine hseqQ_normal ?_ | refine HW_skip ?_ | refine hblkQ_normal ?_ | refine HW_block ?_)
        cases ht : (D.take i).any (fun q => decide (q = p)) with
        | true =>
          rw [ht] at hany
          (repeat first | refine HW_seq ?_ | refine hseqQ_normal ?_ | refine HW_skip ?_ | refine hblkQ_normal ?_ | refine HW_block ?_); refine HW_reg (fun K hK => ?_); simp (maxSteps := 2000000) (disch := omega) only [push_cast, ↓Int.cast_ofNat_Int, Nat.reduceBEq, Nat.reduceAdd, Nat.reduceLT, Nat.reduceEqDiff, reduceIte, reduceCtorEq, Nat.reduceLeDiff, Nat.reduceSub, List.reduceReplicate, Nat.reduceMul, Int.reduceToNat, Int.toNat_natCast, Nat.reducePow, reduceIte, cond_true', ltT, ltF, leT, leF, eqT, eqF, getD_map, wr64, toNat_succ, toNat_add]; refine hK _ ?_; clear hK K
          (repeat first | refine hseqQ_ret ?_ | refine hseqQ_exit ?_ | refine hblkQ_exit ?_ | refine hblkQ_other rfl ?_ | refine hblkQ_ret ?_ | refine hblkQ_normal ?_ | refine HW_seq ?_ | refine hseqQ_normal ?_ | refine HW_skip ?_ | refine HW_exit ?_ | refine HW_ret ?_)
          (repeat first | refine HW_seq ?_ | refine hseqQ_normal ?_ | refine HW_skip ?_ | refine hblkQ_normal ?_ | refine HW_block ?_); refine HW_reg (fun K hK => ?_); simp (maxSteps := 2000000) (disch := omega) only [push_cast, ↓Int.cast_ofNat_Int, Nat.reduceBEq, Nat.reduceAdd, Nat.reduceLT, Nat.reduceEqDiff, reduceIte, reduceCtorEq, Nat.reduceLeDiff, Nat.reduceSub, List.reduceReplicate, Nat.reduceMul, Int.reduceToNat, Int.toNat_natCast, Nat.reducePow, reduceIte, cond_true', ltT, ltF, leT, leF, eqT, eqF, getD_map, wr64, toNat_succ, toNat_add]; refine hK _ ?_; clear hK K
          (repeat first | refine hseqQ_ret ?_ | refine hseqQ_exit ?_ | refine hblkQ_exit ?_ | refine hblkQ_other rfl ?_ | refine hblkQ_ret ?_ | refine hblkQ_normal ?_ | refine HW_seq ?_ | refine hseqQ_normal ?_ | refine HW_skip ?_ | refine HW_exit ?_ | refine HW_ret ?_)
          exact ⟨i + 1, by simp only [keep_eq, hkeep_nil, hkeep_cons, rkeep_nil, rkeep_cons, hlk_nil, hlk_cons, rlk_nil, rlk_cons, Nat.reduceEqDiff, reduceIte]; rw [hany]; rfl, hlt, by omega⟩
        | false =>
          rw [ht, Bool.false_or] at hany
          (repeat first | refine HW_seq ?_ | refine hseqQ_normal ?_ | refine HW_skip ?_ | refine hblkQ_normal ?_ | refine HW_block ?_); refine HW_reg (fun K hK => ?_); simp (maxSteps := 2000000) (disch := omega) only [push_cast, ↓Int.cast_ofNat_Int, Nat.reduceBEq, Nat.reduceAdd, Nat.reduceLT, Nat.reduceEqDiff, reduceIte, reduceCtorEq, Nat.reduceLeDiff, Nat.reduceSub, List.reduceReplicate, Nat.reduceMul, Int.reduceToNat, Int.toNat_natCast, Nat.reducePow, reduceIte, cond_true', ltT, ltF, leT, leF, eqT, eqF, getD_map, wr64, toNat_succ, toNat_add, strs_len, strs_wid, strs_get hlt]; (repeat refine ⟨by first | omega | decide | ((repeat' apply And.intro) <;> first | omega | decide), ?_⟩); refine hK _ ?_; clear hK K
          (repeat first | refine hseqQ_ret ?_ | refine hseqQ_exit ?_ | refine hblkQ_exit ?_ | refine hblkQ_other rfl ?_ | refine hblkQ_ret ?_ | refine hblkQ_normal ?_ | refine HW_seq ?_ | refine hseqQ_normal ?_ | refine HW_skip ?_ | refine HW_exit ?_ | refine HW_ret ?_)
          (repeat first | refine HW_seq ?_ | refine hseqQ_normal ?_ | refine HW_skip ?_ | refine hblkQ_normal ?_ | refine HW_block ?_); refine HW_reg (fun K hK => ?_); simp (maxSteps := 2000000) (disch := omega) only [push_cast, ↓Int.cast_ofNat_Int, Nat.reduceBEq, Nat.reduceAdd, Nat.reduceLT, Nat.reduceEqDiff, reduceIte, reduceCtorEq, Nat.reduceLeDiff, Nat.reduceSub, List.reduceReplicate, Nat.reduceMul, Int.reduceToNat, Int.toNat_natCast, Nat.reducePow, reduceIte, cond_true', ltT, ltF, leT, leF, eqT, eqF, getD_map, wr64, toNat_succ, toNat_add]; refine hK _ ?_; clear hK K
          (repeat first | refine hseqQ_ret ?_ | refine hseqQ_exit ?_ | refine hblkQ_exit ?_ | refine hblkQ_other rfl ?_ | refine hblkQ_ret ?_ | refine hblkQ_normal ?_ | refine HW_seq ?_ | refine hseqQ_normal ?_ | refine HW_skip ?_ | refine HW_exit ?_ | refine HW_ret ?_)
          exact ⟨i + 1, by simp only [keep_eq, hkeep_nil, hkeep_cons, rkeep_nil, rkeep_cons, hlk_nil, hlk_cons, rlk_nil, rlk_cons, Nat.reduceEqDiff, reduceIte]; rw [hany]; rfl, hlt, by omega⟩
      · have hii : i = D.length := by omega
        subst hii
        rw [List.take_length]
        have hD : D.any (fun q => decide (q = p)) = !decide (getN a p = getN b p) := by
          rw [Bool.eq_iff_iff, List.any_eq_true]
          simp only [decide_eq_true_eq, Bool.not_eq_true', decide_eq_false_iff_not]
          have := iff p
          exact ⟨fun ⟨q, hq, e⟩ => e ▸ (iff q).1 hq, fun h => ⟨p, this.2 h, rfl⟩⟩
        have c25a := get_H a p ra (by omega)
        have c25b := get_H b p rb (by omega)
        have c30 := tsame_H a b (by omega)
        rw [hD]
        generalize getN a p = na at *
        generalize getN b p = nb at *
        obtain ⟨ka, da⟩ := na
        obtain ⟨kb, db⟩ := nb
        have hkk : decide ((ka, da) = (kb, db)) = decide (ka = kb ∧ da = db) := by rw [decide_eq_decide]; simp
        rw [hkk]
        (repeat first | refine HW_seq ?_ | refine hseqQ_normal ?_ | refine HW_skip ?_ | refine hblkQ_normal ?_ | refine HW_block ?_); refine HW_reg (fun K hK => ?_); simp (maxSteps := 2000000) (disch := omega) only [push_cast, ↓Int.cast_ofNat_Int, Nat.reduceBEq, Nat.reduceAdd, Nat.reduceLT, Nat.reduceEqDiff, reduceIte, reduceCtorEq, Nat.reduceLeDiff, Nat.reduceSub, List.reduceReplicate, Nat.reduceMul, Int.reduceToNat, Int.toNat_natCast, Nat.reducePow, reduceIte, cond_true', ltT, ltF, leT, leF, eqT, eqF, getD_map, wr64, toNat_succ, toNat_add, strs_len]; refine hK _ ?_; clear hK K
        (repeat first | refine HW_seq ?_ | refine hseqQ_normal ?_ | refine HW_skip ?_ | refine hblkQ_normal ?_ | refine HW_block ?_)
        refine HW_false rfl ?_
        (repeat first | refine hseqQ_ret ?_ | refine hseqQ_exit ?_ | refine hblkQ_exit ?_ | refine hblkQ_other rfl ?_ | refine hblkQ_ret ?_ | refine hblkQ_normal ?_ | refine HW_seq ?_ | refine hseqQ_normal ?_ | refine HW_skip ?_ | refine HW_exit ?_ | refine HW_ret ?_)
        (repeat first | refine HW_seq ?_ | refine hseqQ_normal ?_ | refine HW_skip ?_ | refine hblkQ_normal ?_ | refine HW_block ?_); refine HW_reg (fun K hK => ?_); simp (maxSteps := 2000000) (disch := omega) only [push_cast, ↓Int.cast_ofNat_Int, Nat.reduceBEq, Nat.reduceAdd, Nat.reduceLT, Nat.reduceEqDiff, reduceIte, reduceCtorEq, Nat.reduceLeDiff, Nat.reduceSub, List.reduceReplicate, Nat.reduceMul, Int.reduceToNat, Int.toNat_natCast, Nat.reducePow, reduceIte, cond_true', ltT, ltF, leT, leF, eqT, eqF, getD_map, wr64, toNat_succ, toNat_add]
        refine hat 656 cl25 c25a (.cons (lendL (ents_old _)) (.cons (.v _) .nil)) ?_
        rintro _ _ ⟨rfl, rfl⟩
        with_reducible refine hstop ?_; simp (maxSteps := 2000000) (disch := omega) only [push_cast, ↓Int.cast_ofNat_Int, Nat.reduceBEq, Nat.reduceAdd, Nat.reduceLT, Nat.reduceEqDiff, reduceIte, reduceCtorEq, Nat.reduceLeDiff, Nat.reduceSub, List.reduceReplicate, Nat.reduceMul, Int.reduceToNat, Int.toNat_natCast, Nat.reducePow, reduceIte, cond_true', ltT, ltF, leT, leF, eqT, eqF, getD_map, wr64, toNat_succ, toNat_add]
        refine hat 680 cl25 c25b (.cons (lendL (ents_old _)) (.cons (.v _) .nil)) ?_
        rintro _ _ ⟨rfl, rfl⟩
        with_reducible refine hstop ?_; simp (maxSteps := 2000000) (disch := omega) only [push_cast, ↓Int.cast_ofNat_Int, Nat.reduceBEq, Nat.reduceAdd, Nat.reduceLT, Nat.reduceEqDiff, reduceIte, reduceCtorEq, Nat.reduceLeDiff, Nat.reduceSub, List.reduceReplicate, Nat.reduceMul, Int.reduceToNat, Int.toNat_natCast, Nat.reducePow, reduceIte, cond_true', ltT, ltF, leT, leF, eqT, eqF, getD_map, wr64, toNat_succ, toNat_add]
        refine ⟨_, eqN _ _ _ _, ?_⟩
        generalize decide (ka = kb ∧ da = db) = u
        have dn' : decide ((D.length : Int) = 0) = decide (a = b) := by
          rw [← dn, decide_eq_decide]; omega
        with_reducible refine hstop ?_; simp (maxSteps := 2000000) (disch := omega) only [push_cast, ↓Int.cast_ofNat_Int, Nat.reduceBEq, Nat.reduceAdd, Nat.reduceLT, Nat.reduceEqDiff, reduceIte, reduceCtorEq, Nat.reduceLeDiff, Nat.reduceSub, List.reduceReplicate, Nat.reduceMul, Int.reduceToNat, Int.toNat_natCast, Nat.reducePow, reduceIte, cond_true', ltT, ltF, leT, leF, eqT, eqF, getD_map, wr64, toNat_succ, toNat_add, strs_len, dn']
        refine hatv cl30 c30 (.cons (lendL (ents_old _)) (.cons (lendL (ents_old _)) .nil)) ?_
        with_reducible refine hstop ?_; simp (maxSteps := 2000000) (disch := omega) only [push_cast, ↓Int.cast_ofNat_Int, Nat.reduceBEq, Nat.reduceAdd, Nat.reduceLT, Nat.reduceEqDiff, reduceIte, reduceCtorEq, Nat.reduceLeDiff, Nat.reduceSub, List.reduceReplicate, Nat.reduceMul, Int.reduceToNat, Int.toNat_natCast, Nat.reducePow, reduceIte, cond_true', ltT, ltF, leT, leF, eqT, eqF, getD_map, wr64, toNat_succ, toNat_add, strs_len, dn']
        refine hat 800 cl32 ce (.cons (lendL (ents_old _)) (.cons (lendL (ents_old _)) .nil)) ?_
        rintro _ _ ⟨rfl, rfl⟩
        with_reducible refine hstop ?_; simp (maxSteps := 2000000) (disch := omega) only [push_cast, ↓Int.cast_ofNat_Int, Nat.reduceBEq, Nat.reduceAdd, Nat.reduceLT, Nat.reduceEqDiff, reduceIte, reduceCtorEq, Nat.reduceLeDiff, Nat.reduceSub, List.reduceReplicate, Nat.reduceMul, Int.reduceToNat, Int.toNat_natCast, Nat.reducePow, reduceIte, cond_true', ltT, ltF, leT, leF, eqT, eqF, getD_map, wr64, toNat_succ, toNat_add, strs_len]
        refine hK _ ?_; clear hK K
        (repeat first | refine hseqQ_ret ?_ | refine hseqQ_exit ?_ | refine hblkQ_exit ?_ | refine hblkQ_other rfl ?_ | refine hblkQ_ret ?_ | refine hblkQ_normal ?_ | refine HW_seq ?_ | refine hseqQ_normal ?_ | refine HW_skip ?_ | refine HW_exit ?_ | refine HW_ret ?_)
        simp only [hfunQ_normal, hfunQ_ret, resH_nil, resH_cons, resH_cell, resC_go, htup_one, htup_two, hlk_nil, hlk_cons, Nat.reduceEqDiff, reduceIte, reduceCtorEq]
        exact hres_v rfl
    · rcases (checkS_zero b).resolve_left hb with h | h
      · rw [h] at cb
        (repeat first | refine HW_seq ?_ | refine hseqQ_normal ?_ | refine HW_skip ?_ | refine hblkQ_normal ?_ | refine HW_block ?_); refine HW_reg (fun K hK => ?_); simp (maxSteps := 2000000) (disch := omega) only [push_cast, ↓Int.cast_ofNat_Int, Nat.reduceBEq, Nat.reduceAdd, Nat.reduceLT, Nat.reduceEqDiff, reduceIte, reduceCtorEq, Nat.reduceLeDiff, Nat.reduceSub, List.reduceReplicate, Nat.reduceMul, Int.reduceToNat, Int.toNat_natCast, Nat.reducePow, reduceIte, cond_true', ltT, ltF, leT, leF, eqT, eqF, getD_map, wr64, toNat_succ, toNat_add]
        refine hatv cl14 tawake_H .nil ?_
        with_reducible refine hstop ?_; simp (maxSteps := 2000000) (disch := omega) only [push_cast, ↓Int.cast_ofNat_Int, Nat.reduceBEq, Nat.reduceAdd, Nat.reduceLT, Nat.reduceEqDiff, reduceIte, reduceCtorEq, Nat.reduceLeDiff, Nat.reduceSub, List.reduceReplicate, Nat.reduceMul, Int.reduceToNat, Int.toNat_natCast, Nat.reducePow, reduceIte, cond_true', ltT, ltF, leT, leF, eqT, eqF, getD_map, wr64, toNat_succ, toNat_add]
        refine hatv cl15 ca (.cons (lendL (ents_old _)) .nil) ?_
        with_reducible refine hstop ?_; simp (maxSteps := 2000000) (disch := omega) only [push_cast, ↓Int.cast_ofNat_Int, Nat.reduceBEq, Nat.reduceAdd, Nat.reduceLT, Nat.reduceEqDiff, reduceIte, reduceCtorEq, Nat.reduceLeDiff, Nat.reduceSub, List.reduceReplicate, Nat.reduceMul, Int.reduceToNat, Int.toNat_natCast, Nat.reducePow, reduceIte, cond_true', ltT, ltF, leT, leF, eqT, eqF, getD_map, wr64, toNat_succ, toNat_add]
        refine hatv cl15 cb (.cons (lendL (ents_old _)) .nil) ?_
        with_reducible refine hstop ?_; simp (maxSteps := 2000000) (disch := omega) only [push_cast, ↓Int.cast_ofNat_Int, Nat.reduceBEq, Nat.reduceAdd, Nat.reduceLT, Nat.reduceEqDiff, reduceIte, reduceCtorEq, Nat.reduceLeDiff, Nat.reduceSub, List.reduceReplicate, Nat.reduceMul, Int.reduceToNat, Int.toNat_natCast, Nat.reducePow, reduceIte, cond_true', ltT, ltF, leT, leF, eqT, eqF, getD_map, wr64, toNat_succ, toNat_add]
        refine hK _ ?_; clear hK K
        refine HW_true rfl ?_
        (repeat first | refine HW_seq ?_ | refine hseqQ_normal ?_ | refine HW_skip ?_ | refine hblkQ_normal ?_ | refine HW_block ?_); refine HW_reg (fun K hK => ?_); simp (maxSteps := 2000000) (disch := omega) only [push_cast, ↓Int.cast_ofNat_Int, Nat.reduceBEq, Nat.reduceAdd, Nat.reduceLT, Nat.reduceEqDiff, reduceIte, reduceCtorEq, Nat.reduceLeDiff, Nat.reduceSub, List.reduceReplicate, Nat.reduceMul, Int.reduceToNat, Int.toNat_natCast, Nat.reducePow, reduceIte, cond_true', ltT, ltF, leT, leF, eqT, eqF, getD_map, wr64, toNat_succ, toNat_add]
        refine hatv cl14 tawake_H .nil ?_
        with_reducible refine hstop ?_; simp (maxSteps := 2000000) (disch := omega) only [push_cast, ↓Int.cast_ofNat_Int, Nat.reduceBEq, Nat.reduceAdd, Nat.reduceLT, Nat.reduceEqDiff, reduceIte, reduceCtorEq, Nat.reduceLeDiff, Nat.reduceSub, List.reduceReplicate, Nat.reduceMul, Int.reduceToNat, Int.toNat_natCast, Nat.reducePow, reduceIte, cond_true', ltT, ltF, leT, leF, eqT, eqF, getD_map, wr64, toNat_succ, toNat_add]
        refine hK _ ?_; clear hK K
        (repeat first | refine hseqQ_ret ?_ | refine hseqQ_exit ?_ | refine hblkQ_exit ?_ | refine hblkQ_other rfl ?_ | refine hblkQ_ret ?_ | refine hblkQ_normal ?_ | refine HW_seq ?_ | refine hseqQ_normal ?_ | refine HW_skip ?_ | refine HW_exit ?_ | refine HW_ret ?_)
        simp only [hfunQ_normal, hfunQ_ret, resH_nil, resH_cons, resH_cell, resC_go, htup_one, htup_two, hlk_nil, hlk_cons, Nat.reduceEqDiff, reduceIte, reduceCtorEq]
        exact hres_v rfl
      · rw [h] at cb
        (repeat first | refine HW_seq ?_ | refine hseqQ_normal ?_ | refine HW_skip ?_ | refine hblkQ_normal ?_ | refine HW_block ?_); refine HW_reg (fun K hK => ?_); simp (maxSteps := 2000000) (disch := omega) only [push_cast, ↓Int.cast_ofNat_Int, Nat.reduceBEq, Nat.reduceAdd, Nat.reduceLT, Nat.reduceEqDiff, reduceIte, reduceCtorEq, Nat.reduceLeDiff, Nat.reduceSub, List.reduceReplicate, Nat.reduceMul, Int.reduceToNat, Int.toNat_natCast, Nat.reducePow, reduceIte, cond_true', ltT, ltF, leT, leF, eqT, eqF, getD_map, wr64, toNat_succ, toNat_add]
        refine hatv cl14 tawake_H .nil ?_
        with_reducible refine hstop ?_; simp (maxSteps := 2000000) (disch := omega) only [push_cast, ↓Int.cast_ofNat_Int, Nat.reduceBEq, Nat.reduceAdd, Nat.reduceLT, Nat.reduceEqDiff, reduceIte, reduceCtorEq, Nat.reduceLeDiff, Nat.reduceSub, List.reduceReplicate, Nat.reduceMul, Int.reduceToNat, Int.toNat_natCast, Nat.reducePow, reduceIte, cond_true', ltT, ltF, leT, leF, eqT, eqF, getD_map, wr64, toNat_succ, toNat_add]
        refine hatv cl15 ca (.cons (lendL (ents_old _)) .nil) ?_
        with_reducible refine hstop ?_; simp (maxSteps := 2000000) (disch := omega) only [push_cast, ↓Int.cast_ofNat_Int, Nat.reduceBEq, Nat.reduceAdd, Nat.reduceLT, Nat.reduceEqDiff, reduceIte, reduceCtorEq, Nat.reduceLeDiff, Nat.reduceSub, List.reduceReplicate, Nat.reduceMul, Int.reduceToNat, Int.toNat_natCast, Nat.reducePow, reduceIte, cond_true', ltT, ltF, leT, leF, eqT, eqF, getD_map, wr64, toNat_succ, toNat_add]
        refine hatv cl15 cb (.cons (lendL (ents_old _)) .nil) ?_
        with_reducible refine hstop ?_; simp (maxSteps := 2000000) (disch := omega) only [push_cast, ↓Int.cast_ofNat_Int, Nat.reduceBEq, Nat.reduceAdd, Nat.reduceLT, Nat.reduceEqDiff, reduceIte, reduceCtorEq, Nat.reduceLeDiff, Nat.reduceSub, List.reduceReplicate, Nat.reduceMul, Int.reduceToNat, Int.toNat_natCast, Nat.reducePow, reduceIte, cond_true', ltT, ltF, leT, leF, eqT, eqF, getD_map, wr64, toNat_succ, toNat_add]
        refine hK _ ?_; clear hK K
        refine HW_true rfl ?_
        (repeat first | refine HW_seq ?_ | refine hseqQ_normal ?_ | refine HW_skip ?_ | refine hblkQ_normal ?_ | refine HW_block ?_); refine HW_reg (fun K hK => ?_); simp (maxSteps := 2000000) (disch := omega) only [push_cast, ↓Int.cast_ofNat_Int, Nat.reduceBEq, Nat.reduceAdd, Nat.reduceLT, Nat.reduceEqDiff, reduceIte, reduceCtorEq, Nat.reduceLeDiff, Nat.reduceSub, List.reduceReplicate, Nat.reduceMul, Int.reduceToNat, Int.toNat_natCast, Nat.reducePow, reduceIte, cond_true', ltT, ltF, leT, leF, eqT, eqF, getD_map, wr64, toNat_succ, toNat_add]
        refine hatv cl14 tawake_H .nil ?_
        with_reducible refine hstop ?_; simp (maxSteps := 2000000) (disch := omega) only [push_cast, ↓Int.cast_ofNat_Int, Nat.reduceBEq, Nat.reduceAdd, Nat.reduceLT, Nat.reduceEqDiff, reduceIte, reduceCtorEq, Nat.reduceLeDiff, Nat.reduceSub, List.reduceReplicate, Nat.reduceMul, Int.reduceToNat, Int.toNat_natCast, Nat.reducePow, reduceIte, cond_true', ltT, ltF, leT, leF, eqT, eqF, getD_map, wr64, toNat_succ, toNat_add]
        refine hK _ ?_; clear hK K
        (repeat first | refine hseqQ_ret ?_ | refine hseqQ_exit ?_ | refine hblkQ_exit ?_ | refine hblkQ_other rfl ?_ | refine hblkQ_ret ?_ | refine hblkQ_normal ?_ | refine HW_seq ?_ | refine hseqQ_normal ?_ | refine HW_skip ?_ | refine HW_exit ?_ | refine HW_ret ?_)
        simp only [hfunQ_normal, hfunQ_ret, resH_nil, resH_cons, resH_cell, resC_go, htup_one, htup_two, hlk_nil, hlk_cons, Nat.reduceEqDiff, reduceIte, reduceCtorEq]
        exact hres_v rfl
  · rcases (checkS_zero a).resolve_left ha with h | h
    · rw [h] at ca
      (repeat first | refine HW_seq ?_ | refine hseqQ_normal ?_ | refine HW_skip ?_ | refine hblkQ_normal ?_ | refine HW_block ?_); refine HW_reg (fun K hK => ?_); simp (maxSteps := 2000000) (disch := omega) only [push_cast, ↓Int.cast_ofNat_Int, Nat.reduceBEq, Nat.reduceAdd, Nat.reduceLT, Nat.reduceEqDiff, reduceIte, reduceCtorEq, Nat.reduceLeDiff, Nat.reduceSub, List.reduceReplicate, Nat.reduceMul, Int.reduceToNat, Int.toNat_natCast, Nat.reducePow, reduceIte, cond_true', ltT, ltF, leT, leF, eqT, eqF, getD_map, wr64, toNat_succ, toNat_add]
      refine hatv cl14 tawake_H .nil ?_
      with_reducible refine hstop ?_; simp (maxSteps := 2000000) (disch := omega) only [push_cast, ↓Int.cast_ofNat_Int, Nat.reduceBEq, Nat.reduceAdd, Nat.reduceLT, Nat.reduceEqDiff, reduceIte, reduceCtorEq, Nat.reduceLeDiff, Nat.reduceSub, List.reduceReplicate, Nat.reduceMul, Int.reduceToNat, Int.toNat_natCast, Nat.reducePow, reduceIte, cond_true', ltT, ltF, leT, leF, eqT, eqF, getD_map, wr64, toNat_succ, toNat_add]
      refine hatv cl15 ca (.cons (lendL (ents_old _)) .nil) ?_
      with_reducible refine hstop ?_; simp (maxSteps := 2000000) (disch := omega) only [push_cast, ↓Int.cast_ofNat_Int, Nat.reduceBEq, Nat.reduceAdd, Nat.reduceLT, Nat.reduceEqDiff, reduceIte, reduceCtorEq, Nat.reduceLeDiff, Nat.reduceSub, List.reduceReplicate, Nat.reduceMul, Int.reduceToNat, Int.toNat_natCast, Nat.reducePow, reduceIte, cond_true', ltT, ltF, leT, leF, eqT, eqF, getD_map, wr64, toNat_succ, toNat_add]
      refine hK _ ?_; clear hK K
      refine HW_true rfl ?_
      (repeat first | refine HW_seq ?_ | refine hseqQ_normal ?_ | refine HW_skip ?_ | refine hblkQ_normal ?_ | refine HW_block ?_); refine HW_reg (fun K hK => ?_); simp (maxSteps := 2000000) (disch := omega) only [push_cast, ↓Int.cast_ofNat_Int, Nat.reduceBEq, Nat.reduceAdd, Nat.reduceLT, Nat.reduceEqDiff, reduceIte, reduceCtorEq, Nat.reduceLeDiff, Nat.reduceSub, List.reduceReplicate, Nat.reduceMul, Int.reduceToNat, Int.toNat_natCast, Nat.reducePow, reduceIte, cond_true', ltT, ltF, leT, leF, eqT, eqF, getD_map, wr64, toNat_succ, toNat_add]
      refine hatv cl14 tawake_H .nil ?_
      with_reducible refine hstop ?_; simp (maxSteps := 2000000) (disch := omega) only [push_cast, ↓Int.cast_ofNat_Int, Nat.reduceBEq, Nat.reduceAdd, Nat.reduceLT, Nat.reduceEqDiff, reduceIte, reduceCtorEq, Nat.reduceLeDiff, Nat.reduceSub, List.reduceReplicate, Nat.reduceMul, Int.reduceToNat, Int.toNat_natCast, Nat.reducePow, reduceIte, cond_true', ltT, ltF, leT, leF, eqT, eqF, getD_map, wr64, toNat_succ, toNat_add]
      refine hK _ ?_; clear hK K
      (repeat first | refine hseqQ_ret ?_ | refine hseqQ_exit ?_ | refine hblkQ_exit ?_ | refine hblkQ_other rfl ?_ | refine hblkQ_ret ?_ | refine hblkQ_normal ?_ | refine HW_seq ?_ | refine hseqQ_normal ?_ | refine HW_skip ?_ | refine HW_exit ?_ | refine HW_ret ?_)
      simp only [hfunQ_normal, hfunQ_ret, resH_nil, resH_cons, resH_cell, resC_go, htup_one, htup_two, hlk_nil, hlk_cons, Nat.reduceEqDiff, reduceIte, reduceCtorEq]
      exact hres_v rfl
    · rw [h] at ca
      (repeat first | refine HW_seq ?_ | refine hseqQ_normal ?_ | refine HW_skip ?_ | refine hblkQ_normal ?_ | refine HW_block ?_); refine HW_reg (fun K hK => ?_); simp (maxSteps := 2000000) (disch := omega) only [push_cast, ↓Int.cast_ofNat_Int, Nat.reduceBEq, Nat.reduceAdd, Nat.reduceLT, Nat.reduceEqDiff, reduceIte, reduceCtorEq, Nat.reduceLeDiff, Nat.reduceSub, List.reduceReplicate, Nat.reduceMul, Int.reduceToNat, Int.toNat_natCast, Nat.reducePow, reduceIte, cond_true', ltT, ltF, leT, leF, eqT, eqF, getD_map, wr64, toNat_succ, toNat_add]
      refine hatv cl14 tawake_H .nil ?_
      with_reducible refine hstop ?_; simp (maxSteps := 2000000) (disch := omega) only [push_cast, ↓Int.cast_ofNat_Int, Nat.reduceBEq, Nat.reduceAdd, Nat.reduceLT, Nat.reduceEqDiff, reduceIte, reduceCtorEq, Nat.reduceLeDiff, Nat.reduceSub, List.reduceReplicate, Nat.reduceMul, Int.reduceToNat, Int.toNat_natCast, Nat.reducePow, reduceIte, cond_true', ltT, ltF, leT, leF, eqT, eqF, getD_map, wr64, toNat_succ, toNat_add]
      refine hatv cl15 ca (.cons (lendL (ents_old _)) .nil) ?_
      with_reducible refine hstop ?_; simp (maxSteps := 2000000) (disch := omega) only [push_cast, ↓Int.cast_ofNat_Int, Nat.reduceBEq, Nat.reduceAdd, Nat.reduceLT, Nat.reduceEqDiff, reduceIte, reduceCtorEq, Nat.reduceLeDiff, Nat.reduceSub, List.reduceReplicate, Nat.reduceMul, Int.reduceToNat, Int.toNat_natCast, Nat.reducePow, reduceIte, cond_true', ltT, ltF, leT, leF, eqT, eqF, getD_map, wr64, toNat_succ, toNat_add]
      refine hK _ ?_; clear hK K
      refine HW_true rfl ?_
      (repeat first | refine HW_seq ?_ | refine hseqQ_normal ?_ | refine HW_skip ?_ | refine hblkQ_normal ?_ | refine HW_block ?_); refine HW_reg (fun K hK => ?_); simp (maxSteps := 2000000) (disch := omega) only [push_cast, ↓Int.cast_ofNat_Int, Nat.reduceBEq, Nat.reduceAdd, Nat.reduceLT, Nat.reduceEqDiff, reduceIte, reduceCtorEq, Nat.reduceLeDiff, Nat.reduceSub, List.reduceReplicate, Nat.reduceMul, Int.reduceToNat, Int.toNat_natCast, Nat.reducePow, reduceIte, cond_true', ltT, ltF, leT, leF, eqT, eqF, getD_map, wr64, toNat_succ, toNat_add]
      refine hatv cl14 tawake_H .nil ?_
      with_reducible refine hstop ?_; simp (maxSteps := 2000000) (disch := omega) only [push_cast, ↓Int.cast_ofNat_Int, Nat.reduceBEq, Nat.reduceAdd, Nat.reduceLT, Nat.reduceEqDiff, reduceIte, reduceCtorEq, Nat.reduceLeDiff, Nat.reduceSub, List.reduceReplicate, Nat.reduceMul, Int.reduceToNat, Int.toNat_natCast, Nat.reducePow, reduceIte, cond_true', ltT, ltF, leT, leF, eqT, eqF, getD_map, wr64, toNat_succ, toNat_add]
      refine hK _ ?_; clear hK K
      (repeat first | refine hseqQ_ret ?_ | refine hseqQ_exit ?_ | refine hblkQ_exit ?_ | refine hblkQ_other rfl ?_ | refine hblkQ_ret ?_ | refine hblkQ_normal ?_ | refine HW_seq ?_ | refine hseqQ_normal ?_ | refine HW_skip ?_ | refine HW_exit ?_ | refine HW_ret ?_)
      simp only [hfunQ_normal, hfunQ_ret, resH_nil, resH_cons, resH_cell, resC_go, htup_one, htup_two, hlk_nil, hlk_cons, Nat.reduceEqDiff, reduceIte, reduceCtorEq]
      exact hres_v rfl
theorem treeDiffs_U (a b : List Ent) (p : ByteArray) (hu : fw (.lst false (ents a)) + (fw (.lst false (ents b)) + (fw (.v (.string p)) + 0)) ≤ 1048576) : HFun Tryd.prog 6 [.lst false (ents a), .lst false (ents b), .v (.string p)] (fun h st => h = .v (.bool true)) := by
  obtain ⟨h1, h2⟩ := fw_ents a
  obtain ⟨h3, h4⟩ := fw_ents b
  exact treeDiffs_H a b p (by omega) (by omega) (fun e he => by have := (h2 e he).1; omega) (fun e he => by have := (h4 e he).1; omega)
end Go.Proofs.YtkonlklieacjoaaDoor
