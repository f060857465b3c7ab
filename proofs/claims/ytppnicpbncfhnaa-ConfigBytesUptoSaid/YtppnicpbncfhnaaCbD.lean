/-
  Settings as bytes: Encode, the program's and the document's.
-/
import Derived.Test.YtppnicpbncfhnaaCbC
set_option linter.unusedSimpArgs false
set_option linter.unusedVariables false
set_option maxRecDepth 20000
namespace Go.Cb
open Go Go.Eng Go.RowKit Go.Proofs.Ytppnicpbncfhnaa
theorem numF_len (l : List Int) : (numF l).length = l.length := by simp [numF]
theorem numF_wid (l : List Int) : Wid 1 (numF l) = True := eq_true (wid_map l fun _ => rfl)
theorem numF_old (l : List Int) : olds (numF l) = numF l := by
  unfold olds numF; rw [List.map_map]; apply List.map_congr_left; intro s _; simp [FV.old]
theorem numF_fresh (l : List Int) : ∀ x ∈ numF l, ∀ f ∈ x, FreshF f := fun x hx f hf => by
  obtain ⟨s, -, rfl⟩ := List.mem_map.1 hx; simp at hf; rcases hf with rfl; exact .v _
theorem numF_get {l : List Int} {i : Nat} {d : List FV} (h : i < l.length) : (numF l).getD i d = [.v (.int .i64 (l.getD i 0))] := by
  unfold numF; rw [getD_map h, List.getD_eq_getElem?_getD, List.getElem?_eq_getElem h]; rfl
theorem numF_snoc (l : List Int) (n : Int) : numF l ++ [[.v (.int .i64 n)]] = numF (l ++ [n]) := by simp [numF]
theorem take_snoc {l : List Int} {i : Nat} (h : i < l.length) : l.take (i + 1) = l.take i ++ [l.getD i 0] := by
  rw [List.take_succ_eq_append_getElem h, List.getD_eq_getElem?_getD, List.getElem?_eq_getElem h]; rfl
theorem refInt_size (n : Int) (h : I64 n) : (refInt n).size ≤ 10 := by
  obtain ⟨x, hx, e, -⟩ := unzz_refInt n h
  rw [e]; exact vstr_size hx
theorem encN_size : ∀ l : List Int, (∀ n ∈ l, I64 n) → (encN l).size ≤ 10 * l.length
  | [], _ => by show (0 : Nat) ≤ _; omega
  | n :: r, h => by
    have h1 := refInt_size n (h n (by simp))
    have h2 := encN_size r fun m hm => h m (by simp [hm])
    rw [encN, ByteArray.size_append, List.length_cons]; omega
end Go.Cb
namespace Go.Proofs.Ytppnicpbncfhnaa
open Go Go.Eng Go.RowKit Go.Cb
theorem ac94 : aCell Try.prog 94 = some (2, some 7) := by kernel_rfl
set_option maxHeartbeats 4000000 in
theorem numbers_H (c : List Int) (hc : c.length = 17) : HFun Try.prog 65 [.agg (nums c)] (fun h st => h = .own 0 ∧ st = [(0, .sl true 3 1 (numF c))]) := by
  refine hfun (N := 36) Try.func65 rfl Try.ntmps65 Try.results65 (by simp) ?_
  have g0 := @nums_get c 0 .junk (by omega)
  have g1 := @nums_get c 1 .junk (by omega)
  have g2 := @nums_get c 2 .junk (by omega)
  have hn : (nums c).length = 17 := by rw [nums_len, hc]
  have e3 : [[FV.v (.int .i64 (c.getD 0 0))], [.v (.int .i64 (c.getD 1 0))], [.v (.int .i64 (c.getD 2 0))]] = numF (c.take 3) := by
    match c, hc with
    | [_, _, _, _, _, _, _, _, _, _, _, _, _, _, _, _, _], _ => rfl
  (repeat first | refine HW_seq ?_ | refine hseqQ_normal ?_ | refine HW_skip ?_ | refine hblkQ_normal ?_ | refine HW_block ?_); refine HW_reg (fun K hK => ?_); simp (maxSteps := 2000000) (disch := omega) only [push_cast, ↓Int.cast_ofNat_Int, Nat.reduceBEq, Nat.reduceAdd, Nat.reduceLT, Nat.reduceEqDiff, reduceIte, reduceCtorEq, Nat.reduceLeDiff, Nat.reduceSub, List.reduceReplicate, Nat.reduceMul, Int.reduceToNat, Int.toNat_natCast, Nat.reducePow, reduceIte, hn]; (repeat refine ⟨by first | omega | decide | ((repeat' apply And.intro) <;> first | omega | decide), ?_⟩); refine hK _ ?_; clear hK K
  (repeat first | refine HW_seq ?_ | refine hseqQ_normal ?_ | refine HW_skip ?_ | refine hblkQ_normal ?_ | refine HW_block ?_); refine HW_reg (fun K hK => ?_); simp (maxSteps := 2000000) (disch := omega) only [push_cast, ↓Int.cast_ofNat_Int, Nat.reduceBEq, Nat.reduceAdd, Nat.reduceLT, Nat.reduceEqDiff, reduceIte, reduceCtorEq, Nat.reduceLeDiff, Nat.reduceSub, List.reduceReplicate, Nat.reduceMul, Int.reduceToNat, Int.toNat_natCast, Nat.reducePow, reduceIte, hn, g0, g1, g2, nums_kill, e3]; refine hK _ ?_; clear hK K
  (repeat first | refine HW_seq ?_ | refine hseqQ_normal ?_ | refine HW_skip ?_ | refine hblkQ_normal ?_ | refine HW_block ?_); refine HW_reg (fun K hK => ?_); simp (maxSteps := 2000000) (disch := omega) only [push_cast, ↓Int.cast_ofNat_Int, Nat.reduceBEq, Nat.reduceAdd, Nat.reduceLT, Nat.reduceEqDiff, reduceIte, reduceCtorEq, Nat.reduceLeDiff, Nat.reduceSub, List.reduceReplicate, Nat.reduceMul, Int.reduceToNat, Int.toNat_natCast, Nat.reducePow, reduceIte]; refine hK _ ?_; clear hK K
  (repeat first | refine HW_seq ?_ | refine hseqQ_normal ?_ | refine HW_skip ?_ | refine hblkQ_normal ?_ | refine HW_block ?_)
  refine HW_loop (fun i : Nat => ⟨[(1, .ptr 8 17 0 0), (3, .own 96), (4, .v (.int .i64 i))], [(8, .bx true 66 (nums c)), (96, .sl true 3 1 (numF (c.take (3 + i))))]⟩) (fun i => i ≤ 7) (fun i => 7 - i) [1, 3, 4] [8, 96] 0 (by simp only [keep_eq, hkeep_nil, hkeep_cons, rkeep_nil, rkeep_cons, hlk_nil, hlk_cons, rlk_nil, rlk_cons, Nat.reduceEqDiff, reduceIte]; try rfl) (by decide) ?_
  intro i hi
  have hl : (c.take (3 + i)).length = 3 + i := by rw [List.length_take]; omega
  by_cases hlt : i < 7
  · have hg := @nums_get c (3 + i) .junk (by omega)
    have e2 : numF (c.take (3 + i)) ++ [[.v (.int .i64 (c.getD (3 + i) 0))]] = numF (c.take (3 + (i + 1))) := by rw [numF_snoc, ← take_snoc (by omega)]; rfl
    (repeat first | refine HW_seq ?_ | refine hseqQ_normal ?_ | refine HW_skip ?_ | refine hblkQ_normal ?_ | refine HW_block ?_); refine HW_reg (fun K hK => ?_); simp (maxSteps := 2000000) (disch := omega) only [push_cast, ↓Int.cast_ofNat_Int, Nat.reduceBEq, Nat.reduceAdd, Nat.reduceLT, Nat.reduceEqDiff, reduceIte, reduceCtorEq, Nat.reduceLeDiff, Nat.reduceSub, List.reduceReplicate, Nat.reduceMul, Int.reduceToNat, Int.toNat_natCast, Nat.reducePow, reduceIte]; refine hK _ ?_; clear hK K
    (repeat first | refine HW_seq ?_ | refine hseqQ_normal ?_ | refine HW_skip ?_ | refine hblkQ_normal ?_ | refine HW_block ?_)
    refine HW_true rfl ?_
    (repeat first | refine hseqQ_ret ?_ | refine hseqQ_exit ?_ | refine hblkQ_exit ?_ | refine hblkQ_other rfl ?_ | refine hblkQ_ret ?_ | refine hblkQ_normal ?_ | refine HW_seq ?_ | refine hseqQ_normal ?_ | refine HW_skip ?_ | refine HW_exit ?_ | refine HW_ret ?_)
    (repeat first | refine HW_seq ?_ | refine hseqQ_normal ?_ | refine HW_skip ?_ | refine hblkQ_normal ?_ | refine HW_block ?_); refine HW_reg (fun K hK => ?_); simp (maxSteps := 2000000) (disch := omega) only [push_cast, ↓Int.cast_ofNat_Int, Nat.reduceBEq, Nat.reduceAdd, Nat.reduceLT, Nat.reduceEqDiff, reduceIte, reduceCtorEq, Nat.reduceLeDiff, Nat.reduceSub, List.reduceReplicate, Nat.reduceMul, Int.reduceToNat, Int.toNat_natCast, Nat.reducePow, reduceIte, hn, hg, numF_len, numF_wid, hl, nums_kill, e2]
    (repeat refine ⟨by first | omega | decide | ((repeat' apply And.intro) <;> first | omega | decide), ?_⟩)
    refine hK _ ?_; clear hK K
    (repeat first | refine hseqQ_ret ?_ | refine hseqQ_exit ?_ | refine hblkQ_exit ?_ | refine hblkQ_other rfl ?_ | refine hblkQ_ret ?_ | refine hblkQ_normal ?_ | refine HW_seq ?_ | refine hseqQ_normal ?_ | refine HW_skip ?_ | refine HW_exit ?_ | refine HW_ret ?_)
    (repeat first | refine HW_seq ?_ | refine hseqQ_normal ?_ | refine HW_skip ?_ | refine hblkQ_normal ?_ | refine HW_block ?_); refine HW_reg (fun K hK => ?_); simp (maxSteps := 2000000) (disch := omega) only [push_cast, ↓Int.cast_ofNat_Int, Nat.reduceBEq, Nat.reduceAdd, Nat.reduceLT, Nat.reduceEqDiff, reduceIte, reduceCtorEq, Nat.reduceLeDiff, Nat.reduceSub, List.reduceReplicate, Nat.reduceMul, Int.reduceToNat, Int.toNat_natCast, Nat.reducePow, reduceIte]; refine hK _ ?_; clear hK K
    (repeat first | refine hseqQ_ret ?_ | refine hseqQ_exit ?_ | refine hblkQ_exit ?_ | refine hblkQ_other rfl ?_ | refine hblkQ_ret ?_ | refine hblkQ_normal ?_ | refine HW_seq ?_ | refine hseqQ_normal ?_ | refine HW_skip ?_ | refine HW_exit ?_ | refine HW_ret ?_)
    exact ⟨i + 1, by simp only [keep_eq, hkeep_nil, hkeep_cons, rkeep_nil, rkeep_cons, hlk_nil, hlk_cons, rlk_nil, rlk_cons, Nat.reduceEqDiff, reduceIte]; try rfl, hlt, by omega⟩
  · have hi7 : i = 7 := by omega
    subst hi7
    (repeat first | refine HW_seq ?_ | refine hseqQ_normal ?_ | refine HW_skip ?_ | refine hblkQ_normal ?_ | refine HW_block ?_); refine HW_reg (fun K hK => ?_); simp (maxSteps := 2000000) (disch := omega) only [push_cast, ↓Int.cast_ofNat_Int, Nat.reduceBEq, Nat.reduceAdd, Nat.reduceLT, Nat.reduceEqDiff, reduceIte, reduceCtorEq, Nat.reduceLeDiff, Nat.reduceSub, List.reduceReplicate, Nat.reduceMul, Int.reduceToNat, Int.toNat_natCast, Nat.reducePow, reduceIte]; refine hK _ ?_; clear hK K
    (repeat first | refine HW_seq ?_ | refine hseqQ_normal ?_ | refine HW_skip ?_ | refine hblkQ_normal ?_ | refine HW_block ?_)
    refine HW_false rfl ?_
    (repeat first | refine hseqQ_ret ?_ | refine hseqQ_exit ?_ | refine hblkQ_exit ?_ | refine hblkQ_other rfl ?_ | refine hblkQ_ret ?_ | refine hblkQ_normal ?_ | refine HW_seq ?_ | refine hseqQ_normal ?_ | refine HW_skip ?_ | refine HW_exit ?_ | refine HW_ret ?_)
    (repeat first | refine HW_seq ?_ | refine hseqQ_normal ?_ | refine HW_skip ?_ | refine hblkQ_normal ?_ | refine HW_block ?_); refine HW_reg (fun K hK => ?_); simp (maxSteps := 2000000) (disch := omega) only [push_cast, ↓Int.cast_ofNat_Int, Nat.reduceBEq, Nat.reduceAdd, Nat.reduceLT, Nat.reduceEqDiff, reduceIte, reduceCtorEq, Nat.reduceLeDiff, Nat.reduceSub, List.reduceReplicate, Nat.reduceMul, Int.reduceToNat, Int.toNat_natCast, Nat.reducePow, reduceIte]; refine hK _ ?_; clear hK K
    (repeat first | refine HW_seq ?_ | refine hseqQ_normal ?_ | refine HW_skip ?_ | refine hblkQ_normal ?_ | refine HW_block ?_)
    refine HW_loop (fun i : Nat => ⟨[(1, .ptr 8 17 0 0), (3, .own 96), (5, .v (.int .i64 i))], [(8, .bx true 66 (nums c)), (96, .sl true 3 1 (numF (c.take (10 + i))))]⟩) (fun i => i ≤ 7) (fun i => 7 - i) [1, 3, 5] [8, 96] 0 (by simp only [keep_eq, hkeep_nil, hkeep_cons, rkeep_nil, rkeep_cons, hlk_nil, hlk_cons, rlk_nil, rlk_cons, Nat.reduceEqDiff, reduceIte]; try rfl) (by decide) ?_
    clear hlt hi hl
    intro i hi
    have hl : (c.take (10 + i)).length = 10 + i := by rw [List.length_take]; omega
    by_cases hlt : i < 7
    · have hg := @nums_get c (10 + i) .junk (by omega)
      have e2 : numF (c.take (10 + i)) ++ [[.v (.int .i64 (c.getD (10 + i) 0))]] = numF (c.take (10 + (i + 1))) := by rw [numF_snoc, ← take_snoc (by omega)]; rfl
      (repeat first | refine HW_seq ?_ | refine hseqQ_normal ?_ | refine HW_skip ?_ | refine hblkQ_normal ?_ | refine HW_block ?_); refine HW_reg (fun K hK => ?_); simp (maxSteps := 2000000) (disch := omega) only [push_cast, ↓Int.cast_ofNat_Int, Nat.reduceBEq, Nat.reduceAdd, Nat.reduceLT, Nat.reduceEqDiff, reduceIte, reduceCtorEq, Nat.reduceLeDiff, Nat.reduceSub, List.reduceReplicate, Nat.reduceMul, Int.reduceToNat, Int.toNat_natCast, Nat.reducePow, reduceIte]; refine hK _ ?_; clear hK K
      (repeat first | refine HW_seq ?_ | refine hseqQ_normal ?_ | refine HW_skip ?_ | refine hblkQ_normal ?_ | refine HW_block ?_)
      refine HW_true rfl ?_
      (repeat first | refine hseqQ_ret ?_ | refine hseqQ_exit ?_ | refine hblkQ_exit ?_ | refine hblkQ_other rfl ?_ | refine hblkQ_ret ?_ | refine hblkQ_normal ?_ | refine HW_seq ?_ | refine hseqQ_normal ?_ | refine HW_skip ?_ | refine HW_exit ?_ | refine HW_ret ?_)
      (repeat first | refine HW_seq ?_ | refine hseqQ_normal ?_ | refine HW_skip ?_ | refine hblkQ_normal ?_ | refine HW_block ?_); refine HW_reg (fun K hK => ?_); simp (maxSteps := 2000000) (disch := omega) only [push_cast, ↓Int.cast_ofNat_Int, Nat.reduceBEq, Nat.reduceAdd, Nat.reduceLT, Nat.reduceEqDiff, reduceIte, reduceCtorEq, Nat.reduceLeDiff, Nat.reduceSub, List.reduceReplicate, Nat.reduceMul, Int.reduceToNat, Int.toNat_natCast, Nat.reducePow, reduceIte, hn, hg, numF_len, numF_wid, hl, nums_kill, e2]
      (repeat refine ⟨by first | omega | decide | ((repeat' apply And.intro) <;> first | omega | decide), ?_⟩)
      refine hK _ ?_; clear hK K
      (repeat first | refine hseqQ_ret ?_ | refine hseqQ_exit ?_ | refine hblkQ_exit ?_ | refine hblkQ_other rfl ?_ | refine hblkQ_ret ?_ | refine hblkQ_normal ?_ | refine HW_seq ?_ | refine hseqQ_normal ?_ | refine HW_skip ?_ | refine HW_exit ?_ | refine HW_ret ?_)
      (repeat first | refine HW_seq ?_ | refine hseqQ_normal ?_ | refine HW_skip ?_ | refine hblkQ_normal ?_ | refine HW_block ?_); refine HW_reg (fun K hK => ?_); simp (maxSteps := 2000000) (disch := omega) only [push_cast, ↓Int.cast_ofNat_Int, Nat.reduceBEq, Nat.reduceAdd, Nat.reduceLT, Nat.reduceEqDiff, reduceIte, reduceCtorEq, Nat.reduceLeDiff, Nat.reduceSub, List.reduceReplicate, Nat.reduceMul, Int.reduceToNat, Int.toNat_natCast, Nat.reducePow, reduceIte]; refine hK _ ?_; clear hK K
      (repeat first | refine hseqQ_ret ?_ | refine hseqQ_exit ?_ | refine hblkQ_exit ?_ | refine hblkQ_other rfl ?_ | refine hblkQ_ret ?_ | refine hblkQ_normal ?_ | refine HW_seq ?_ | refine hseqQ_normal ?_ | refine HW_skip ?_ | refine HW_exit ?_ | refine HW_ret ?_)
      exact ⟨i + 1, by simp only [keep_eq, hkeep_nil, hkeep_cons, rkeep_nil, rkeep_cons, hlk_nil, hlk_cons, rlk_nil, rlk_cons, Nat.reduceEqDiff, reduceIte]; try rfl, hlt, by omega⟩
    · have hi7 : i = 7 := by omega
      subst hi7
      have e4 : c.take (10 + 7) = c := List.take_of_length_le (by omega)
      rw [e4]
      (repeat first | refine HW_seq ?_ | refine hseqQ_normal ?_ | refine HW_skip ?_ | refine hblkQ_normal ?_ | refine HW_block ?_); refine HW_reg (fun K hK => ?_); simp (maxSteps := 2000000) (disch := omega) only [push_cast, ↓Int.cast_ofNat_Int, Nat.reduceBEq, Nat.reduceAdd, Nat.reduceLT, Nat.reduceEqDiff, reduceIte, reduceCtorEq, Nat.reduceLeDiff, Nat.reduceSub, List.reduceReplicate, Nat.reduceMul, Int.reduceToNat, Int.toNat_natCast, Nat.reducePow, reduceIte]; refine hK _ ?_; clear hK K
      (repeat first | refine HW_seq ?_ | refine hseqQ_normal ?_ | refine HW_skip ?_ | refine hblkQ_normal ?_ | refine HW_block ?_)
      refine HW_false rfl ?_
      (repeat first | refine hseqQ_ret ?_ | refine hseqQ_exit ?_ | refine hblkQ_exit ?_ | refine hblkQ_other rfl ?_ | refine hblkQ_ret ?_ | refine hblkQ_normal ?_ | refine HW_seq ?_ | refine hseqQ_normal ?_ | refine HW_skip ?_ | refine HW_exit ?_ | refine HW_ret ?_)
      (repeat first | refine HW_seq ?_ | refine hseqQ_normal ?_ | refine HW_skip ?_ | refine hblkQ_normal ?_ | refine HW_block ?_); refine HW_reg (fun K hK => ?_); simp (maxSteps := 2000000) (disch := omega) only [push_cast, ↓Int.cast_ofNat_Int, Nat.reduceBEq, Nat.reduceAdd, Nat.reduceLT, Nat.reduceEqDiff, reduceIte, reduceCtorEq, Nat.reduceLeDiff, Nat.reduceSub, List.reduceReplicate, Nat.reduceMul, Int.reduceToNat, Int.toNat_natCast, Nat.reducePow, reduceIte]; refine hK _ ?_; clear hK K
      (repeat first | refine hseqQ_ret ?_ | refine hseqQ_exit ?_ | refine hblkQ_exit ?_ | refine hblkQ_other rfl ?_ | refine hblkQ_ret ?_ | refine hblkQ_normal ?_ | refine HW_seq ?_ | refine hseqQ_normal ?_ | refine HW_skip ?_ | refine HW_exit ?_ | refine HW_ret ?_)
      simp only [hfunQ_normal, hfunQ_ret, resH_nil, resH_cons, resH_cell, resC_go, htup_one, htup_two, hlk_nil, hlk_cons, Nat.reduceEqDiff, reduceIte, reduceCtorEq]
      exact hres_o rfl (numF_fresh _) ⟨rfl, rfl⟩
set_option maxHeartbeats 4000000 in
theorem rencode_H (c : List Int) (hc : c.length = 17) (hi : ∀ n ∈ c, I64 n) : HFun Try.prog 50 [.agg (nums c)] (fun h st => h = .v (.string (encN c))) := by
  refine hfun (N := 22) Try.func50 rfl Try.ntmps50 Try.results50 (by simp) ?_
  have hn : (nums c).length = 17 := by rw [nums_len, hc]
  have lc : ∀ st : Store, Lend st (.agg (nums c)) (.agg (nums c)) := fun st => .agg rfl fun j h1 h2 => by
    have : (nums c)[j] = .v (.int .i64 (c[j]'(by rw [nums_len] at h1; exact h1))) := by simp [nums]
    rw [this]; exact .v _
  (repeat first | refine HW_seq ?_ | refine hseqQ_normal ?_ | refine HW_skip ?_ | refine hblkQ_normal ?_ | refine HW_block ?_); refine HW_reg (fun K hK => ?_); simp (maxSteps := 2000000) (disch := omega) only [push_cast, ↓Int.cast_ofNat_Int, Nat.reduceBEq, Nat.reduceAdd, Nat.reduceLT, Nat.reduceEqDiff, reduceIte, reduceCtorEq, Nat.reduceLeDiff, Nat.reduceSub, List.reduceReplicate, Nat.reduceMul, Int.reduceToNat, Int.toNat_natCast, Nat.reducePow, reduceIte, hn, nums_kill]; (repeat refine ⟨by first | omega | decide | ((repeat' apply And.intro) <;> first | omega | decide), ?_⟩); refine hK _ ?_; clear hK K
  (repeat first | refine HW_seq ?_ | refine hseqQ_normal ?_ | refine HW_skip ?_ | refine hblkQ_normal ?_ | refine HW_block ?_); refine HW_reg (fun K hK => ?_); simp (maxSteps := 2000000) (disch := omega) only [push_cast, ↓Int.cast_ofNat_Int, Nat.reduceBEq, Nat.reduceAdd, Nat.reduceLT, Nat.reduceEqDiff, reduceIte, reduceCtorEq, Nat.reduceLeDiff, Nat.reduceSub, List.reduceReplicate, Nat.reduceMul, Int.reduceToNat, Int.toNat_natCast, Nat.reducePow, reduceIte, hn, nums_kill, nums_take hc]
  refine hat 56 cl65 (numbers_H c hc) (.cons (lc _) .nil) ?_
  rintro _ _ ⟨rfl, rfl⟩
  with_reducible refine hstop ?_; simp (maxSteps := 2000000) (disch := omega) only [push_cast, ↓Int.cast_ofNat_Int, Nat.reduceBEq, Nat.reduceAdd, Nat.reduceLT, Nat.reduceEqDiff, reduceIte, reduceCtorEq, Nat.reduceLeDiff, Nat.reduceSub, List.reduceReplicate, Nat.reduceMul, Int.reduceToNat, Int.toNat_natCast, Nat.reducePow, reduceIte]
  refine hK _ ?_; clear hK K
  (repeat first | refine HW_seq ?_ | refine hseqQ_normal ?_ | refine HW_skip ?_ | refine hblkQ_normal ?_ | refine HW_block ?_); refine HW_reg (fun K hK => ?_); simp (maxSteps := 2000000) (disch := omega) only [push_cast, ↓Int.cast_ofNat_Int, Nat.reduceBEq, Nat.reduceAdd, Nat.reduceLT, Nat.reduceEqDiff, reduceIte, reduceCtorEq, Nat.reduceLeDiff, Nat.reduceSub, List.reduceReplicate, Nat.reduceMul, Int.reduceToNat, Int.toNat_natCast, Nat.reducePow, reduceIte]; refine hK _ ?_; clear hK K
  (repeat first | refine HW_seq ?_ | refine hseqQ_normal ?_ | refine HW_skip ?_ | refine hblkQ_normal ?_ | refine HW_block ?_); refine HW_reg (fun K hK => ?_); simp (maxSteps := 2000000) (disch := omega) only [push_cast, ↓Int.cast_ofNat_Int, Nat.reduceBEq, Nat.reduceAdd, Nat.reduceLT, Nat.reduceEqDiff, reduceIte, reduceCtorEq, Nat.reduceLeDiff, Nat.reduceSub, List.reduceReplicate, Nat.reduceMul, Int.reduceToNat, Int.toNat_natCast, Nat.reducePow, reduceIte]; refine hK _ ?_; clear hK K
  (repeat first | refine HW_seq ?_ | refine hseqQ_normal ?_ | refine HW_skip ?_ | refine hblkQ_normal ?_ | refine HW_block ?_)
  refine HW_loop (fun i : Nat => ⟨[(3, .own 56), (4, .v (.string (encN (c.take i)))), (5, .v (.int .i64 i))], [(56, .sl true 3 1 (numF c))]⟩) (fun i => i ≤ 17) (fun i => 17 - i) [3, 4, 5] [56] 0 (by simp only [keep_eq, hkeep_nil, hkeep_cons, rkeep_nil, rkeep_cons, hlk_nil, hlk_cons, rlk_nil, rlk_cons, Nat.reduceEqDiff, reduceIte]; try rfl) (by decide) ?_
  intro i hi17
  by_cases hlt : i < 17
  · have hg := @numF_get c i [] (by omega)
    have hm : c.getD i 0 ∈ c := by rw [List.getD_eq_getElem?_getD, List.getElem?_eq_getElem (by omega)]; exact List.getElem_mem _
    have hI := hi _ hm
    have cI := refInt_H (c.getD i 0) hI.1 hI.2
    have e2 : encN (c.take i) ++ refInt (c.getD i 0) = encN (c.take (i + 1)) := by rw [take_snoc (by omega), encN_snoc]
    (repeat first | refine HW_seq ?_ | refine hseqQ_normal ?_ | refine HW_skip ?_ | refine hblkQ_normal ?_ | refine HW_block ?_); refine HW_reg (fun K hK => ?_); simp (maxSteps := 2000000) (disch := omega) only [push_cast, ↓Int.cast_ofNat_Int, Nat.reduceBEq, Nat.reduceAdd, Nat.reduceLT, Nat.reduceEqDiff, reduceIte, reduceCtorEq, Nat.reduceLeDiff, Nat.reduceSub, List.reduceReplicate, Nat.reduceMul, Int.reduceToNat, Int.toNat_natCast, Nat.reducePow, reduceIte, numF_len, hc]; refine hK _ ?_; clear hK K
    (repeat first | refine HW_seq ?_ | refine hseqQ_normal ?_ | refine HW_skip ?_ | refine hblkQ_normal ?_ | refine HW_block ?_)
    refine HW_true rfl ?_
    (repeat first | refine hseqQ_ret ?_ | refine hseqQ_exit ?_ | refine hblkQ_exit ?_ | refine hblkQ_other rfl ?_ | refine hblkQ_ret ?_ | refine hblkQ_normal ?_ | refine HW_seq ?_ | refine hseqQ_normal ?_ | refine HW_skip ?_ | refine HW_exit ?_ | refine HW_ret ?_)
    (repeat first | refine HW_seq ?_ | refine hseqQ_normal ?_ | refine HW_skip ?_ | refine hblkQ_normal ?_ | refine HW_block ?_); refine HW_reg (fun K hK => ?_); simp (maxSteps := 2000000) (disch := omega) only [push_cast, ↓Int.cast_ofNat_Int, Nat.reduceBEq, Nat.reduceAdd, Nat.reduceLT, Nat.reduceEqDiff, reduceIte, reduceCtorEq, Nat.reduceLeDiff, Nat.reduceSub, List.reduceReplicate, Nat.reduceMul, Int.reduceToNat, Int.toNat_natCast, Nat.reducePow, reduceIte, numF_len, numF_wid, hg, hc]
    refine hatv cl22 cI (.cons (.v _) .nil) ?_
    have s1 := encN_size (c.take i) fun n hn => hi n (List.mem_of_mem_take hn)
    have s2 := refInt_size (c.getD i 0) hI
    rw [List.length_take] at s1
    with_reducible refine hstop ?_; simp (maxSteps := 2000000) (disch := omega) only [push_cast, ↓Int.cast_ofNat_Int, Nat.reduceBEq, Nat.reduceAdd, Nat.reduceLT, Nat.reduceEqDiff, reduceIte, reduceCtorEq, Nat.reduceLeDiff, Nat.reduceSub, List.reduceReplicate, Nat.reduceMul, Int.reduceToNat, Int.toNat_natCast, Nat.reducePow, reduceIte, e2]
    (repeat refine ⟨by first | omega | decide | ((repeat' apply And.intro) <;> first | omega | decide), ?_⟩)
    refine hK _ ?_; clear hK K
    (repeat first | refine hseqQ_ret ?_ | refine hseqQ_exit ?_ | refine hblkQ_exit ?_ | refine hblkQ_other rfl ?_ | refine hblkQ_ret ?_ | refine hblkQ_normal ?_ | refine HW_seq ?_ | refine hseqQ_normal ?_ | refine HW_skip ?_ | refine HW_exit ?_ | refine HW_ret ?_)
    (repeat first | refine HW_seq ?_ | refine hseqQ_normal ?_ | refine HW_skip ?_ | refine hblkQ_normal ?_ | refine HW_block ?_); refine HW_reg (fun K hK => ?_); simp (maxSteps := 2000000) (disch := omega) only [push_cast, ↓Int.cast_ofNat_Int, Nat.reduceBEq, Nat.reduceAdd, Nat.reduceLT, Nat.reduceEqDiff, reduceIte, reduceCtorEq, Nat.reduceLeDiff, Nat.reduceSub, List.reduceReplicate, Nat.reduceMul, Int.reduceToNat, Int.toNat_natCast, Nat.reducePow, reduceIte]; refine hK _ ?_; clear hK K
    (repeat first | refine hseqQ_ret ?_ | refine hseqQ_exit ?_ | refine hblkQ_exit ?_ | refine hblkQ_other rfl ?_ | refine hblkQ_ret ?_ | refine hblkQ_normal ?_ | refine HW_seq ?_ | refine hseqQ_normal ?_ | refine HW_skip ?_ | refine HW_exit ?_ | refine HW_ret ?_)
    exact ⟨i + 1, by simp only [keep_eq, hkeep_nil, hkeep_cons, rkeep_nil, rkeep_cons, hlk_nil, hlk_cons, rlk_nil, rlk_cons, Nat.reduceEqDiff, reduceIte]; try rfl, hlt, by omega⟩
  · have hi7 : i = 17 := by omega
    subst hi7
    have e4 : c.take 17 = c := List.take_of_length_le (by omega)
    rw [e4]
    (repeat first | refine HW_seq ?_ | refine hseqQ_normal ?_ | refine HW_skip ?_ | refine hblkQ_normal ?_ | refine HW_block ?_); refine HW_reg (fun K hK => ?_); simp (maxSteps := 2000000) (disch := omega) only [push_cast, ↓Int.cast_ofNat_Int, Nat.reduceBEq, Nat.reduceAdd, Nat.reduceLT, Nat.reduceEqDiff, reduceIte, reduceCtorEq, Nat.reduceLeDiff, Nat.reduceSub, List.reduceReplicate, Nat.reduceMul, Int.reduceToNat, Int.toNat_natCast, Nat.reducePow, reduceIte, numF_len, hc]; refine hK _ ?_; clear hK K
    (repeat first | refine HW_seq ?_ | refine hseqQ_normal ?_ | refine HW_skip ?_ | refine hblkQ_normal ?_ | refine HW_block ?_)
    refine HW_false rfl ?_
    (repeat first | refine hseqQ_ret ?_ | refine hseqQ_exit ?_ | refine hblkQ_exit ?_ | refine hblkQ_other rfl ?_ | refine hblkQ_ret ?_ | refine hblkQ_normal ?_ | refine HW_seq ?_ | refine hseqQ_normal ?_ | refine HW_skip ?_ | refine HW_exit ?_ | refine HW_ret ?_)
    (repeat first | refine HW_seq ?_ | refine hseqQ_normal ?_ | refine HW_skip ?_ | refine hblkQ_normal ?_ | refine HW_block ?_); refine HW_reg (fun K hK => ?_); simp (maxSteps := 2000000) (disch := omega) only [push_cast, ↓Int.cast_ofNat_Int, Nat.reduceBEq, Nat.reduceAdd, Nat.reduceLT, Nat.reduceEqDiff, reduceIte, reduceCtorEq, Nat.reduceLeDiff, Nat.reduceSub, List.reduceReplicate, Nat.reduceMul, Int.reduceToNat, Int.toNat_natCast, Nat.reducePow, reduceIte]; refine hK _ ?_; clear hK K
    (repeat first | refine hseqQ_ret ?_ | refine hseqQ_exit ?_ | refine hblkQ_exit ?_ | refine hblkQ_other rfl ?_ | refine hblkQ_ret ?_ | refine hblkQ_normal ?_ | refine HW_seq ?_ | refine hseqQ_normal ?_ | refine HW_skip ?_ | refine HW_exit ?_ | refine HW_ret ?_)
    simp only [hfunQ_normal, hfunQ_ret, resH_nil, resH_cons, resH_cell, resC_go, htup_one, htup_two, hlk_nil, hlk_cons, Nat.reduceEqDiff, reduceIte, reduceCtorEq]
    exact hres_v rfl
set_option maxHeartbeats 4000000 in
theorem encode_H (c : List Int) (hc : c.length = 17) (hi : ∀ n ∈ c, I64 n) : HFun Try.prog 48 [.agg (nums c)] (fun h st => h = .v (.string (encN c))) := by
  refine hfun (N := 38) Try.func48 rfl Try.ntmps48 Try.results48 (by simp) ?_
  have hn : (nums c).length = 17 := by rw [nums_len, hc]
  have g0 := @nums_get c 0 .junk (by omega)
  have g1 := @nums_get c 1 .junk (by omega)
  have g2 := @nums_get c 2 .junk (by omega)
  have mem : ∀ i, i < 17 → I64 (c.getD i 0) := fun i h => hi _ (by rw [List.getD_eq_getElem?_getD, List.getElem?_eq_getElem (by omega)]; exact List.getElem_mem _)
  have c0 := int_H (c.getD 0 0) (mem 0 (by decide)).1 (mem 0 (by decide)).2
  have c1 := int_H (c.getD 1 0) (mem 1 (by decide)).1 (mem 1 (by decide)).2
  have c2 := int_H (c.getD 2 0) (mem 2 (by decide)).1 (mem 2 (by decide)).2
  (repeat first | refine HW_seq ?_ | refine hseqQ_normal ?_ | refine HW_skip ?_ | refine hblkQ_normal ?_ | refine HW_block ?_); refine HW_reg (fun K hK => ?_); simp (maxSteps := 2000000) (disch := omega) only [push_cast, ↓Int.cast_ofNat_Int, Nat.reduceBEq, Nat.reduceAdd, Nat.reduceLT, Nat.reduceEqDiff, reduceIte, reduceCtorEq, Nat.reduceLeDiff, Nat.reduceSub, List.reduceReplicate, Nat.reduceMul, Int.reduceToNat, Int.toNat_natCast, Nat.reducePow, reduceIte, hn, nums_kill]; (repeat refine ⟨by first | omega | decide | ((repeat' apply And.intro) <;> first | omega | decide), ?_⟩); refine hK _ ?_; clear hK K
  (repeat first | refine HW_seq ?_ | refine hseqQ_normal ?_ | refine HW_skip ?_ | refine hblkQ_normal ?_ | refine HW_block ?_); refine HW_drwR 12 mixed (by kernel_rfl) (fun K hK => ?_); simp (maxSteps := 2000000) (disch := omega) only [push_cast, ↓Int.cast_ofNat_Int, Nat.reduceBEq, Nat.reduceAdd, Nat.reduceLT, Nat.reduceEqDiff, reduceIte, reduceCtorEq, Nat.reduceLeDiff, Nat.reduceSub, List.reduceReplicate, Nat.reduceMul, Int.reduceToNat, Int.toNat_natCast, Nat.reducePow, reduceIte, hn, g0, g1, g2]
  refine hatRv cl21 c0 (.cons (.v _) .nil) ?_
  with_reducible refine hstop ?_; simp (maxSteps := 2000000) (disch := omega) only [push_cast, ↓Int.cast_ofNat_Int, Nat.reduceBEq, Nat.reduceAdd, Nat.reduceLT, Nat.reduceEqDiff, reduceIte, reduceCtorEq, Nat.reduceLeDiff, Nat.reduceSub, List.reduceReplicate, Nat.reduceMul, Int.reduceToNat, Int.toNat_natCast, Nat.reducePow, reduceIte, hn, g0, g1, g2]
  refine hatRv cl21 c1 (.cons (.v _) .nil) ?_
  with_reducible refine hstop ?_; simp (maxSteps := 2000000) (disch := omega) only [push_cast, ↓Int.cast_ofNat_Int, Nat.reduceBEq, Nat.reduceAdd, Nat.reduceLT, Nat.reduceEqDiff, reduceIte, reduceCtorEq, Nat.reduceLeDiff, Nat.reduceSub, List.reduceReplicate, Nat.reduceMul, Int.reduceToNat, Int.toNat_natCast, Nat.reducePow, reduceIte, hn, g0, g1, g2]
  have s0 := refInt_size (c.getD 0 0) (mem 0 (by decide))
  have s1 := refInt_size (c.getD 1 0) (mem 1 (by decide))
  have s2 := refInt_size (c.getD 2 0) (mem 2 (by decide))
  refine ⟨by omega, ?_⟩
  refine hatRv cl21 c2 (.cons (.v _) .nil) ?_
  with_reducible refine hstop ?_; simp (maxSteps := 2000000) (disch := omega) only [push_cast, ↓Int.cast_ofNat_Int, Nat.reduceBEq, Nat.reduceAdd, Nat.reduceLT, Nat.reduceEqDiff, reduceIte, reduceCtorEq, Nat.reduceLeDiff, Nat.reduceSub, List.reduceReplicate, Nat.reduceMul, Int.reduceToNat, Int.toNat_natCast, Nat.reducePow, reduceIte, hn, g0, g1, g2]
  refine ⟨by rw [ByteArray.size_append]; omega, ?_⟩
  have e3 : refInt (c.getD 0 0) ++ refInt (c.getD 1 0) ++ refInt (c.getD 2 0) = encN (c.take 3) := by
    match c, hc with
    | [a, b, d, _, _, _, _, _, _, _, _, _, _, _, _, _, _], _ =>
      show refInt a ++ refInt b ++ refInt d = refInt a ++ (refInt b ++ (refInt d ++ ByteArray.empty))
      rw [ByteArray.append_empty, ByteArray.append_assoc]
  rw [e3]
  refine hK _ ?_; clear hK K
  obtain ⟨pA, hA⟩ : ∃ pA, (c.drop 3).take 7 = pA := ⟨_, rfl⟩
  obtain ⟨pB, hB⟩ : ∃ pB, (c.drop 10).take 7 = pB := ⟨_, rfl⟩
  have lA : (nums pA).length = 7 := by rw [nums_len, ← hA, List.length_take, List.length_drop]; omega
  have lB : (nums pB).length = 7 := by rw [nums_len, ← hB, List.length_take, List.length_drop]; omega
  have dA : List.take 7 (List.drop 3 (nums c)) = nums pA := by rw [← hA]; simp [nums, List.map_take, List.map_drop]
  have dB : List.take 7 (List.drop 10 (nums c)) = nums pB := by rw [← hB]; simp [nums, List.map_take, List.map_drop]
  have hT : List.take 7 (nums pA ++ [HV.v (.int .i64 0), HV.v (.int .i64 0), HV.v (.int .i64 0), HV.v (.int .i64 0), HV.v (.int .i64 0), HV.v (.int .i64 0), HV.v (.int .i64 0)]) = nums pA := List.take_left' lA
  have hD : List.drop 14 (nums pA ++ [HV.v (.int .i64 0), HV.v (.int .i64 0), HV.v (.int .i64 0), HV.v (.int .i64 0), HV.v (.int .i64 0), HV.v (.int .i64 0), HV.v (.int .i64 0)]) = [] := List.drop_of_length_le (by rw [List.length_append, lA]; decide)
  have hM : nums pA ++ nums pB = nums (c.drop 3) := by
    rw [← hA, ← hB]
    match c, hc with
    | [_, _, _, _, _, _, _, _, _, _, _, _, _, _, _, _, _], _ => rfl
  (repeat first | refine HW_seq ?_ | refine hseqQ_normal ?_ | refine HW_skip ?_ | refine hblkQ_normal ?_ | refine HW_block ?_); refine HW_reg (fun K hK => ?_); simp (maxSteps := 2000000) (disch := omega) only [push_cast, ↓Int.cast_ofNat_Int, Nat.reduceBEq, Nat.reduceAdd, Nat.reduceLT, Nat.reduceEqDiff, reduceIte, reduceCtorEq, Nat.reduceLeDiff, Nat.reduceSub, List.reduceReplicate, Nat.reduceMul, Int.reduceToNat, Int.toNat_natCast, Nat.reducePow, reduceIte, hn, dA, dB, lA, lB, hT, hD, hM]
  (repeat refine ⟨by first | omega | decide | ((repeat' apply And.intro) <;> first | omega | decide), ?_⟩)
  refine hK _ ?_; clear hK K
  (repeat first | refine HW_seq ?_ | refine hseqQ_normal ?_ | refine HW_skip ?_ | refine hblkQ_normal ?_ | refine HW_block ?_)
  refine HW_loop (fun i : Nat => ⟨[(3, .v (.string (encN (c.take (3 + 7 * i))))), (23, .agg (nums (c.drop 3))), (24, .v (.int .i64 i))], []⟩) (fun i => i ≤ 2) (fun i => 2 - i) [3, 23, 24] [] 0 (by simp only [keep_eq, hkeep_nil, hkeep_cons, rkeep_nil, rkeep_cons, hlk_nil, hlk_cons, rlk_nil, rlk_cons, Nat.reduceEqDiff, reduceIte]; try rfl) (by decide) ?_
  intro i hi2
  by_cases hlt : i < 2
  · have hX : List.take 7 (List.drop (i * 7) (nums (c.drop 3))) = nums ((c.drop (3 + 7 * i)).take 7) := by
      have e : nums (c.drop 3) = (nums c).drop 3 := by simp [nums, List.map_drop]
      rw [e, List.drop_drop, show 3 + i * 7 = 3 + 7 * i by omega]
      simp [nums, List.map_take, List.map_drop]
    obtain ⟨X, hXe⟩ : ∃ X, (c.drop (3 + 7 * i)).take 7 = X := ⟨_, rfl⟩
    have lX : (nums X).length = 7 := by rw [nums_len, ← hXe, List.length_take, List.length_drop]; omega
    have tX : List.take 7 (nums X) = nums X := List.take_of_length_le (by omega)
    rw [hXe] at hX
    (repeat first | refine HW_seq ?_ | refine hseqQ_normal ?_ | refine HW_skip ?_ | refine hblkQ_normal ?_ | refine HW_block ?_); refine HW_reg (fun K hK => ?_); simp (maxSteps := 2000000) (disch := omega) only [push_cast, ↓Int.cast_ofNat_Int, Nat.reduceBEq, Nat.reduceAdd, Nat.reduceLT, Nat.reduceEqDiff, reduceIte, reduceCtorEq, Nat.reduceLeDiff, Nat.reduceSub, List.reduceReplicate, Nat.reduceMul, Int.reduceToNat, Int.toNat_natCast, Nat.reducePow, reduceIte]; refine hK _ ?_; clear hK K
    (repeat first | refine HW_seq ?_ | refine hseqQ_normal ?_ | refine HW_skip ?_ | refine hblkQ_normal ?_ | refine HW_block ?_)
    refine HW_true rfl ?_
    (repeat first | refine hseqQ_ret ?_ | refine hseqQ_exit ?_ | refine hblkQ_exit ?_ | refine hblkQ_other rfl ?_ | refine hblkQ_ret ?_ | refine hblkQ_normal ?_ | refine HW_seq ?_ | refine hseqQ_normal ?_ | refine HW_skip ?_ | refine HW_exit ?_ | refine HW_ret ?_)
    have gX : ∀ j, j < 7 → (nums X)[j]? = some (.v (.int .i64 (c.getD (3 + 7 * i + j) 0))) := fun j hj => by
      have h1 : j < X.length := by rw [nums_len] at lX; omega
      have h2 : X[j]'h1 = c.getD (3 + 7 * i + j) 0 := by
        subst hXe
        rw [List.getElem_take, List.getElem_drop, List.getD_eq_getElem?_getD, List.getElem?_eq_getElem (by omega)]; rfl
      rw [List.getElem?_eq_getElem (by rw [nums_len]; exact h1)]
      simp only [nums, List.getElem_map, h2]
    (repeat first | refine HW_seq ?_ | refine hseqQ_normal ?_ | refine HW_skip ?_ | refine hblkQ_normal ?_ | refine HW_block ?_); refine HW_reg (fun K hK => ?_); simp (maxSteps := 2000000) (disch := omega) only [push_cast, ↓Int.cast_ofNat_Int, Nat.reduceBEq, Nat.reduceAdd, Nat.reduceLT, Nat.reduceEqDiff, reduceIte, reduceCtorEq, Nat.reduceLeDiff, Nat.reduceSub, List.reduceReplicate, Nat.reduceMul, Int.reduceToNat, Int.toNat_natCast, Nat.reducePow, reduceIte, ac94, hX, lX, tX, nums_kill]; (repeat refine ⟨by first | omega | decide | ((repeat' apply And.intro) <;> first | omega | decide), ?_⟩); refine hK _ ?_; clear hK K
    (repeat first | refine hseqQ_ret ?_ | refine hseqQ_exit ?_ | refine hblkQ_exit ?_ | refine hblkQ_other rfl ?_ | refine hblkQ_ret ?_ | refine hblkQ_normal ?_ | refine HW_seq ?_ | refine hseqQ_normal ?_ | refine HW_skip ?_ | refine HW_exit ?_ | refine HW_ret ?_)
    (repeat first | refine HW_seq ?_ | refine hseqQ_normal ?_ | refine HW_skip ?_ | refine hblkQ_normal ?_ | refine HW_block ?_); refine HW_reg (fun K hK => ?_); simp (maxSteps := 2000000) (disch := omega) only [push_cast, ↓Int.cast_ofNat_Int, Nat.reduceBEq, Nat.reduceAdd, Nat.reduceLT, Nat.reduceEqDiff, reduceIte, reduceCtorEq, Nat.reduceLeDiff, Nat.reduceSub, List.reduceReplicate, Nat.reduceMul, Int.reduceToNat, Int.toNat_natCast, Nat.reducePow, reduceIte, lX, tX]; refine hK _ ?_; clear hK K
    (repeat first | refine HW_seq ?_ | refine hseqQ_normal ?_ | refine HW_skip ?_ | refine hblkQ_normal ?_ | refine HW_block ?_)
    refine HW_loop (fun j : Nat => ⟨[(3, .v (.string (encN (c.take (3 + 7 * i + j))))), (23, .agg (nums (c.drop 3))), (24, .v (.int .i64 i)), (27, .agg (nums X)), (28, .v (.int .i64 j))], []⟩) (fun j => j ≤ 7) (fun j => 7 - j) [3, 23, 24, 27, 28] [] 0 (by simp only [keep_eq, hkeep_nil, hkeep_cons, rkeep_nil, rkeep_cons, hlk_nil, hlk_cons, rlk_nil, rlk_cons, Nat.reduceEqDiff, reduceIte]; try rfl) (by decide) ?_
    intro j hj
    by_cases hj7 : j < 7
    · have hg := gX j hj7
      have hI := mem (3 + 7 * i + j) (by omega)
      have cI := int_H (c.getD (3 + 7 * i + j) 0) hI.1 hI.2
      have e2 : encN (c.take (3 + 7 * i + j)) ++ refInt (c.getD (3 + 7 * i + j) 0) = encN (c.take (3 + 7 * i + (j + 1))) := by rw [show 3 + 7 * i + (j + 1) = (3 + 7 * i + j) + 1 by omega, take_snoc (by omega), encN_snoc]
      have s1 := encN_size (c.take (3 + 7 * i + j)) fun n hn => hi n (List.mem_of_mem_take hn)
      have s2 := refInt_size (c.getD (3 + 7 * i + j) 0) hI
      rw [List.length_take] at s1
      (repeat first | refine HW_seq ?_ | refine hseqQ_normal ?_ | refine HW_skip ?_ | refine hblkQ_normal ?_ | refine HW_block ?_); refine HW_reg (fun K hK => ?_); simp (maxSteps := 2000000) (disch := omega) only [push_cast, ↓Int.cast_ofNat_Int, Nat.reduceBEq, Nat.reduceAdd, Nat.reduceLT, Nat.reduceEqDiff, reduceIte, reduceCtorEq, Nat.reduceLeDiff, Nat.reduceSub, List.reduceReplicate, Nat.reduceMul, Int.reduceToNat, Int.toNat_natCast, Nat.reducePow, reduceIte]; refine hK _ ?_; clear hK K
      (repeat first | refine HW_seq ?_ | refine hseqQ_normal ?_ | refine HW_skip ?_ | refine hblkQ_normal ?_ | refine HW_block ?_)
      refine HW_true rfl ?_
      (repeat first | refine hseqQ_ret ?_ | refine hseqQ_exit ?_ | refine hblkQ_exit ?_ | refine hblkQ_other rfl ?_ | refine hblkQ_ret ?_ | refine hblkQ_normal ?_ | refine HW_seq ?_ | refine hseqQ_normal ?_ | refine HW_skip ?_ | refine HW_exit ?_ | refine HW_ret ?_)
      (repeat first | refine HW_seq ?_ | refine hseqQ_normal ?_ | refine HW_skip ?_ | refine hblkQ_normal ?_ | refine HW_block ?_); refine HW_reg (fun K hK => ?_); simp (maxSteps := 2000000) (disch := omega) only [push_cast, ↓Int.cast_ofNat_Int, Nat.reduceBEq, Nat.reduceAdd, Nat.reduceLT, Nat.reduceEqDiff, reduceIte, reduceCtorEq, Nat.reduceLeDiff, Nat.reduceSub, List.reduceReplicate, Nat.reduceMul, Int.reduceToNat, Int.toNat_natCast, Nat.reducePow, reduceIte, hg]
      (repeat refine ⟨by first | omega | decide | ((repeat' apply And.intro) <;> first | omega | decide), ?_⟩)
      refine hK _ ?_; clear hK K
      (repeat first | refine hseqQ_ret ?_ | refine hseqQ_exit ?_ | refine hblkQ_exit ?_ | refine hblkQ_other rfl ?_ | refine hblkQ_ret ?_ | refine hblkQ_normal ?_ | refine HW_seq ?_ | refine hseqQ_normal ?_ | refine HW_skip ?_ | refine HW_exit ?_ | refine HW_ret ?_)
      (repeat first | refine HW_seq ?_ | refine hseqQ_normal ?_ | refine HW_skip ?_ | refine hblkQ_normal ?_ | refine HW_block ?_); refine HW_reg (fun K hK => ?_); simp (maxSteps := 2000000) (disch := omega) only [push_cast, ↓Int.cast_ofNat_Int, Nat.reduceBEq, Nat.reduceAdd, Nat.reduceLT, Nat.reduceEqDiff, reduceIte, reduceCtorEq, Nat.reduceLeDiff, Nat.reduceSub, List.reduceReplicate, Nat.reduceMul, Int.reduceToNat, Int.toNat_natCast, Nat.reducePow, reduceIte]
      refine hatv cl21 cI (.cons (.v _) .nil) ?_
      with_reducible refine hstop ?_; simp (maxSteps := 2000000) (disch := omega) only [push_cast, ↓Int.cast_ofNat_Int, Nat.reduceBEq, Nat.reduceAdd, Nat.reduceLT, Nat.reduceEqDiff, reduceIte, reduceCtorEq, Nat.reduceLeDiff, Nat.reduceSub, List.reduceReplicate, Nat.reduceMul, Int.reduceToNat, Int.toNat_natCast, Nat.reducePow, reduceIte, e2]
      (repeat refine ⟨by first | omega | decide | ((repeat' apply And.intro) <;> first | omega | decide), ?_⟩)
      refine hK _ ?_; clear hK K
      (repeat first | refine hseqQ_ret ?_ | refine hseqQ_exit ?_ | refine hblkQ_exit ?_ | refine hblkQ_other rfl ?_ | refine hblkQ_ret ?_ | refine hblkQ_normal ?_ | refine HW_seq ?_ | refine hseqQ_normal ?_ | refine HW_skip ?_ | refine HW_exit ?_ | refine HW_ret ?_)
      (repeat first | refine HW_seq ?_ | refine hseqQ_normal ?_ | refine HW_skip ?_ | refine hblkQ_normal ?_ | refine HW_block ?_); refine HW_reg (fun K hK => ?_); simp (maxSteps := 2000000) (disch := omega) only [push_cast, ↓Int.cast_ofNat_Int, Nat.reduceBEq, Nat.reduceAdd, Nat.reduceLT, Nat.reduceEqDiff, reduceIte, reduceCtorEq, Nat.reduceLeDiff, Nat.reduceSub, List.reduceReplicate, Nat.reduceMul, Int.reduceToNat, Int.toNat_natCast, Nat.reducePow, reduceIte]; refine hK _ ?_; clear hK K
      (repeat first | refine hseqQ_ret ?_ | refine hseqQ_exit ?_ | refine hblkQ_exit ?_ | refine hblkQ_other rfl ?_ | refine hblkQ_ret ?_ | refine hblkQ_normal ?_ | refine HW_seq ?_ | refine hseqQ_normal ?_ | refine HW_skip ?_ | refine HW_exit ?_ | refine HW_ret ?_)
      exact ⟨j + 1, by simp only [keep_eq, hkeep_nil, hkeep_cons, rkeep_nil, rkeep_cons, hlk_nil, hlk_cons, rlk_nil, rlk_cons, Nat.reduceEqDiff, reduceIte]; try rfl, hj7, by omega⟩
    · have hj0 : j = 7 := by omega
      subst hj0
      (repeat first | refine HW_seq ?_ | refine hseqQ_normal ?_ | refine HW_skip ?_ | refine hblkQ_normal ?_ | refine HW_block ?_); refine HW_reg (fun K hK => ?_); simp (maxSteps := 2000000) (disch := omega) only [push_cast, ↓Int.cast_ofNat_Int, Nat.reduceBEq, Nat.reduceAdd, Nat.reduceLT, Nat.reduceEqDiff, reduceIte, reduceCtorEq, Nat.reduceLeDiff, Nat.reduceSub, List.reduceReplicate, Nat.reduceMul, Int.reduceToNat, Int.toNat_natCast, Nat.reducePow, reduceIte]; refine hK _ ?_; clear hK K
      (repeat first | refine HW_seq ?_ | refine hseqQ_normal ?_ | refine HW_skip ?_ | refine hblkQ_normal ?_ | refine HW_block ?_)
      refine HW_false rfl ?_
      (repeat first | refine hseqQ_ret ?_ | refine hseqQ_exit ?_ | refine hblkQ_exit ?_ | refine hblkQ_other rfl ?_ | refine hblkQ_ret ?_ | refine hblkQ_normal ?_ | refine HW_seq ?_ | refine hseqQ_normal ?_ | refine HW_skip ?_ | refine HW_exit ?_ | refine HW_ret ?_)
      (repeat first | refine HW_seq ?_ | refine hseqQ_normal ?_ | refine HW_skip ?_ | refine hblkQ_normal ?_ | refine HW_block ?_); refine HW_reg (fun K hK => ?_); simp (maxSteps := 2000000) (disch := omega) only [push_cast, ↓Int.cast_ofNat_Int, Nat.reduceBEq, Nat.reduceAdd, Nat.reduceLT, Nat.reduceEqDiff, reduceIte, reduceCtorEq, Nat.reduceLeDiff, Nat.reduceSub, List.reduceReplicate, Nat.reduceMul, Int.reduceToNat, Int.toNat_natCast, Nat.reducePow, reduceIte]; refine hK _ ?_; clear hK K
      (repeat first | refine hseqQ_ret ?_ | refine hseqQ_exit ?_ | refine hblkQ_exit ?_ | refine hblkQ_other rfl ?_ | refine hblkQ_ret ?_ | refine hblkQ_normal ?_ | refine HW_seq ?_ | refine hseqQ_normal ?_ | refine HW_skip ?_ | refine HW_exit ?_ | refine HW_ret ?_)
      exact ⟨i + 1, by simp only [keep_eq, hkeep_nil, hkeep_cons, rkeep_nil, rkeep_cons, hlk_nil, hlk_cons, rlk_nil, rlk_cons, Nat.reduceEqDiff, reduceIte]; rw [show 3 + 7 * (i + 1) = 3 + 7 * i + 7 by omega]; try rfl, hlt, by omega⟩
  · have hi0 : i = 2 := by omega
    subst hi0
    have e4 : c.take (3 + 7 * 2) = c := List.take_of_length_le (by omega)
    rw [e4]
    (repeat first | refine HW_seq ?_ | refine hseqQ_normal ?_ | refine HW_skip ?_ | refine hblkQ_normal ?_ | refine HW_block ?_); refine HW_reg (fun K hK => ?_); simp (maxSteps := 2000000) (disch := omega) only [push_cast, ↓Int.cast_ofNat_Int, Nat.reduceBEq, Nat.reduceAdd, Nat.reduceLT, Nat.reduceEqDiff, reduceIte, reduceCtorEq, Nat.reduceLeDiff, Nat.reduceSub, List.reduceReplicate, Nat.reduceMul, Int.reduceToNat, Int.toNat_natCast, Nat.reducePow, reduceIte]; refine hK _ ?_; clear hK K
    (repeat first | refine HW_seq ?_ | refine hseqQ_normal ?_ | refine HW_skip ?_ | refine hblkQ_normal ?_ | refine HW_block ?_)
    refine HW_false rfl ?_
    (repeat first | refine hseqQ_ret ?_ | refine hseqQ_exit ?_ | refine hblkQ_exit ?_ | refine hblkQ_other rfl ?_ | refine hblkQ_ret ?_ | refine hblkQ_normal ?_ | refine HW_seq ?_ | refine hseqQ_normal ?_ | refine HW_skip ?_ | refine HW_exit ?_ | refine HW_ret ?_)
    (repeat first | refine HW_seq ?_ | refine hseqQ_normal ?_ | refine HW_skip ?_ | refine hblkQ_normal ?_ | refine HW_block ?_); refine HW_reg (fun K hK => ?_); simp (maxSteps := 2000000) (disch := omega) only [push_cast, ↓Int.cast_ofNat_Int, Nat.reduceBEq, Nat.reduceAdd, Nat.reduceLT, Nat.reduceEqDiff, reduceIte, reduceCtorEq, Nat.reduceLeDiff, Nat.reduceSub, List.reduceReplicate, Nat.reduceMul, Int.reduceToNat, Int.toNat_natCast, Nat.reducePow, reduceIte]; refine hK _ ?_; clear hK K
    (repeat first | refine hseqQ_ret ?_ | refine hseqQ_exit ?_ | refine hblkQ_exit ?_ | refine hblkQ_other rfl ?_ | refine hblkQ_ret ?_ | refine hblkQ_normal ?_ | refine HW_seq ?_ | refine hseqQ_normal ?_ | refine HW_skip ?_ | refine HW_exit ?_ | refine HW_ret ?_)
    simp only [hfunQ_normal, hfunQ_ret, resH_nil, resH_cons, resH_cell, resC_go, htup_one, htup_two, hlk_nil, hlk_cons, Nat.reduceEqDiff, reduceIte, reduceCtorEq]
    exact hres_v rfl
end Go.Proofs.Ytppnicpbncfhnaa
