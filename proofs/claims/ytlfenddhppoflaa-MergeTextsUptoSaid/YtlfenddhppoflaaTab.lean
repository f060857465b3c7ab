/- What the walk of the law stands on. -/
import Derived.Test.YtlfenddhppoflaaKept
import Derived.Test.YtlfenddhppoflaaDiffD
set_option linter.unusedSimpArgs false
set_option linter.unusedVariables false
set_option maxRecDepth 20000
namespace Go.Proofs.Ytlfenddhppoflaa
open Go Go.Eng Go.RowKit Go.DiffM

section
variable {α : Type} [DecidableEq α]
theorem lcs_cons_le (x : α) (a b : List α) : lcs (x :: a) b ≤ lcs a b + 1 := by
  obtain ⟨s, h1, h2, h3⟩ := lcs_is _ (x :: a) b (Nat.le_refl _)
  rcases List.sublist_cons_iff.1 h1 with h | ⟨r, rfl, h⟩
  · have := lcs_most _ a b s (Nat.le_refl _) h h2; omega
  · have := lcs_most _ a b r (Nat.le_refl _) h ((List.sublist_cons_self _ _).trans h2)
    simp only [List.length_cons] at h3; omega
theorem lcs_cons_le' (y : α) (a b : List α) : lcs a (y :: b) ≤ lcs a b + 1 := by
  obtain ⟨s, h1, h2, h3⟩ := lcs_is _ a (y :: b) (Nat.le_refl _)
  rcases List.sublist_cons_iff.1 h2 with h | ⟨r, rfl, h⟩
  · have := lcs_most _ a b s (Nat.le_refl _) h1 h; omega
  · have := lcs_most _ a b r (Nat.le_refl _) ((List.sublist_cons_self _ _).trans h1) h
    simp only [List.length_cons] at h3; omega
theorem at2_down (a b : List α) (i j : Nat) (hi : i < a.length) : at2 a b i j ≤ at2 a b (i + 1) j + 1 := by
  unfold at2; rw [List.drop_eq_getElem_cons hi]; exact lcs_cons_le _ _ _
theorem at2_right (a b : List α) (i j : Nat) (hj : j < b.length) : at2 a b i j ≤ at2 a b i (j + 1) + 1 := by
  unfold at2; rw [List.drop_eq_getElem_cons hj]; exact lcs_cons_le' _ _ _
end
def nilC : List FV := [.v (.slice none 0 0)]
def rowC (r : List Int) : List FV := [.lst true (ints r)]
def rowOf (a b : List ByteArray) (p : Nat) : List Int := (List.range (b.length + 1)).map fun q => ((at2 a b p q : Nat) : Int)
def rowsOf (a b : List ByteArray) (n : Nat) : List (List Int) := ((List.range (a.length + 1)).drop n).map (rowOf a b)
def tabE (n : Nat) (rows : List (List Int)) : List (List FV) := List.replicate n nilC ++ rows.map rowC
def tab (a b : List ByteArray) : List (List FV) := (rowsOf a b 0).map rowC
theorem rowOf_len (a b : List ByteArray) (p : Nat) : (rowOf a b p).length = b.length + 1 := by simp [rowOf]
theorem rowOf_get (a b : List ByteArray) (p q : Nat) (h : q < (rowOf a b p).length) : (rowOf a b p)[q] = ((at2 a b p q : Nat) : Int) := by simp [rowOf]
theorem rowsOf_cons (a b : List ByteArray) (n : Nat) (h : n ≤ a.length) : rowsOf a b n = rowOf a b n :: rowsOf a b (n + 1) := by
  unfold rowsOf
  rw [List.drop_eq_getElem_cons (by simp; omega), List.map_cons, List.getElem_range]
theorem rowsOf_last (a b : List ByteArray) : rowsOf a b a.length = [rowOf a b a.length] := by
  rw [rowsOf_cons a b _ (Nat.le_refl _)]
  congr 1
  unfold rowsOf
  rw [List.drop_eq_nil_of_le (by simp)]; rfl
theorem tabE_len (n : Nat) (rows : List (List Int)) : (tabE n rows).length = n + rows.length := by simp [tabE]
theorem tabE_wid (n : Nat) (rows : List (List Int)) : Wid 1 (tabE n rows) = True := eq_true fun x hx => by
  simp only [tabE, List.mem_append] at hx
  rcases hx with h | h
  · rw [(List.mem_replicate.1 h).2]; rfl
  · obtain ⟨r, -, rfl⟩ := List.mem_map.1 h; rfl
theorem tabE_head (n : Nat) (r : List Int) (rows : List (List Int)) {d : List FV} : (tabE n (r :: rows)).getD n d = [.lst true (ints r)] := by
  rw [getD_lt (by simp [tabE])]
  simp [tabE, rowC]
theorem tabE_low (n : Nat) (rows : List (List Int)) {d : List FV} : (tabE (n + 1) rows).getD n d = [.v (.slice none 0 0)] := by
  rw [getD_lt (by simp [tabE]; omega)]
  simp only [tabE]
  rw [List.getElem_append_left (by simp)]
  simp [nilC]
theorem tabE_set (n : Nat) (r : List Int) (rows : List (List Int)) : (tabE (n + 1) rows).set n [.lst true (ints r)] = tabE n (r :: rows) := by
  simp only [tabE, List.replicate_succ', List.append_assoc]
  rw [List.set_append_right _ _ (by simp)]
  simp [rowC]
theorem tabE_new (n : Nat) : List.replicate n [FV.v (.slice none 0 0)] = tabE n [] := by simp [tabE, nilC]
theorem tabE_zero (a b : List ByteArray) : tabE 0 (rowsOf a b 0) = tab a b := by simp [tabE, tab]
theorem ints_rep (n : Nat) : List.replicate n [FV.v (.int .i64 0)] = ints (List.replicate n 0) := by simp [ints, intE]
theorem ints_set (R : List Int) (k : Nat) (x : Int) : (ints R).set k [.v (.int .i64 x)] = ints (R.set k x) := by simp [ints, List.map_set, intE]
theorem ints_gets {R : List Int} {k : Nat} {x : Int} {d : List FV} (h : k < R.length) : (ints (R.set k x)).getD k d = [.v (.int .i64 x)] := by rw [ints_get (by simpa using h)]; simp
theorem tab_len (a b : List ByteArray) : (tab a b).length = a.length + 1 := by simp [tab, rowsOf]
theorem tab_get (a b : List ByteArray) {p : Nat} {d : List FV} (h : p < a.length + 1) : (tab a b).getD p d = [.lst true (ints (rowOf a b p))] := by
  unfold tab
  rw [getD_map (by simpa [rowsOf] using h)]
  simp [rowsOf, rowC]
theorem tab_wid (a b : List ByteArray) : Wid 1 (tab a b) = True := eq_true (wid_map _ fun _ => rfl)
theorem tab_fresh (a b : List ByteArray) : ∀ x ∈ tab a b, ∀ f ∈ x, FreshF f := fun x hx f hf => by
  obtain ⟨r, -, rfl⟩ := List.mem_map.1 hx
  simp [rowC] at hf
  subst hf
  exact .lst (ints_fresh r)
set_option maxHeartbeats 2000000 in
theorem table_H (a b : List ByteArray) (hA : a.length ≤ 400) (hB : b.length ≤ 400) : HFun Try.prog 72 [.lst false (strs a), .lst false (strs b)] (fun h st => h = .own 0 ∧ st = [(0, .sl true 91 1 (tab a b))]) := by
  refine hfun (N := 115) Try.func72 rfl Try.ntmps72 Try.results72 (by simp) ?_
  (repeat first | refine qE ?_ | refine qA ?_ | refine qC ?_ | refine qB ?_ | refine qD ?_); refine qJ (fun K hK => ?_); simp (maxSteps := 2000000) (disch := omega) only [push_cast, ↓Int.cast_ofNat_Int, Nat.reduceBEq, Nat.reduceAdd, Nat.reduceLT, Nat.reduceEqDiff, reduceIte, reduceCtorEq, Nat.reduceLeDiff, Nat.reduceSub, List.reduceReplicate, Nat.reduceMul, Int.reduceToNat, Nat.reducePow]; refine hK _ ?_; clear hK K
  (repeat first | refine qE ?_ | refine qA ?_ | refine qC ?_ | refine qB ?_ | refine qD ?_); refine qJ (fun K hK => ?_); simp (maxSteps := 2000000) (disch := omega) only [push_cast, ↓Int.cast_ofNat_Int, Nat.reduceBEq, Nat.reduceAdd, Nat.reduceLT, Nat.reduceEqDiff, reduceIte, reduceCtorEq, Nat.reduceLeDiff, Nat.reduceSub, List.reduceReplicate, Nat.reduceMul, Int.reduceToNat, Nat.reducePow, strs_len, maxLen, tabE_new]; refine hK _ ?_; clear hK K
  refine zB [0, 1, 5] [96] (by simp only [qZ, qR, qP, qQ, qN, qS, qM, qX, qU, Nat.reduceEqDiff, reduceIte]; exact rfl) ?_
  (repeat first | refine qE ?_ | refine qA ?_ | refine qC ?_ | refine qB ?_ | refine qD ?_); refine qJ (fun K hK => ?_); simp (maxSteps := 2000000) (disch := omega) only [push_cast, ↓Int.cast_ofNat_Int, Nat.reduceBEq, Nat.reduceAdd, Nat.reduceLT, Nat.reduceEqDiff, reduceIte, reduceCtorEq, Nat.reduceLeDiff, Nat.reduceSub, List.reduceReplicate, Nat.reduceMul, Int.reduceToNat, Nat.reducePow, strs_len, maxLen, tabE_len, tabE_low, tabE_set, ints_rep]; refine hK _ ?_; clear hK K
  refine zB [0, 1, 5] [96] (by simp only [qZ, qR, qP, qQ, qN, qS, qM, qX, qU, Nat.reduceEqDiff, reduceIte]; exact rfl) ?_
  (repeat first | refine qE ?_ | refine qA ?_ | refine qC ?_ | refine qB ?_ | refine qD ?_); refine qJ (fun K hK => ?_); simp (maxSteps := 2000000) (disch := omega) only [push_cast, ↓Int.cast_ofNat_Int, Nat.reduceBEq, Nat.reduceAdd, Nat.reduceLT, Nat.reduceEqDiff, reduceIte, reduceCtorEq, Nat.reduceLeDiff, Nat.reduceSub, List.reduceReplicate, Nat.reduceMul, Int.reduceToNat, Nat.reducePow, strs_len]; refine hK _ ?_; clear hK K
  refine zB [0, 1, 5, 6] [96] (by simp only [qZ, qR, qP, qQ, qN, qS, qM, qX, qU, Nat.reduceEqDiff, reduceIte]; exact rfl) ?_
  (repeat first | refine qE ?_ | refine qA ?_ | refine qC ?_ | refine qB ?_ | refine qD ?_)
  refine HW_loop (fun i : Int => ⟨[(0, .lst false (strs a)), (1, .lst false (strs b)), (5, .own 96), (6, .v (.int .i64 i))], [(96, .sl true 91 1 (tabE (i + 1).toNat (rowsOf a b (i + 1).toNat)))]⟩)
    (fun i => -1 ≤ i ∧ i < a.length) (fun i => (i + 1).toNat) [0, 1, 5, 6] [96] ((a.length : Int) - 1) ?_ ⟨by omega, by omega⟩ ?_
  · have e : ((a.length : Int) - 1 + 1).toNat = a.length := by omega
    simp only [qZ, qR, qP, qQ, qN, qS, qM, qX, qU, Nat.reduceEqDiff, reduceIte, e, rowsOf_last]
    have e2 : rowOf a b a.length = List.replicate (b.length + 1) 0 := by
      apply List.ext_getElem
      · simp [rowOf]
      · intro i h1 h2
        simp only [rowOf, List.getElem_map, List.getElem_range, List.getElem_replicate]
        rw [at2_end _ _ _ _ (.inl (Nat.le_refl _))]; rfl
    rw [e2]
  rintro i ⟨hi1, hi2⟩
  (repeat first | refine qE ?_ | refine qA ?_ | refine qC ?_ | refine qB ?_ | refine qD ?_); refine qJ (fun K hK => ?_); simp (maxSteps := 2000000) (disch := omega) only [push_cast, ↓Int.cast_ofNat_Int, Nat.reduceBEq, Nat.reduceAdd, Nat.reduceLT, Nat.reduceEqDiff, reduceIte, reduceCtorEq, Nat.reduceLeDiff, Nat.reduceSub, List.reduceReplicate, Nat.reduceMul, Int.reduceToNat, Nat.reducePow]; refine hK _ ?_; clear hK K
  (repeat first | refine qE ?_ | refine qA ?_ | refine qC ?_ | refine qB ?_ | refine qD ?_)
  refine HW_cond rfl (fun hlt => ?_) (fun hge => ?_)
  · have h0 : 0 ≤ i := by simpa using hlt
    obtain ⟨p, rfl⟩ := Int.eq_ofNat_of_zero_le h0
    have hp : p < a.length := by omega
    have e : ((p : Int) + 1).toNat = p + 1 := by omega
    simp only [e]
    rw [rowsOf_cons a b (p + 1) (by omega)]
    (repeat first | refine qE ?_ | refine qA ?_ | refine qC ?_ | refine qB ?_ | refine qD ?_); refine qJ (fun K hK => ?_); simp (maxSteps := 2000000) (disch := omega) only [push_cast, ↓Int.cast_ofNat_Int, Nat.reduceBEq, Nat.reduceAdd, Nat.reduceLT, Nat.reduceEqDiff, reduceIte, reduceCtorEq, Nat.reduceLeDiff, Nat.reduceSub, List.reduceReplicate, Nat.reduceMul, Int.reduceToNat, Nat.reducePow, strs_len, maxLen, ints_rep]; refine hK _ ?_; clear hK K
    (repeat first | refine qE ?_ | refine qA ?_ | refine qC ?_ | refine qB ?_ | refine qD ?_); refine qJ (fun K hK => ?_); simp (maxSteps := 2000000) (disch := omega) only [push_cast, ↓Int.cast_ofNat_Int, Nat.reduceBEq, Nat.reduceAdd, Nat.reduceLT, Nat.reduceEqDiff, reduceIte, reduceCtorEq, Nat.reduceLeDiff, Nat.reduceSub, List.reduceReplicate, Nat.reduceMul, Int.reduceToNat, Nat.reducePow, strs_len]; refine hK _ ?_; clear hK K
    refine zB [0, 1, 5, 6, 7, 8] [96, 248] (by simp only [qZ, qR, qP, qQ, qN, qS, qM, qX, qU, Nat.reduceEqDiff, reduceIte]; exact rfl) ?_
    (repeat first | refine qE ?_ | refine qA ?_ | refine qC ?_ | refine qB ?_ | refine qD ?_)
    have hRn := rowOf_len a b (p + 1)
    generalize hN : rowOf a b (p + 1) = Rn at *
    have hget : ∀ q (h : q < Rn.length), Rn[q] = ((at2 a b (p + 1) q : Nat) : Int) := fun q h => by subst hN; exact rowOf_get a b (p + 1) q h
    refine HW_loop (fun x : Int × List Int => ⟨[(0, .lst false (strs a)), (1, .lst false (strs b)), (5, .own 96), (6, .v (.int .i64 (p : Nat))), (7, .own 248), (8, .v (.int .i64 x.1))], [(96, .sl true 91 1 (tabE (p + 1) (Rn :: rowsOf a b (p + 1 + 1)))), (248, .sl true 3 1 (ints x.2))]⟩)
      (fun x => -1 ≤ x.1 ∧ x.1 < b.length ∧ x.2.length = b.length + 1 ∧ ∀ q (h : q < x.2.length), x.1 < q → x.2[q] = ((at2 a b p q : Nat) : Int)) (fun x => (x.1 + 1).toNat) [0, 1, 5, 6, 7, 8] [96, 248] ((b.length : Int) - 1, List.replicate (b.length + 1) 0) rfl ⟨by show -1 ≤ (b.length : Int) - 1; omega, by show (b.length : Int) - 1 < b.length; omega, by simp, fun q h hq => ?_⟩ ?_
    · simp only [List.length_replicate] at h
      have : (b.length : Int) - 1 < q := hq
      simp only [List.getElem_replicate]
      rw [at2_end a b p q (.inr (by omega))]; rfl
    rintro ⟨j, R⟩ ⟨hj1, hj2, hR, hv⟩
    simp only at hj1 hj2 hR hv
    (repeat first | refine qE ?_ | refine qA ?_ | refine qC ?_ | refine qB ?_ | refine qD ?_); refine qJ (fun K hK => ?_); simp (maxSteps := 2000000) (disch := omega) only [push_cast, ↓Int.cast_ofNat_Int, Nat.reduceBEq, Nat.reduceAdd, Nat.reduceLT, Nat.reduceEqDiff, reduceIte, reduceCtorEq, Nat.reduceLeDiff, Nat.reduceSub, List.reduceReplicate, Nat.reduceMul, Int.reduceToNat, Nat.reducePow]; refine hK _ ?_; clear hK K
    (repeat first | refine qE ?_ | refine qA ?_ | refine qC ?_ | refine qB ?_ | refine qD ?_)
    refine HW_cond rfl (fun hlt2 => ?_) (fun hge2 => ?_)
    · have hj0 : 0 ≤ j := by simpa using hlt2
      obtain ⟨k, rfl⟩ := Int.eq_ofNat_of_zero_le hj0
      have hk : k < b.length := by omega
      have hx : R[k + 1]'(by omega) = ((at2 a b p (k + 1) : Nat) : Int) := hv (k + 1) (by omega) (by omega)
      have hy : Rn[k]'(by omega) = ((at2 a b (p + 1) k : Nat) : Int) := hget k (by omega)
      have hz : Rn[k + 1]'(by omega) = ((at2 a b (p + 1) (k + 1) : Nat) : Int) := hget (k + 1) (by omega)
      have hstep := at2_step a b p k hp hk
      have b1 := at2_down a b p (k + 1) hp
      have b2 := at2_right a b (p + 1) k hk
      have b3 := at2_le a b p (k + 1)
      have b4 := at2_le a b (p + 1) k
      have b5 := at2_le a b (p + 1) (k + 1)
      generalize hX : at2 a b p (k + 1) = X at *
      generalize hY : at2 a b (p + 1) k = Y at *
      generalize hZ : at2 a b (p + 1) (k + 1) = Z at *
      generalize hV : at2 a b p k = V at *
      have fin : ∀ (v : Nat), v = V → ∀ q (h : q < (R.set k (v : Int)).length), ((k : Int) - 1) < q → (R.set k (v : Int))[q] = ((at2 a b p q : Nat) : Int) := fun v ev q h hq => by
        rw [List.getElem_set]
        split
        · rename_i e; subst e; rw [hV, ev]
        · exact hv q (by simpa using h) (by omega)
      by_cases he : a[p] = b[k]
      · rw [if_pos he] at hstep
        have he' : decide (a[p] = b[k]) = true := decide_eq_true he
        have hcs : (Y ≤ X ∧ X < Z + 1) ∨ (Y ≤ X ∧ X = Z + 1) ∨ (X < Y ∧ Y < Z + 1) ∨ (X < Y ∧ Y = Z + 1) := by omega
        rcases hcs with ⟨c1, c2⟩ | ⟨c1, c2⟩ | ⟨c1, c2⟩ | ⟨c1, c2⟩
        all_goals
          (repeat first | refine qE ?_ | refine qA ?_ | refine qC ?_ | refine qB ?_ | refine qD ?_); refine qJ (fun K hK => ?_); simp (maxSteps := 2000000) (disch := omega) only [push_cast, ↓Int.cast_ofNat_Int, Nat.reduceBEq, Nat.reduceAdd, Nat.reduceLT, Nat.reduceEqDiff, reduceIte, reduceCtorEq, Nat.reduceLeDiff, Nat.reduceSub, List.reduceReplicate, Nat.reduceMul, Int.reduceToNat, Nat.reducePow, ints_len, ints_get, ints_wid, hx, ints_set]; refine hK _ ?_; clear hK K
          refine zB [0, 1, 5, 6, 7, 8] [96, 248] (by simp only [qZ, qR, qP, qQ, qN, qS, qM, qX, qU, Nat.reduceEqDiff, reduceIte]; exact rfl) ?_
          (repeat first | refine qE ?_ | refine qA ?_ | refine qC ?_ | refine qB ?_ | refine qD ?_); refine HW_drw 13 mixed (by kernel_rfl) (fun K hK => ?_); simp (maxSteps := 2000000) (disch := omega) only [push_cast, ↓Int.cast_ofNat_Int, Nat.reduceBEq, Nat.reduceAdd, Nat.reduceLT, Nat.reduceEqDiff, reduceIte, reduceCtorEq, Nat.reduceLeDiff, Nat.reduceSub, List.reduceReplicate, Nat.reduceMul, Int.reduceToNat, Nat.reducePow, ints_len, ints_get, ints_wid, tabE_len, tabE_head, tabE_wid, hy, ints_gets, List.length_set]
          with_reducible refine hstop ?_; simp (maxSteps := 2000000) (disch := omega) only [push_cast, ↓Int.cast_ofNat_Int, Nat.reduceBEq, Nat.reduceAdd, Nat.reduceLT, Nat.reduceEqDiff, reduceIte, reduceCtorEq, Nat.reduceLeDiff, Nat.reduceSub, List.reduceReplicate, Nat.reduceMul, Int.reduceToNat, Nat.reducePow]
          refine hK _ ?_; clear hK K
          refine zB [0, 1, 5, 6, 7, 8, 59] [96, 248] (by simp only [qZ, qR, qP, qQ, qN, qS, qM, qX, qU, Nat.reduceEqDiff, reduceIte]; exact rfl) ?_
          (repeat first | refine qE ?_ | refine qA ?_ | refine qC ?_ | refine qB ?_ | refine qD ?_)
          first
            | (refine zC rfl ?_)
            | (refine zD rfl ?_
               (repeat first | refine qE ?_ | refine qA ?_ | refine qC ?_ | refine qB ?_ | refine qD ?_); refine qJ (fun K hK => ?_); simp (maxSteps := 2000000) (disch := omega) only [push_cast, ↓Int.cast_ofNat_Int, Nat.reduceBEq, Nat.reduceAdd, Nat.reduceLT, Nat.reduceEqDiff, reduceIte, reduceCtorEq, Nat.reduceLeDiff, Nat.reduceSub, List.reduceReplicate, Nat.reduceMul, Int.reduceToNat, Nat.reducePow, ints_len, ints_get, ints_wid, tabE_len, tabE_head, tabE_wid, hy, ints_set, ints_gets, List.length_set, List.set_set]; refine hK _ ?_; clear hK K
               refine zB [0, 1, 5, 6, 7, 8] [96, 248] (by simp only [qZ, qR, qP, qQ, qN, qS, qM, qX, qU, Nat.reduceEqDiff, reduceIte]; exact rfl) ?_)
          (repeat first | refine qE ?_ | refine qA ?_ | refine qC ?_ | refine qB ?_ | refine qD ?_); refine HW_drw 26 mixed (by kernel_rfl) (fun K hK => ?_); simp (maxSteps := 2000000) (disch := omega) only [push_cast, ↓Int.cast_ofNat_Int, Nat.reduceBEq, Nat.reduceAdd, Nat.reduceLT, Nat.reduceEqDiff, reduceIte, reduceCtorEq, Nat.reduceLeDiff, Nat.reduceSub, List.reduceReplicate, Nat.reduceMul, Int.reduceToNat, Nat.reducePow, strs_len, strs_wid, strs_get, he', ints_len, ints_get, ints_wid, tabE_len, tabE_head, tabE_wid, hz, ints_gets, List.length_set]
          with_reducible refine hstop ?_; simp (maxSteps := 2000000) (disch := omega) only [push_cast, ↓Int.cast_ofNat_Int, Nat.reduceBEq, Nat.reduceAdd, Nat.reduceLT, Nat.reduceEqDiff, reduceIte, reduceCtorEq, Nat.reduceLeDiff, Nat.reduceSub, List.reduceReplicate, Nat.reduceMul, Int.reduceToNat, Nat.reducePow]
          refine hK _ ?_; clear hK K
          refine zB [0, 1, 5, 6, 7, 8, 96] [96, 248] (by simp only [qZ, qR, qP, qQ, qN, qS, qM, qX, qU, Nat.reduceEqDiff, reduceIte]; exact rfl) ?_
          (repeat first | refine qE ?_ | refine qA ?_ | refine qC ?_ | refine qB ?_ | refine qD ?_)
          first
            | (refine zC rfl ?_)
            | (refine zD rfl ?_
               (repeat first | refine qE ?_ | refine qA ?_ | refine qC ?_ | refine qB ?_ | refine qD ?_); refine qJ (fun K hK => ?_); simp (maxSteps := 2000000) (disch := omega) only [push_cast, ↓Int.cast_ofNat_Int, Nat.reduceBEq, Nat.reduceAdd, Nat.reduceLT, Nat.reduceEqDiff, reduceIte, reduceCtorEq, Nat.reduceLeDiff, Nat.reduceSub, List.reduceReplicate, Nat.reduceMul, Int.reduceToNat, Nat.reducePow, ints_len, ints_get, ints_wid, tabE_len, tabE_head, tabE_wid, hz, ints_set, ints_gets, List.length_set, List.set_set]; refine hK _ ?_; clear hK K
               refine zB [0, 1, 5, 6, 7, 8] [96, 248] (by simp only [qZ, qR, qP, qQ, qN, qS, qM, qX, qU, Nat.reduceEqDiff, reduceIte]; exact rfl) ?_)
          (repeat first | refine qK ?_ | refine qG ?_ | refine qH ?_ | refine qF rfl ?_ | refine qL ?_ | refine qB ?_ | refine qE ?_ | refine qA ?_ | refine qC ?_ | refine qT ?_ | refine qW ?_)
          (repeat first | refine qE ?_ | refine qA ?_ | refine qC ?_ | refine qB ?_ | refine qD ?_); refine qJ (fun K hK => ?_); simp (maxSteps := 2000000) (disch := omega) only [push_cast, ↓Int.cast_ofNat_Int, Nat.reduceBEq, Nat.reduceAdd, Nat.reduceLT, Nat.reduceEqDiff, reduceIte, reduceCtorEq, Nat.reduceLeDiff, Nat.reduceSub, List.reduceReplicate, Nat.reduceMul, Int.reduceToNat, Nat.reducePow]; refine hK _ ?_; clear hK K
          refine qA ⟨((k : Int) - 1, _), rfl, ⟨by show -1 ≤ (k : Int) - 1; omega, by show (k : Int) - 1 < b.length; omega, by simp [hR], fun q h hq => ?_⟩, by show ((k : Int) - 1 + 1).toNat < ((k : Int) + 1).toNat; omega⟩
          first
            | exact fin X (by omega) q h hq
            | exact fin Y (by omega) q h hq
            | exact fin (Z + 1) (by omega) q h hq
      · rw [if_neg he] at hstep
        have he' : decide (a[p] = b[k]) = false := decide_eq_false he
        have hcs : (Y ≤ X) ∨ (X < Y) := by omega
        rcases hcs with c1 | c1
        all_goals
          (repeat first | refine qE ?_ | refine qA ?_ | refine qC ?_ | refine qB ?_ | refine qD ?_); refine qJ (fun K hK => ?_); simp (maxSteps := 2000000) (disch := omega) only [push_cast, ↓Int.cast_ofNat_Int, Nat.reduceBEq, Nat.reduceAdd, Nat.reduceLT, Nat.reduceEqDiff, reduceIte, reduceCtorEq, Nat.reduceLeDiff, Nat.reduceSub, List.reduceReplicate, Nat.reduceMul, Int.reduceToNat, Nat.reducePow, ints_len, ints_get, ints_wid, hx, ints_set]; refine hK _ ?_; clear hK K
          refine zB [0, 1, 5, 6, 7, 8] [96, 248] (by simp only [qZ, qR, qP, qQ, qN, qS, qM, qX, qU, Nat.reduceEqDiff, reduceIte]; exact rfl) ?_
          (repeat first | refine qE ?_ | refine qA ?_ | refine qC ?_ | refine qB ?_ | refine qD ?_); refine HW_drw 13 mixed (by kernel_rfl) (fun K hK => ?_); simp (maxSteps := 2000000) (disch := omega) only [push_cast, ↓Int.cast_ofNat_Int, Nat.reduceBEq, Nat.reduceAdd, Nat.reduceLT, Nat.reduceEqDiff, reduceIte, reduceCtorEq, Nat.reduceLeDiff, Nat.reduceSub, List.reduceReplicate, Nat.reduceMul, Int.reduceToNat, Nat.reducePow, ints_len, ints_get, ints_wid, tabE_len, tabE_head, tabE_wid, hy, ints_gets, List.length_set]
          with_reducible refine hstop ?_; simp (maxSteps := 2000000) (disch := omega) only [push_cast, ↓Int.cast_ofNat_Int, Nat.reduceBEq, Nat.reduceAdd, Nat.reduceLT, Nat.reduceEqDiff, reduceIte, reduceCtorEq, Nat.reduceLeDiff, Nat.reduceSub, List.reduceReplicate, Nat.reduceMul, Int.reduceToNat, Nat.reducePow]
          refine hK _ ?_; clear hK K
          refine zB [0, 1, 5, 6, 7, 8, 59] [96, 248] (by simp only [qZ, qR, qP, qQ, qN, qS, qM, qX, qU, Nat.reduceEqDiff, reduceIte]; exact rfl) ?_
          (repeat first | refine qE ?_ | refine qA ?_ | refine qC ?_ | refine qB ?_ | refine qD ?_)
          first
            | (refine zC rfl ?_)
            | (refine zD rfl ?_
               (repeat first | refine qE ?_ | refine qA ?_ | refine qC ?_ | refine qB ?_ | refine qD ?_); refine qJ (fun K hK => ?_); simp (maxSteps := 2000000) (disch := omega) only [push_cast, ↓Int.cast_ofNat_Int, Nat.reduceBEq, Nat.reduceAdd, Nat.reduceLT, Nat.reduceEqDiff, reduceIte, reduceCtorEq, Nat.reduceLeDiff, Nat.reduceSub, List.reduceReplicate, Nat.reduceMul, Int.reduceToNat, Nat.reducePow, ints_len, ints_get, ints_wid, tabE_len, tabE_head, tabE_wid, hy, ints_set, ints_gets, List.length_set, List.set_set]; refine hK _ ?_; clear hK K
               refine zB [0, 1, 5, 6, 7, 8] [96, 248] (by simp only [qZ, qR, qP, qQ, qN, qS, qM, qX, qU, Nat.reduceEqDiff, reduceIte]; exact rfl) ?_)
          (repeat first | refine qE ?_ | refine qA ?_ | refine qC ?_ | refine qB ?_ | refine qD ?_); refine HW_drw 26 mixed (by kernel_rfl) (fun K hK => ?_); simp (maxSteps := 2000000) (disch := omega) only [push_cast, ↓Int.cast_ofNat_Int, Nat.reduceBEq, Nat.reduceAdd, Nat.reduceLT, Nat.reduceEqDiff, reduceIte, reduceCtorEq, Nat.reduceLeDiff, Nat.reduceSub, List.reduceReplicate, Nat.reduceMul, Int.reduceToNat, Nat.reducePow, strs_len, strs_wid, strs_get, he', ints_len, ints_get, ints_wid, tabE_len, tabE_head, tabE_wid, hz, ints_gets, List.length_set]
          with_reducible refine hstop ?_; simp (maxSteps := 2000000) (disch := omega) only [push_cast, ↓Int.cast_ofNat_Int, Nat.reduceBEq, Nat.reduceAdd, Nat.reduceLT, Nat.reduceEqDiff, reduceIte, reduceCtorEq, Nat.reduceLeDiff, Nat.reduceSub, List.reduceReplicate, Nat.reduceMul, Int.reduceToNat, Nat.reducePow]
          refine hK _ ?_; clear hK K
          refine zB [0, 1, 5, 6, 7, 8, 96] [96, 248] (by simp only [qZ, qR, qP, qQ, qN, qS, qM, qX, qU, Nat.reduceEqDiff, reduceIte]; exact rfl) ?_
          (repeat first | refine qE ?_ | refine qA ?_ | refine qC ?_ | refine qB ?_ | refine qD ?_)
          refine zC rfl ?_
          (repeat first | refine qK ?_ | refine qG ?_ | refine qH ?_ | refine qF rfl ?_ | refine qL ?_ | refine qB ?_ | refine qE ?_ | refine qA ?_ | refine qC ?_ | refine qT ?_ | refine qW ?_)
          (repeat first | refine qE ?_ | refine qA ?_ | refine qC ?_ | refine qB ?_ | refine qD ?_); refine qJ (fun K hK => ?_); simp (maxSteps := 2000000) (disch := omega) only [push_cast, ↓Int.cast_ofNat_Int, Nat.reduceBEq, Nat.reduceAdd, Nat.reduceLT, Nat.reduceEqDiff, reduceIte, reduceCtorEq, Nat.reduceLeDiff, Nat.reduceSub, List.reduceReplicate, Nat.reduceMul, Int.reduceToNat, Nat.reducePow]; refine hK _ ?_; clear hK K
          refine qA ⟨((k : Int) - 1, _), rfl, ⟨by show -1 ≤ (k : Int) - 1; omega, by show (k : Int) - 1 < b.length; omega, by simp [hR], fun q h hq => ?_⟩, by show ((k : Int) - 1 + 1).toNat < ((k : Int) + 1).toNat; omega⟩
          first
            | exact fin X (by omega) q h hq
            | exact fin Y (by omega) q h hq
    · have hjm : j = -1 := by have : ¬ 0 ≤ j := by simpa using hge2
                              omega
      subst hjm
      have hRp : R = rowOf a b p := by
        apply List.ext_getElem
        · rw [hR, rowOf_len]
        · intro q h1 h2
          rw [hv q h1 (by omega), rowOf_get]
      subst hRp
      (repeat first | refine qK ?_ | refine qG ?_ | refine qH ?_ | refine qF rfl ?_ | refine qL ?_ | refine qB ?_ | refine qE ?_ | refine qA ?_ | refine qC ?_ | refine qT ?_ | refine qW ?_)
      (repeat first | refine qE ?_ | refine qA ?_ | refine qC ?_ | refine qB ?_ | refine qD ?_); refine qJ (fun K hK => ?_); simp (maxSteps := 2000000) (disch := omega) only [push_cast, ↓Int.cast_ofNat_Int, Nat.reduceBEq, Nat.reduceAdd, Nat.reduceLT, Nat.reduceEqDiff, reduceIte, reduceCtorEq, Nat.reduceLeDiff, Nat.reduceSub, List.reduceReplicate, Nat.reduceMul, Int.reduceToNat, Nat.reducePow, tabE_len, tabE_low, tabE_set]; refine hK _ ?_; clear hK K
      refine zB [0, 1, 5, 6] [96] (by simp only [qZ, qR, qP, qQ, qN, qS, qM, qX, qU, Nat.reduceEqDiff, reduceIte]; exact rfl) ?_
      (repeat first | refine qK ?_ | refine qG ?_ | refine qH ?_ | refine qF rfl ?_ | refine qL ?_ | refine qB ?_ | refine qE ?_ | refine qA ?_ | refine qC ?_ | refine qT ?_ | refine qW ?_)
      (repeat first | refine qE ?_ | refine qA ?_ | refine qC ?_ | refine qB ?_ | refine qD ?_); refine qJ (fun K hK => ?_); simp (maxSteps := 2000000) (disch := omega) only [push_cast, ↓Int.cast_ofNat_Int, Nat.reduceBEq, Nat.reduceAdd, Nat.reduceLT, Nat.reduceEqDiff, reduceIte, reduceCtorEq, Nat.reduceLeDiff, Nat.reduceSub, List.reduceReplicate, Nat.reduceMul, Int.reduceToNat, Nat.reducePow]; refine hK _ ?_; clear hK K
      refine qA ⟨(p : Int) - 1, ?_, ⟨by omega, by omega⟩, by omega⟩
      have e3 : ((p : Int) - 1 + 1).toNat = p := by omega
      simp only [qZ, qR, qP, qQ, qN, qS, qM, qX, qU, Nat.reduceEqDiff, reduceIte, e3, rowsOf_cons a b p (by omega), rowsOf_cons a b (p + 1) (by omega), hN]
  · have him : i = -1 := by have : ¬ 0 ≤ i := by simpa using hge
                            omega
    subst him
    (repeat first | refine qK ?_ | refine qG ?_ | refine qH ?_ | refine qF rfl ?_ | refine qL ?_ | refine qB ?_ | refine qE ?_ | refine qA ?_ | refine qC ?_ | refine qT ?_ | refine qW ?_)
    (repeat first | refine qE ?_ | refine qA ?_ | refine qC ?_ | refine qB ?_ | refine qD ?_); refine qJ (fun K hK => ?_); simp (maxSteps := 2000000) (disch := omega) only [push_cast, ↓Int.cast_ofNat_Int, Nat.reduceBEq, Nat.reduceAdd, Nat.reduceLT, Nat.reduceEqDiff, reduceIte, reduceCtorEq, Nat.reduceLeDiff, Nat.reduceSub, List.reduceReplicate, Nat.reduceMul, Int.reduceToNat, Nat.reducePow]; refine hK _ ?_; clear hK K
    (repeat first | refine qK ?_ | refine qG ?_ | refine qH ?_ | refine qF rfl ?_ | refine qL ?_ | refine qB ?_ | refine qE ?_ | refine qA ?_ | refine qC ?_ | refine qT ?_ | refine qW ?_)
    simp only [zA, zM, zH, zE, zK, zJ, qS, qM, Nat.reduceEqDiff, reduceIte, reduceCtorEq]
    refine hres_o rfl ?_ ⟨rfl, ?_⟩
    · exact tab_fresh a b
    · show [(0, Row.sl true 91 1 (tabE 0 (rowsOf a b 0)))] = _
      rw [tabE_zero]
end Go.Proofs.Ytlfenddhppoflaa
