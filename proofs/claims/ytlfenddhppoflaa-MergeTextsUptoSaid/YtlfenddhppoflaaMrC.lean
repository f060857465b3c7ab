/- What the walk of the law stands on. -/
import Derived.Test.YtlfenddhppoflaaMrB
import Derived.Test.YtlfenddhppoflaaMgE
import Derived.Test.YtlfenddhppoflaaLnt
set_option linter.unusedSimpArgs false
set_option linter.unusedVariables false
set_option maxRecDepth 20000
namespace Go.DiffM
section
variable {α : Type} {o a b : List α}
theorem cadd_len (cs : List (Ck α)) (s : α) : (cadd cs s).length ≤ cs.length + 1 := by
 rcases cadd_cases cs s with ⟨pre, c, rfl, -, e⟩ | ⟨-, e⟩ <;> (rw [e]; simp)
theorem betw_len (u : Cu α) (i j k : Nat) : (betw o a b u i j k).out.length ≤ u.out.length + 1 := by
 unfold betw
 dsimp only
 split <;> simp
theorem part_len (f : Ck α → List α) {cs : List (Ck α)} {c : Ck α} (h : c ∈ cs) : (f c).length ≤ (cs.flatMap f).length := by
 induction cs with
 | nil => simp at h
 | cons d r ih =>
  rw [List.flatMap_cons, List.length_append]
  rcases List.mem_cons.1 h with rfl | h
  ·omega
  ·have := ih h; omega
variable [Inhabited α]
theorem chT_snoc : ∀ (l : List (Nat × Nat × Nat)) (p q r : Nat) (u : Cu α), chT o a b (l ++ [(p, q, r)]) u = stab (o.getD p default) (betw o a b (chT o a b l u) p q r)
 | [], _, _, _, _ => rfl
 | (i, j, k) :: l, p, q, r, u => by rw [List.cons_append, chT, chT, chT_snoc l]
structure RI (o a b : List α) (T : List (Nat × Nat × Nat)) (n : Nat) (u : Cu α) : Prop where
 pt : Pt o a b u
 hl : HL u
 tk : TK o a b (T.drop n) u.i u.j u.k
 len : u.out.length ≤ 2 * n
theorem ri_inv {T : List (Nat × Nat × Nat)} (hT : TK o a b T 0 0 0) : ∀ n, n ≤ T.length → RI o a b T n (chT o a b (T.take n) ⟨0, 0, 0, []⟩)
 | 0, _ => ⟨⟨Nat.zero_le _, Nat.zero_le _, Nat.zero_le _, rfl, rfl, rfl, fun c h => by simp [chT] at h, fun n h => by simp [chT] at h⟩, fun c h => by simp [chT] at h, by simpa [chT] using hT, by simp [chT]⟩
 | n + 1, h => by
  obtain ⟨h1, h2, h3, h4⟩ := ri_inv hT n (by omega)
  obtain ⟨p, q, r, e⟩ : ∃ p q r, T[n] = (p, q, r) := ⟨T[n].1, T[n].2.1, T[n].2.2, rfl⟩
  rw [List.take_succ_eq_append_getElem (by omega), e, chT_snoc]
  rw [List.drop_eq_getElem_cons (by omega), e] at h3
  obtain ⟨k1, k2, k3, ⟨k4, k5, k6, k7, k8⟩, k9⟩ := h3
  generalize chT o a b (T.take n) ⟨0, 0, 0, []⟩ = u at *
  have hb := betw_pt h1 h2 (i := p) (j := q) (k := r) ⟨k1, by omega⟩ ⟨k2, by omega⟩ ⟨k3, by omega⟩
  have hs : o.getD p default = o[p] := by simp [List.getD_eq_getElem?_getD, k4]
  rw [hs]
  obtain ⟨s1, s2⟩ := stab_pt (u := betw o a b u p q r) hb k4 k5 k6 k7 k8
  refine ⟨s1, s2, k9, ?_⟩
  have a1 := cadd_len (betw o a b u p q r).out o[p]
  have a2 := betw_len (o := o) (a := a) (b := b) u p q r
  show (cadd (betw o a b u p q r).out o[p]).length ≤ _
  omega
end
end Go.DiffM
namespace Go.Proofs.Ytlfenddhppoflaa
open Go Go.Eng Go.RowKit Go.DiffM


def rfE (x y z : ByteArray) (i : Nat) : HS := ⟨[(0, .v (.string x)), (1, .v (.string y)), (2, .v (.string z)), (8, .lst true (strs [x, y, z])), (9, .v (.int .i64 i))], []⟩
def rcE (o a b : List ByteArray) (T L : List (Nat × Nat × Nat)) (n : Nat) : HS := ⟨[(10, .lst true (strs o)), (11, .lst true (strs a)), (12, .lst true (strs b)), (13, .lst true (trips L)), (14, .own 9000), (15, .v (.int .i64 (chT o a b (T.take n) ⟨0, 0, 0, []⟩).i)), (16, .v (.int .i64 (chT o a b (T.take n) ⟨0, 0, 0, []⟩).j)), (17, .v (.int .i64 (chT o a b (T.take n) ⟨0, 0, 0, []⟩).k)), (18, .v (.int .i64 n))], [(9000, .sl true 77 4 (cks (chT o a b (T.take n) ⟨0, 0, 0, []⟩).out))]⟩
set_option maxHeartbeats 8000000 in
theorem refChunks_H (x y z : ByteArray) (hx : x.size ≤ 4294967296) (hy : y.size ≤ 4294967296) (hz : z.size ≤ 4294967296) : HFun Try.prog 48 [.v (.string x), .v (.string y), .v (.string z)] (fun h st =>
  (mgErr x y z ≠ 0 ∧ h = .tup [.v (.slice none 0 0), .v (.int .i64 (mgErr x y z))] ∧ st = []) ∨
  (textS x = 0 ∧ textS y = 0 ∧ textS z = 0 ∧ h = .tup [.own 0, .v (.int .i64 0)] ∧ st = [(0, .sl true 77 4 (cks (chunksS x y z)))])) := by
 refine hfun (N := 189) Try.func48 rfl Try.ntmps48 Try.results48 (by simp) ?_
 (repeat first | refine qE ?_ | refine qA ?_ | refine qC ?_ | refine qB ?_ | refine qD ?_); refine qJ (fun K hK => ?_); simp (maxSteps := 2000000) (disch := omega) only [push_cast, ↓Int.cast_ofNat_Int, Nat.reduceBEq, Nat.reduceAdd, Nat.reduceLT, Nat.reduceEqDiff, reduceIte, reduceCtorEq, Nat.reduceLeDiff, Nat.reduceSub, List.reduceReplicate, Nat.reduceMul, Int.reduceToNat, Nat.reducePow]; refine hK _ ?_; clear hK K
 (repeat first | refine qE ?_ | refine qA ?_ | refine qC ?_ | refine qB ?_ | refine qD ?_); refine qJ (fun K hK => ?_); simp (maxSteps := 2000000) (disch := omega) only [push_cast, ↓Int.cast_ofNat_Int, Nat.reduceBEq, Nat.reduceAdd, Nat.reduceLT, Nat.reduceEqDiff, reduceIte, reduceCtorEq, Nat.reduceLeDiff, Nat.reduceSub, List.reduceReplicate, Nat.reduceMul, Int.reduceToNat, Nat.reducePow]; refine hK _ ?_; clear hK K
 refine zB [0, 1, 2, 8] [192] (by simp only [qZ, qR, qP, qQ, qN, qS, qM, qX, qU, Nat.reduceEqDiff, reduceIte]; exact rfl) ?_
 refine HW_restS 192 rfl (by simp only [rest_eq, esub_nil, esub_cons, ssub_nil, ssub_cons, hsub_v, hsub_lst, hsub_elt, hsub_junk, hsub_own, hsub_ptr, hsub_vw, hsub_agg, hsub_tup, rsub_sl, rsub_hl, rsub_bx, Nat.reduceEqDiff, reduceIte, List.map_cons, List.map_nil, List.map_append]; exact rfl) ?_
 (repeat first | refine qE ?_ | refine qA ?_ | refine qC ?_ | refine qB ?_ | refine qD ?_); refine qJ (fun K hK => ?_); simp (maxSteps := 2000000) (disch := omega) only [push_cast, ↓Int.cast_ofNat_Int, Nat.reduceBEq, Nat.reduceAdd, Nat.reduceLT, Nat.reduceEqDiff, reduceIte, reduceCtorEq, Nat.reduceLeDiff, Nat.reduceSub, List.reduceReplicate, Nat.reduceMul, Int.reduceToNat, Nat.reducePow]; refine hK _ ?_; clear hK K
 (repeat first | refine qE ?_ | refine qA ?_ | refine qC ?_ | refine qB ?_ | refine qD ?_)
 refine HW_loop (rfE x y z) (fun i => i ≤ 3 ∧ (0 < i → textS x = 0) ∧ (1 < i → textS y = 0) ∧ (2 < i → textS z = 0)) (fun i => 3 - i) [0, 1, 2, 8, 9] [] 0 (by simp only [qZ, qR, qP, qQ, qN, qS, qM, qX, qU, Nat.reduceEqDiff, reduceIte, rfE]; try rfl) ⟨by omega, by omega, by omega, by omega⟩ ?_
 rintro i ⟨hi, h0, h1, h2⟩
 simp only [rfE]
 have hsl : (strs [x, y, z]).length = 3 := rfl
 by_cases hlt : i < 3
 ·obtain ⟨s, hg, hss, hm, hn⟩ : ∃ s, (∀ d, (strs [x, y, z]).getD i d = [.v (.string s)]) ∧ s.size ≤ 4294967296 ∧ (textS s ≠ 0 → mgErr x y z = textS s) ∧ (textS s = 0 → (0 < i + 1 → textS x = 0) ∧ (1 < i + 1 → textS y = 0) ∧ (2 < i + 1 → textS z = 0)) := by
   have hcs : i = 0 ∨ i = 1 ∨ i = 2 := by omega
   rcases hcs with rfl | rfl | rfl
   ·exact ⟨x, fun d => rfl, hx, fun h => by rw [mgErr, if_pos h], fun h => ⟨fun _ => h, by omega, by omega⟩⟩
   ·exact ⟨y, fun d => rfl, hy, fun h => by rw [mgErr, if_neg (by rw [h0 (by omega)]; simp), if_pos h], fun h => ⟨fun _ => h0 (by omega), fun _ => h, by omega⟩⟩
   ·exact ⟨z, fun d => rfl, hz, fun h => by rw [mgErr, if_neg (by rw [h0 (by omega)]; simp), if_neg (by rw [h1 (by omega)]; simp)], fun h => ⟨fun _ => h0 (by omega), fun _ => h1 (by omega), fun _ => h⟩⟩
  (repeat first | refine qE ?_ | refine qA ?_ | refine qC ?_ | refine qB ?_ | refine qD ?_); refine qJ (fun K hK => ?_); simp (maxSteps := 2000000) (disch := omega) only [push_cast, ↓Int.cast_ofNat_Int, Nat.reduceBEq, Nat.reduceAdd, Nat.reduceLT, Nat.reduceEqDiff, reduceIte, reduceCtorEq, Nat.reduceLeDiff, Nat.reduceSub, List.reduceReplicate, Nat.reduceMul, Int.reduceToNat, Nat.reducePow]; refine hK _ ?_; clear hK K
  (repeat first | refine qE ?_ | refine qA ?_ | refine qC ?_ | refine qB ?_ | refine qD ?_)
  refine zD rfl ?_
  (repeat first | refine qK ?_ | refine qG ?_ | refine qH ?_ | refine qF rfl ?_ | refine qL ?_ | refine qB ?_ | refine qE ?_ | refine qA ?_ | refine qC ?_ | refine qT ?_ | refine qW ?_)
  (repeat first | refine qE ?_ | refine qA ?_ | refine qC ?_ | refine qB ?_ | refine qD ?_); refine qJ (fun K hK => ?_); simp (maxSteps := 2000000) (disch := omega) only [push_cast, ↓Int.cast_ofNat_Int, Nat.reduceBEq, Nat.reduceAdd, Nat.reduceLT, Nat.reduceEqDiff, reduceIte, reduceCtorEq, Nat.reduceLeDiff, Nat.reduceSub, List.reduceReplicate, Nat.reduceMul, Int.reduceToNat, Nat.reducePow, hsl, hg, strs_wid]
  refine hatv cl42 (refText_H s hss) (.cons (.v _) .nil) ?_
  by_cases he : textS s = 0
  ·with_reducible refine hstop ?_; simp (maxSteps := 2000000) (disch := omega) only [push_cast, ↓Int.cast_ofNat_Int, Nat.reduceBEq, Nat.reduceAdd, Nat.reduceLT, Nat.reduceEqDiff, reduceIte, reduceCtorEq, Nat.reduceLeDiff, Nat.reduceSub, List.reduceReplicate, Nat.reduceMul, Int.reduceToNat, Nat.reducePow, he]
   refine hK _ ?_; clear hK K
   refine zC rfl ?_
   (repeat first | refine qK ?_ | refine qG ?_ | refine qH ?_ | refine qF rfl ?_ | refine qL ?_ | refine qB ?_ | refine qE ?_ | refine qA ?_ | refine qC ?_ | refine qT ?_ | refine qW ?_)
   (repeat first | refine qE ?_ | refine qA ?_ | refine qC ?_ | refine qB ?_ | refine qD ?_); refine qJ (fun K hK => ?_); simp (maxSteps := 2000000) (disch := omega) only [push_cast, ↓Int.cast_ofNat_Int, Nat.reduceBEq, Nat.reduceAdd, Nat.reduceLT, Nat.reduceEqDiff, reduceIte, reduceCtorEq, Nat.reduceLeDiff, Nat.reduceSub, List.reduceReplicate, Nat.reduceMul, Int.reduceToNat, Nat.reducePow]; refine hK _ ?_; clear hK K
   (repeat first | refine qK ?_ | refine qG ?_ | refine qH ?_ | refine qF rfl ?_ | refine qL ?_ | refine qB ?_ | refine qE ?_ | refine qA ?_ | refine qC ?_ | refine qT ?_ | refine qW ?_)
   exact ⟨i + 1, by simp only [qZ, qR, qP, qQ, qN, qS, qM, qX, qU, Nat.reduceEqDiff, reduceIte, rfE]; try rfl, ⟨by omega, hn he⟩, by omega⟩
  ·with_reducible refine hstop ?_; simp (maxSteps := 2000000) (disch := omega) only [push_cast, ↓Int.cast_ofNat_Int, Nat.reduceBEq, Nat.reduceAdd, Nat.reduceLT, Nat.reduceEqDiff, reduceIte, reduceCtorEq, Nat.reduceLeDiff, Nat.reduceSub, List.reduceReplicate, Nat.reduceMul, Int.reduceToNat, Nat.reducePow]
   refine hK _ ?_; clear hK K
   refine zD rfl ?_
   (repeat first | refine qE ?_ | refine qA ?_ | refine qC ?_ | refine qB ?_ | refine qD ?_); refine qJ (fun K hK => ?_); simp (maxSteps := 2000000) (disch := omega) only [push_cast, ↓Int.cast_ofNat_Int, Nat.reduceBEq, Nat.reduceAdd, Nat.reduceLT, Nat.reduceEqDiff, reduceIte, reduceCtorEq, Nat.reduceLeDiff, Nat.reduceSub, List.reduceReplicate, Nat.reduceMul, Int.reduceToNat, Nat.reducePow, hsl, hg, strs_wid]
   refine hatv cl42 (refText_H s hss) (.cons (.v _) .nil) ?_
   with_reducible refine hstop ?_; simp (maxSteps := 2000000) (disch := omega) only [push_cast, ↓Int.cast_ofNat_Int, Nat.reduceBEq, Nat.reduceAdd, Nat.reduceLT, Nat.reduceEqDiff, reduceIte, reduceCtorEq, Nat.reduceLeDiff, Nat.reduceSub, List.reduceReplicate, Nat.reduceMul, Int.reduceToNat, Nat.reducePow]
   refine hK _ ?_; clear hK K
   (repeat first | refine qK ?_ | refine qG ?_ | refine qH ?_ | refine qF rfl ?_ | refine qL ?_ | refine qB ?_ | refine qE ?_ | refine qA ?_ | refine qC ?_ | refine qT ?_ | refine qW ?_)
   simp only [zA, zM, zH, zE, zK, zJ, qS, qM, Nat.reduceEqDiff, reduceIte, reduceCtorEq]
   exact hres_vv (.inl ⟨by rw [hm he]; exact he, by rw [hm he], rfl⟩)
 ·obtain rfl : i = 3 := by omega
  (repeat first | refine qE ?_ | refine qA ?_ | refine qC ?_ | refine qB ?_ | refine qD ?_); refine qJ (fun K hK => ?_); simp (maxSteps := 2000000) (disch := omega) only [push_cast, ↓Int.cast_ofNat_Int, Nat.reduceBEq, Nat.reduceAdd, Nat.reduceLT, Nat.reduceEqDiff, reduceIte, reduceCtorEq, Nat.reduceLeDiff, Nat.reduceSub, List.reduceReplicate, Nat.reduceMul, Int.reduceToNat, Nat.reducePow]; refine hK _ ?_; clear hK K
  (repeat first | refine qE ?_ | refine qA ?_ | refine qC ?_ | refine qB ?_ | refine qD ?_)
  refine zC rfl ?_
  (repeat first | refine qK ?_ | refine qG ?_ | refine qH ?_ | refine qF rfl ?_ | refine qL ?_ | refine qB ?_ | refine qE ?_ | refine qA ?_ | refine qC ?_ | refine qT ?_ | refine qW ?_)
  have t0 := h0 (by omega)
  have t1 := h1 (by omega)
  have t2 := h2 (by omega)
  have l0 := textS_zero t0
  have l1 := textS_zero t1
  have l2 := textS_zero t2
  refine zB [0, 1, 2] [] (by simp only [qZ, qR, qP, qQ, qN, qS, qM, qX, qU, Nat.reduceEqDiff, reduceIte]; exact rfl) ?_
  (repeat first | refine qE ?_ | refine qA ?_ | refine qC ?_ | refine qB ?_ | refine qD ?_); refine qJ (fun K hK => ?_); simp (maxSteps := 2000000) (disch := omega) only [push_cast, ↓Int.cast_ofNat_Int, Nat.reduceBEq, Nat.reduceAdd, Nat.reduceLT, Nat.reduceEqDiff, reduceIte, reduceCtorEq, Nat.reduceLeDiff, Nat.reduceSub, List.reduceReplicate, Nat.reduceMul, Int.reduceToNat, Nat.reducePow]
  refine hat 328 cl39 (refSplit_H x hx) (.cons (.v _) .nil) ?_
  rintro _ _ ⟨rfl, rfl⟩
  with_reducible refine hstop ?_; simp (maxSteps := 2000000) (disch := omega) only [push_cast, ↓Int.cast_ofNat_Int, Nat.reduceBEq, Nat.reduceAdd, Nat.reduceLT, Nat.reduceEqDiff, reduceIte, reduceCtorEq, Nat.reduceLeDiff, Nat.reduceSub, List.reduceReplicate, Nat.reduceMul, Int.reduceToNat, Nat.reducePow]
  refine hat 344 cl39 (refSplit_H y hy) (.cons (.v _) .nil) ?_
  rintro _ _ ⟨rfl, rfl⟩
  with_reducible refine hstop ?_; simp (maxSteps := 2000000) (disch := omega) only [push_cast, ↓Int.cast_ofNat_Int, Nat.reduceBEq, Nat.reduceAdd, Nat.reduceLT, Nat.reduceEqDiff, reduceIte, reduceCtorEq, Nat.reduceLeDiff, Nat.reduceSub, List.reduceReplicate, Nat.reduceMul, Int.reduceToNat, Nat.reducePow]
  refine hat 360 cl39 (refSplit_H z hz) (.cons (.v _) .nil) ?_
  rintro _ _ ⟨rfl, rfl⟩
  with_reducible refine hstop ?_; simp (maxSteps := 2000000) (disch := omega) only [push_cast, ↓Int.cast_ofNat_Int, Nat.reduceBEq, Nat.reduceAdd, Nat.reduceLT, Nat.reduceEqDiff, reduceIte, reduceCtorEq, Nat.reduceLeDiff, Nat.reduceSub, List.reduceReplicate, Nat.reduceMul, Int.reduceToNat, Nat.reducePow]
  refine hK _ ?_; clear hK K
  refine zB [10, 11, 12] [328, 344, 360] (by simp only [qZ, qR, qP, qQ, qN, qS, qM, qX, qU, Nat.reduceEqDiff, reduceIte]; exact rfl) ?_
  refine HW_restS 328 rfl (by simp only [rest_eq, esub_nil, esub_cons, ssub_nil, ssub_cons, hsub_v, hsub_lst, hsub_elt, hsub_junk, hsub_own, hsub_ptr, hsub_vw, hsub_agg, hsub_tup, rsub_sl, rsub_hl, rsub_bx, Nat.reduceEqDiff, reduceIte, List.map_cons, List.map_nil, List.map_append]; exact rfl) ?_
  refine HW_restS 344 rfl (by simp only [rest_eq, esub_nil, esub_cons, ssub_nil, ssub_cons, hsub_v, hsub_lst, hsub_elt, hsub_junk, hsub_own, hsub_ptr, hsub_vw, hsub_agg, hsub_tup, rsub_sl, rsub_hl, rsub_bx, Nat.reduceEqDiff, reduceIte, List.map_cons, List.map_nil, List.map_append]; exact rfl) ?_
  refine HW_restS 360 rfl (by simp only [rest_eq, esub_nil, esub_cons, ssub_nil, ssub_cons, hsub_v, hsub_lst, hsub_elt, hsub_junk, hsub_own, hsub_ptr, hsub_vw, hsub_agg, hsub_tup, rsub_sl, rsub_hl, rsub_bx, Nat.reduceEqDiff, reduceIte, List.map_cons, List.map_nil, List.map_append]; exact rfl) ?_
  have hch : chunksS x y z = chunks (splS x) (splS y) (splS z) := rfl
  rw [hch]
  clear hch h0 h1 h2 hx hy hz
  generalize hO : splS x = o at *
  generalize hA : splS y = a at *
  generalize hB : splS z = b at *
  (repeat first | refine qE ?_ | refine qA ?_ | refine qC ?_ | refine qB ?_ | refine qD ?_); refine qJ (fun K hK => ?_); simp (maxSteps := 2000000) (disch := omega) only [push_cast, ↓Int.cast_ofNat_Int, Nat.reduceBEq, Nat.reduceAdd, Nat.reduceLT, Nat.reduceEqDiff, reduceIte, reduceCtorEq, Nat.reduceLeDiff, Nat.reduceSub, List.reduceReplicate, Nat.reduceMul, Int.reduceToNat, Nat.reducePow]
  refine hat 392 cl71 (refStable_H o a b l0 l1 l2) (.cons (lendL (strs_old _)) (.cons (lendL (strs_old _)) (.cons (lendL (strs_old _)) .nil))) ?_
  rintro _ _ ⟨rfl, rfl⟩
  have hTK : TK o a b (tri (kn o a) (kn o b)) 0 0 0 := tri_ok _ (kn o a) (kn o b) 0 0 0 (Nat.le_refl _) (kn_ok o a) (kn_ok o b)
  have hTl : (tri (kn o a) (kn o b)).length ≤ 160000 := by
   have h1 := (kn_ok o a).len
   have h2 := (kn_ok o b).len
   exact Nat.le_trans (tri_len _ _) (Nat.le_trans (Nat.mul_le_mul (show (kn o a).length ≤ 400 by omega) (show (kn o b).length ≤ 400 by omega)) (by decide))
  have hfinal : chunks o a b = (betw o a b (chT o a b (tri (kn o a) (kn o b)) ⟨0, 0, 0, []⟩) o.length a.length b.length).out := rfl
  generalize tri (kn o a) (kn o b) = T at *
  have htl : (trips T).length = T.length := trips_len T
  have hsn : trips T ++ [[.v (.int .i64 (o.length : Nat)), .v (.int .i64 (a.length : Nat)), .v (.int .i64 (b.length : Nat))]] = trips (T ++ [(o.length, a.length, b.length)]) := trips_snoc T (o.length, a.length, b.length)
  have hw3 : Wid 3 [[FV.v (.int .i64 (o.length : Nat)), FV.v (.int .i64 (a.length : Nat)), FV.v (.int .i64 (b.length : Nat))]] = True := trips_wid [(o.length, a.length, b.length)]
  with_reducible refine hstop ?_; simp (maxSteps := 2000000) (disch := omega) only [push_cast, ↓Int.cast_ofNat_Int, Nat.reduceBEq, Nat.reduceAdd, Nat.reduceLT, Nat.reduceEqDiff, reduceIte, reduceCtorEq, Nat.reduceLeDiff, Nat.reduceSub, List.reduceReplicate, Nat.reduceMul, Int.reduceToNat, Nat.reducePow, strs_len, htl, hsn, hw3]
  (repeat refine ⟨by first | omega | decide | ((repeat' apply And.intro) <;> first | omega | decide), ?_⟩)
  refine hK _ ?_; clear hK K
  refine zB [10, 11, 12, 13] [392] (by simp only [qZ, qR, qP, qQ, qN, qS, qM, qX, qU, Nat.reduceEqDiff, reduceIte]; exact rfl) ?_
  refine HW_restS 392 rfl (by simp only [rest_eq, esub_nil, esub_cons, ssub_nil, ssub_cons, hsub_v, hsub_lst, hsub_elt, hsub_junk, hsub_own, hsub_ptr, hsub_vw, hsub_agg, hsub_tup, rsub_sl, rsub_hl, rsub_bx, Nat.reduceEqDiff, reduceIte, List.map_cons, List.map_nil, List.map_append]; exact rfl) ?_
  (repeat first | refine qE ?_ | refine qA ?_ | refine qC ?_ | refine qB ?_ | refine qD ?_); refine qJ (fun K hK => ?_); simp (maxSteps := 2000000) (disch := omega) only [push_cast, ↓Int.cast_ofNat_Int, Nat.reduceBEq, Nat.reduceAdd, Nat.reduceLT, Nat.reduceEqDiff, reduceIte, reduceCtorEq, Nat.reduceLeDiff, Nat.reduceSub, List.reduceReplicate, Nat.reduceMul, Int.reduceToNat, Nat.reducePow]; refine hK _ ?_; clear hK K
  refine HW_ownS 14 9000 77 4 rfl (by simp only [kill_eq, row_eq, rep_eq, ekill_nil, ekill_cons, skill_nil, skill_cons, hkill_v, hkill_lst, hkill_own, hkill_ptr, hkill_vw, hkill_agg, hkill_tup, hkill_junk, rkill_sl, rkill_bx, rkill_hl, only_eq, hrep_nil, hrep_cons, Nat.reduceBEq, Nat.reduceEqDiff, reduceIte, cond_true, cond_false, List.map_cons, List.map_nil]; exact rfl) ?_
  (repeat first | refine qE ?_ | refine qA ?_ | refine qC ?_ | refine qB ?_ | refine qD ?_); refine qJ (fun K hK => ?_); simp (maxSteps := 2000000) (disch := omega) only [push_cast, ↓Int.cast_ofNat_Int, Nat.reduceBEq, Nat.reduceAdd, Nat.reduceLT, Nat.reduceEqDiff, reduceIte, reduceCtorEq, Nat.reduceLeDiff, Nat.reduceSub, List.reduceReplicate, Nat.reduceMul, Int.reduceToNat, Nat.reducePow]; refine hK _ ?_; clear hK K
  (repeat first | refine qE ?_ | refine qA ?_ | refine qC ?_ | refine qB ?_ | refine qD ?_); refine qJ (fun K hK => ?_); simp (maxSteps := 2000000) (disch := omega) only [push_cast, ↓Int.cast_ofNat_Int, Nat.reduceBEq, Nat.reduceAdd, Nat.reduceLT, Nat.reduceEqDiff, reduceIte, reduceCtorEq, Nat.reduceLeDiff, Nat.reduceSub, List.reduceReplicate, Nat.reduceMul, Int.reduceToNat, Nat.reducePow]; refine hK _ ?_; clear hK K
  (repeat first | refine qE ?_ | refine qA ?_ | refine qC ?_ | refine qB ?_ | refine qD ?_)
  obtain ⟨L, hLd⟩ : ∃ L, L = T ++ [(o.length, a.length, b.length)] := ⟨_, rfl⟩
  rw [← hLd]
  have hLlen : L.length = T.length + 1 := by rw [hLd]; simp
  have hLlt : ∀ n (h : n < T.length) (h' : n < L.length), L[n] = T[n] := fun n h h' => by subst hLd; exact List.getElem_append_left h
  have hLe : ∀ (h : T.length < L.length), L[T.length] = (o.length, a.length, b.length) := fun h => by subst hLd; simp
  clear hLd hsn
  have hll : (trips L).length = T.length + 1 := by rw [trips_len, hLlen]
  refine HW_loop (rcE o a b T L) (fun n => n ≤ T.length) (fun n => T.length - n) [10, 11, 12, 13, 14, 15, 16, 17, 18] [9000] 0 (by simp only [qZ, qR, qP, qQ, qN, qS, qM, qX, qU, Nat.reduceEqDiff, reduceIte, rcE, List.take_zero, chT]; try rfl) (Nat.zero_le _) ?_
  intro n hn
  have R := ri_inv hTK n hn
  simp only [rcE]
  by_cases hnt : n < T.length
  ·obtain ⟨p, q, r, e⟩ : ∃ p q r, T[n] = (p, q, r) := ⟨T[n].1, T[n].2.1, T[n].2.2, rfl⟩
   have hLn : L[n]'(by omega) = (p, q, r) := by rw [hLlt n hnt (by omega), e]
   have gL : ∀ d, (trips L).getD n d = [.v (.int .i64 (p : Nat)), .v (.int .i64 (q : Nat)), .v (.int .i64 (r : Nat))] := fun d => by rw [trips_get (by omega), hLn]
   have hnx : chT o a b (T.take (n + 1)) ⟨0, 0, 0, []⟩ = stab (o.getD p default) (betw o a b (chT o a b (T.take n) ⟨0, 0, 0, []⟩) p q r) := by
    rw [List.take_succ_eq_append_getElem hnt, e, chT_snoc]
   obtain ⟨R1, R2, R3, R4⟩ := R
   rw [List.drop_eq_getElem_cons hnt, e] at R3
   obtain ⟨k1, k2, k3, ⟨k4, k5, k6, k7, k8⟩, k9⟩ := R3
   generalize chT o a b (T.take n) ⟨0, 0, 0, []⟩ = u at *
   obtain ⟨ui, uj, uk, out⟩ := u
   simp only at k1 k2 k3 R4
   have hs : o.getD p default = o[p] := by simp [List.getD_eq_getElem?_getD, k4]
   rw [hs] at hnx
   have hbp := betw_pt R1 R2 (i := p) (j := q) (k := r) ⟨k1, by omega⟩ ⟨k2, by omega⟩ ⟨k3, by omega⟩
   have hbl := betw_len (o := o) (a := a) (b := b) ⟨ui, uj, uk, out⟩ p q r
   simp only at hbl
   have go : ∀ d, (strs o).getD p d = [.v (.string o[p])] := fun d => strs_get k4
   (repeat first | refine qE ?_ | refine qA ?_ | refine qC ?_ | refine qB ?_ | refine qD ?_); refine qJ (fun K hK => ?_); simp (maxSteps := 2000000) (disch := omega) only [push_cast, ↓Int.cast_ofNat_Int, Nat.reduceBEq, Nat.reduceAdd, Nat.reduceLT, Nat.reduceEqDiff, reduceIte, reduceCtorEq, Nat.reduceLeDiff, Nat.reduceSub, List.reduceReplicate, Nat.reduceMul, Int.reduceToNat, Nat.reducePow, hll]; refine hK _ ?_; clear hK K
   (repeat first | refine qE ?_ | refine qA ?_ | refine qC ?_ | refine qB ?_ | refine qD ?_)
   refine zD rfl ?_
   (repeat first | refine qK ?_ | refine qG ?_ | refine qH ?_ | refine qF rfl ?_ | refine qL ?_ | refine qB ?_ | refine qE ?_ | refine qA ?_ | refine qC ?_ | refine qT ?_ | refine qW ?_)
   refine zB [10, 11, 12, 13, 14, 15, 16, 17, 18] [9000] (by simp only [qZ, qR, qP, qQ, qN, qS, qM, qX, qU, Nat.reduceEqDiff, reduceIte]; exact rfl) ?_
   refine qD ?_
   refine qE ?_
   refine ref_A o a b L n ui uj uk p q r out _ l0 l1 l2 (by omega) hLn (by omega) ⟨k1, by omega⟩ ⟨k2, by omega⟩ ⟨k3, by omega⟩ (by omega) (fun S' hE => ?_)
   (repeat first | refine qK ?_ | refine qG ?_ | refine qH ?_ | refine qF rfl ?_ | refine qL ?_ | refine qB ?_ | refine qE ?_ | refine qA ?_ | refine qC ?_ | refine qT ?_ | refine qW ?_)
   refine zB [10, 11, 12, 13, 14, 18] [9000] hE ?_
   clear hE S'
   have hok : ∀ c ∈ btO o a b ui uj uk p q r out, (c.st = true → c.b = c.l ∧ c.b = c.r) ∧ c.b.length ≤ 400 := fun c hc => ⟨(hbp.ok c hc).2, by
    have h1 := part_len (·.b) hc
    have h2 : ((btO o a b ui uj uk p q r out).flatMap (·.b)).length = _ := congrArg List.length hbp.pb
    rw [List.length_take] at h2
    omega⟩
   have hb2 : (btO o a b ui uj uk p q r out).length ≤ 2 * n + 1 := by show (betw o a b ⟨ui, uj, uk, out⟩ p q r).out.length ≤ _; omega
   have hnx2 : chT o a b (T.take (n + 1)) ⟨0, 0, 0, []⟩ = ⟨p + 1, q + 1, r + 1, cadd (btO o a b ui uj uk p q r out) o[p]⟩ := hnx
   clear hnx hbp
   generalize btO o a b ui uj uk p q r out = out2 at *
   (repeat first | refine qE ?_ | refine qA ?_ | refine qC ?_ | refine qB ?_ | refine qD ?_); refine HW_drwC 18 [] [[(9000, .sl true 77 4 (cks out2))]] [(0, 0, 0), (1, 0, 0), (2, 0, 0), (3, 0, 0), (4, 0, 0), (5, 0, 0), (6, 0, 0), (7, 0, 0), (8, 0, 0), (9, 0, 0), (10, 0, 0), (11, 0, 0), (12, 0, 0), (13, 0, 0), (14, 0, 0), (15, 0, 0), (16, 0, 0), (17, 0, 0)] mixed (by kernel_rfl) (by kernel_rfl) rfl (fun K hK K1 hK1 => ?_); simp (maxSteps := 2000000) (disch := omega) only [push_cast, ↓Int.cast_ofNat_Int, Nat.reduceBEq, Nat.reduceAdd, Nat.reduceLT, Nat.reduceEqDiff, reduceIte, reduceCtorEq, Nat.reduceLeDiff, Nat.reduceSub, List.reduceReplicate, Nat.reduceMul, Int.reduceToNat, Nat.reducePow, nextW_nil, nextW_cons, rgOf_nil, rgOf_cons, kf_some, kf_no, stays_nil, stays_cons, strongK_store, strongK_copy, strongK_app, strongK_build, hwr2_go, hall_zero, hall_one, hall_two, hall_three, slotsW_store, slotsW_call, hvca_eq, hvcb_eq, hvce_eq, hvcw_some, hvcw_none, hvc1_none, hvc1_some, hvc_nil, hvcS_some, hvcS_none, hvc_cons, List.tail_cons, List.take_nil, List.drop_nil, implies_true, Nat.sub_self, Nat.le_refl, hll, gL, trips_wid]
   refine hK1 _ ?_; clear hK1 K1; with_reducible refine hstop ?_; simp (maxSteps := 2000000) (disch := omega) only [push_cast, ↓Int.cast_ofNat_Int, Nat.reduceBEq, Nat.reduceAdd, Nat.reduceLT, Nat.reduceEqDiff, reduceIte, reduceCtorEq, Nat.reduceLeDiff, Nat.reduceSub, List.reduceReplicate, Nat.reduceMul, Int.reduceToNat, Nat.reducePow]
   refine hK _ ?_; clear hK K
   refine zB [10, 11, 12, 13, 14, 15, 16, 17, 18] [9000] (by simp only [qZ, qR, qP, qQ, qN, qS, qM, qX, qU, Nat.reduceEqDiff, reduceIte]; exact rfl) ?_
   (repeat first | refine qE ?_ | refine qA ?_ | refine qC ?_ | refine qB ?_ | refine qD ?_); refine qJ (fun K hK => ?_); simp (maxSteps := 2000000) (disch := omega) only [push_cast, ↓Int.cast_ofNat_Int, Nat.reduceBEq, Nat.reduceAdd, Nat.reduceLT, Nat.reduceEqDiff, reduceIte, reduceCtorEq, Nat.reduceLeDiff, Nat.reduceSub, List.reduceReplicate, Nat.reduceMul, Int.reduceToNat, Nat.reducePow, hll]; refine hK _ ?_; clear hK K
   (repeat first | refine qE ?_ | refine qA ?_ | refine qC ?_ | refine qB ?_ | refine qD ?_)
   refine zC rfl ?_
   (repeat first | refine qK ?_ | refine qG ?_ | refine qH ?_ | refine qF rfl ?_ | refine qL ?_ | refine qB ?_ | refine qE ?_ | refine qA ?_ | refine qC ?_ | refine qT ?_ | refine qW ?_)
   (repeat first | refine qE ?_ | refine qA ?_ | refine qC ?_ | refine qB ?_ | refine qD ?_); refine qJ (fun K hK => ?_); simp (maxSteps := 2000000) (disch := omega) only [push_cast, ↓Int.cast_ofNat_Int, Nat.reduceBEq, Nat.reduceAdd, Nat.reduceLT, Nat.reduceEqDiff, reduceIte, reduceCtorEq, Nat.reduceLeDiff, Nat.reduceSub, List.reduceReplicate, Nat.reduceMul, Int.reduceToNat, Nat.reducePow, strs_len, strs_wid, go]; refine hK _ ?_; clear hK K
   refine zB [10, 11, 12, 13, 14, 15, 16, 17, 18, 19] [1136, 9000] (by simp only [qZ, qR, qP, qQ, qN, qS, qM, qX, qU, Nat.reduceEqDiff, reduceIte]; exact rfl) ?_
   refine HW_restS 1136 rfl (by simp only [rest_eq, esub_nil, esub_cons, ssub_nil, ssub_cons, hsub_v, hsub_lst, hsub_elt, hsub_junk, hsub_own, hsub_ptr, hsub_vw, hsub_agg, hsub_tup, rsub_sl, rsub_hl, rsub_bx, Nat.reduceEqDiff, reduceIte, List.map_cons, List.map_nil, List.map_append]; exact rfl) ?_
   (repeat first | refine qE ?_ | refine qA ?_ | refine qC ?_ | refine qB ?_ | refine qD ?_); refine qJ (fun K hK => ?_); simp (maxSteps := 2000000) (disch := omega) only [push_cast, ↓Int.cast_ofNat_Int, Nat.reduceBEq, Nat.reduceAdd, Nat.reduceLT, Nat.reduceEqDiff, reduceIte, reduceCtorEq, Nat.reduceLeDiff, Nat.reduceSub, List.reduceReplicate, Nat.reduceMul, Int.reduceToNat, Nat.reducePow, cks_len]; refine hK _ ?_; clear hK K
   refine zB [10, 11, 12, 13, 14, 15, 16, 17, 18, 19, 20] [9000] (by simp only [qZ, qR, qP, qQ, qN, qS, qM, qX, qU, Nat.reduceEqDiff, reduceIte]; exact rfl) ?_
   refine qE ?_
   refine ref_B o a b L n p q r o[p] out2 _ l0 k4 rfl (by omega) hok (fun S' hE => ?_)
   (repeat first | refine qK ?_ | refine qG ?_ | refine qH ?_ | refine qF rfl ?_ | refine qL ?_ | refine qB ?_ | refine qE ?_ | refine qA ?_ | refine qC ?_ | refine qT ?_ | refine qW ?_)
   refine zB [10, 11, 12, 13, 14, 15, 16, 17, 18] [9000] hE ?_
   clear hE S'
   (repeat first | refine qE ?_ | refine qA ?_ | refine qC ?_ | refine qB ?_ | refine qD ?_); refine qJ (fun K hK => ?_); simp (maxSteps := 2000000) (disch := omega) only [push_cast, ↓Int.cast_ofNat_Int, Nat.reduceBEq, Nat.reduceAdd, Nat.reduceLT, Nat.reduceEqDiff, reduceIte, reduceCtorEq, Nat.reduceLeDiff, Nat.reduceSub, List.reduceReplicate, Nat.reduceMul, Int.reduceToNat, Nat.reducePow]; refine hK _ ?_; clear hK K
   (repeat first | refine qE ?_ | refine qA ?_ | refine qC ?_ | refine qB ?_ | refine qD ?_); refine qJ (fun K hK => ?_); simp (maxSteps := 2000000) (disch := omega) only [push_cast, ↓Int.cast_ofNat_Int, Nat.reduceBEq, Nat.reduceAdd, Nat.reduceLT, Nat.reduceEqDiff, reduceIte, reduceCtorEq, Nat.reduceLeDiff, Nat.reduceSub, List.reduceReplicate, Nat.reduceMul, Int.reduceToNat, Nat.reducePow]; refine hK _ ?_; clear hK K
   (repeat first | refine qE ?_ | refine qA ?_ | refine qC ?_ | refine qB ?_ | refine qD ?_); refine qJ (fun K hK => ?_); simp (maxSteps := 2000000) (disch := omega) only [push_cast, ↓Int.cast_ofNat_Int, Nat.reduceBEq, Nat.reduceAdd, Nat.reduceLT, Nat.reduceEqDiff, reduceIte, reduceCtorEq, Nat.reduceLeDiff, Nat.reduceSub, List.reduceReplicate, Nat.reduceMul, Int.reduceToNat, Nat.reducePow]; refine hK _ ?_; clear hK K
   (repeat first | refine qK ?_ | refine qG ?_ | refine qH ?_ | refine qF rfl ?_ | refine qL ?_ | refine qB ?_ | refine qE ?_ | refine qA ?_ | refine qC ?_ | refine qT ?_ | refine qW ?_)
   (repeat first | refine qE ?_ | refine qA ?_ | refine qC ?_ | refine qB ?_ | refine qD ?_); refine qJ (fun K hK => ?_); simp (maxSteps := 2000000) (disch := omega) only [push_cast, ↓Int.cast_ofNat_Int, Nat.reduceBEq, Nat.reduceAdd, Nat.reduceLT, Nat.reduceEqDiff, reduceIte, reduceCtorEq, Nat.reduceLeDiff, Nat.reduceSub, List.reduceReplicate, Nat.reduceMul, Int.reduceToNat, Nat.reducePow]; refine hK _ ?_; clear hK K
   (repeat first | refine qK ?_ | refine qG ?_ | refine qH ?_ | refine qF rfl ?_ | refine qL ?_ | refine qB ?_ | refine qE ?_ | refine qA ?_ | refine qC ?_ | refine qT ?_ | refine qW ?_)
   exact ⟨n + 1, by simp only [qZ, qR, qP, qQ, qN, qS, qM, qX, qU, Nat.reduceEqDiff, reduceIte, rcE]; rw [hnx2]; try rfl, hnt, by omega⟩
  ·obtain rfl : n = T.length := by omega
   rw [List.take_length] at R ⊢
   have gL : ∀ d, (trips L).getD T.length d = [.v (.int .i64 (o.length : Nat)), .v (.int .i64 (a.length : Nat)), .v (.int .i64 (b.length : Nat))] := fun d => by rw [trips_get (by omega), hLe (by omega)]
   obtain ⟨R1, R2, R3, R4⟩ := R
   generalize chT o a b T ⟨0, 0, 0, []⟩ = u at *
   obtain ⟨ui, uj, uk, out⟩ := u
   have k1 := R1.i
   have k2 := R1.j
   have k3 := R1.k
   simp only at k1 k2 k3 R4
   (repeat first | refine qE ?_ | refine qA ?_ | refine qC ?_ | refine qB ?_ | refine qD ?_); refine qJ (fun K hK => ?_); simp (maxSteps := 2000000) (disch := omega) only [push_cast, ↓Int.cast_ofNat_Int, Nat.reduceBEq, Nat.reduceAdd, Nat.reduceLT, Nat.reduceEqDiff, reduceIte, reduceCtorEq, Nat.reduceLeDiff, Nat.reduceSub, List.reduceReplicate, Nat.reduceMul, Int.reduceToNat, Nat.reducePow, hll]; refine hK _ ?_; clear hK K
   (repeat first | refine qE ?_ | refine qA ?_ | refine qC ?_ | refine qB ?_ | refine qD ?_)
   refine zD rfl ?_
   (repeat first | refine qK ?_ | refine qG ?_ | refine qH ?_ | refine qF rfl ?_ | refine qL ?_ | refine qB ?_ | refine qE ?_ | refine qA ?_ | refine qC ?_ | refine qT ?_ | refine qW ?_)
   refine zB [10, 11, 12, 13, 14, 15, 16, 17, 18] [9000] (by simp only [qZ, qR, qP, qQ, qN, qS, qM, qX, qU, Nat.reduceEqDiff, reduceIte]; exact rfl) ?_
   refine qD ?_
   refine qE ?_
   refine ref_A o a b L T.length ui uj uk o.length a.length b.length out _ l0 l1 l2 (by omega) (hLe (by omega)) (by omega) ⟨k1, by omega⟩ ⟨k2, by omega⟩ ⟨k3, by omega⟩ (by omega) (fun S' hE => ?_)
   (repeat first | refine qK ?_ | refine qG ?_ | refine qH ?_ | refine qF rfl ?_ | refine qL ?_ | refine qB ?_ | refine qE ?_ | refine qA ?_ | refine qC ?_ | refine qT ?_ | refine qW ?_)
   refine zB [10, 11, 12, 13, 14, 18] [9000] hE ?_
   clear hE S'
   rw [show btO o a b ui uj uk o.length a.length b.length out = chunks o a b from hfinal.symm]
   (repeat first | refine qE ?_ | refine qA ?_ | refine qC ?_ | refine qB ?_ | refine qD ?_); refine HW_drwC 18 [] [[(9000, .sl true 77 4 (cks (chunks o a b)))]] [(0, 0, 0), (1, 0, 0), (2, 0, 0), (3, 0, 0), (4, 0, 0), (5, 0, 0), (6, 0, 0), (7, 0, 0), (8, 0, 0), (9, 0, 0), (10, 0, 0), (11, 0, 0), (12, 0, 0), (13, 0, 0), (14, 0, 0), (15, 0, 0), (16, 0, 0), (17, 0, 0)] mixed (by kernel_rfl) (by kernel_rfl) rfl (fun K hK K1 hK1 => ?_); simp (maxSteps := 2000000) (disch := omega) only [push_cast, ↓Int.cast_ofNat_Int, Nat.reduceBEq, Nat.reduceAdd, Nat.reduceLT, Nat.reduceEqDiff, reduceIte, reduceCtorEq, Nat.reduceLeDiff, Nat.reduceSub, List.reduceReplicate, Nat.reduceMul, Int.reduceToNat, Nat.reducePow, nextW_nil, nextW_cons, rgOf_nil, rgOf_cons, kf_some, kf_no, stays_nil, stays_cons, strongK_store, strongK_copy, strongK_app, strongK_build, hwr2_go, hall_zero, hall_one, hall_two, hall_three, slotsW_store, slotsW_call, hvca_eq, hvcb_eq, hvce_eq, hvcw_some, hvcw_none, hvc1_none, hvc1_some, hvc_nil, hvcS_some, hvcS_none, hvc_cons, List.tail_cons, List.take_nil, List.drop_nil, implies_true, Nat.sub_self, Nat.le_refl, hll, gL, trips_wid]
   refine hK1 _ ?_; clear hK1 K1; with_reducible refine hstop ?_; simp (maxSteps := 2000000) (disch := omega) only [push_cast, ↓Int.cast_ofNat_Int, Nat.reduceBEq, Nat.reduceAdd, Nat.reduceLT, Nat.reduceEqDiff, reduceIte, reduceCtorEq, Nat.reduceLeDiff, Nat.reduceSub, List.reduceReplicate, Nat.reduceMul, Int.reduceToNat, Nat.reducePow]
   refine hK _ ?_; clear hK K
   refine zB [10, 11, 12, 13, 14, 15, 16, 17, 18] [9000] (by simp only [qZ, qR, qP, qQ, qN, qS, qM, qX, qU, Nat.reduceEqDiff, reduceIte]; exact rfl) ?_
   (repeat first | refine qE ?_ | refine qA ?_ | refine qC ?_ | refine qB ?_ | refine qD ?_); refine qJ (fun K hK => ?_); simp (maxSteps := 2000000) (disch := omega) only [push_cast, ↓Int.cast_ofNat_Int, Nat.reduceBEq, Nat.reduceAdd, Nat.reduceLT, Nat.reduceEqDiff, reduceIte, reduceCtorEq, Nat.reduceLeDiff, Nat.reduceSub, List.reduceReplicate, Nat.reduceMul, Int.reduceToNat, Nat.reducePow, hll]; refine hK _ ?_; clear hK K
   (repeat first | refine qE ?_ | refine qA ?_ | refine qC ?_ | refine qB ?_ | refine qD ?_)
   refine zD rfl ?_
   (repeat first | refine qK ?_ | refine qG ?_ | refine qH ?_ | refine qF rfl ?_ | refine qL ?_ | refine qB ?_ | refine qE ?_ | refine qA ?_ | refine qC ?_ | refine qT ?_ | refine qW ?_)
   refine zB [14] [9000] (by simp only [qZ, qR, qP, qQ, qN, qS, qM, qX, qU, Nat.reduceEqDiff, reduceIte]; exact rfl) ?_
   (repeat first | refine qE ?_ | refine qA ?_ | refine qC ?_ | refine qB ?_ | refine qD ?_); refine qJ (fun K hK => ?_); simp (maxSteps := 2000000) (disch := omega) only [push_cast, ↓Int.cast_ofNat_Int, Nat.reduceBEq, Nat.reduceAdd, Nat.reduceLT, Nat.reduceEqDiff, reduceIte, reduceCtorEq, Nat.reduceLeDiff, Nat.reduceSub, List.reduceReplicate, Nat.reduceMul, Int.reduceToNat, Nat.reducePow]; refine hK _ ?_; clear hK K
   (repeat first | refine qK ?_ | refine qG ?_ | refine qH ?_ | refine qF rfl ?_ | refine qL ?_ | refine qB ?_ | refine qE ?_ | refine qA ?_ | refine qC ?_ | refine qT ?_ | refine qW ?_)
   simp only [zA, zM, zH, zE, zK, zJ, qS, qM, Nat.reduceEqDiff, reduceIte, reduceCtorEq]
   exact hres_ov rfl (cks_fresh _) (.inr ⟨t0, t1, t2, rfl, rfl⟩)
end Go.Proofs.Ytlfenddhppoflaa
