/- What the walk of the law stands on. -/
import Derived.Test.YtlfenddhppoflaaMgE
import Derived.Test.YtlfenddhppoflaaMgF
import Derived.Test.YtlfenddhppoflaaJoin
import Derived.Test.YtlfenddhppoflaaCat
set_option linter.unusedSimpArgs false
set_option linter.unusedVariables false
set_option maxRecDepth 20000
namespace Go.Proofs.Ytlfenddhppoflaa
open Go Go.Eng Go.RowKit Go.DiffM


def mkA : ByteArray := { data := #[60, 60, 60, 60, 60, 60, 60, 10] }
def mkM : ByteArray := { data := #[61, 61, 61, 61, 61, 61, 61, 10] }
def mkB : ByteArray := { data := #[62, 62, 62, 62, 62, 62, 62, 10] }
def ckTakeL (c : Ck ByteArray) : Prop := c.st = true ∨ c.l = c.r ∨ c.b = c.r
instance (c : Ck ByteArray) : Decidable (ckTakeL c) := by unfold ckTakeL; infer_instance
def ckT (c : Ck ByteArray) : ByteArray := if ckTakeL c then cat c.l else if c.b = c.l then cat c.r else ((((mkA ++ cat (closedS c.l)) ++ mkM) ++ cat (closedS c.r)) ++ mkB)
def ckN (c : Ck ByteArray) : Nat := if ckTakeL c then 0 else if c.b = c.l then 0 else 1
def mgT (cs : List (Ck ByteArray)) : ByteArray := cat (cs.map ckT)
def mgN (cs : List (Ck ByteArray)) : Nat := (cs.map ckN).sum
def mgTx (x y z : ByteArray) : ByteArray := if mgErr x y z ≠ 0 then { data := #[] } else mgT (chunksS x y z)
def mgNn (x y z : ByteArray) : Nat := if mgErr x y z ≠ 0 then 0 else mgN (chunksS x y z)
theorem closedS_cat (l : List ByteArray) : (cat (closedS l)).size ≤ (cat l).size + 1 := by
 rcases List.eq_nil_or_concat l with rfl | ⟨q, x, rfl⟩
 ·simp [closedS]
 ·rw [List.concat_eq_append]
  have : closedS (q ++ [x]) = q ++ [closeS x] := by
   unfold closedS
   simp [List.set_append]
  rw [this, cat_app, cat_app, cat_one, cat_one, ByteArray.size_append, ByteArray.size_append]
  unfold closeS
  split
  ·omega
  ·rw [ByteArray.size_append]; have : nl.size = 1 := rfl; omega
theorem mkA_size : mkA.size = 8 := rfl
theorem mkM_size : mkM.size = 8 := rfl
theorem mkB_size : mkB.size = 8 := rfl
theorem ckT_size (c : Ck ByteArray) : (ckT c).size ≤ (cat c.l).size + (cat c.r).size + 26 := by
 unfold ckT
 split
 ·omega
 ·split
  ·omega
  ·simp only [ByteArray.size_append, mkA_size, mkM_size, mkB_size]
   have := closedS_cat c.l
   have := closedS_cat c.r
   omega
theorem mgT_size (cs : List (Ck ByteArray)) : (mgT cs).size ≤ (cat (cs.flatMap (·.l))).size + (cat (cs.flatMap (·.r))).size + 26 * cs.length := by
 unfold mgT
 induction cs with
 | nil => simp [cat]
 | cons c r ih =>
  rw [List.map_cons, cat_cons, List.flatMap_cons, List.flatMap_cons, cat_app, cat_app]
  simp only [ByteArray.size_append, List.length_cons]
  have := ckT_size c
  omega
theorem mgT_snoc (cs : List (Ck ByteArray)) (c : Ck ByteArray) : mgT (cs ++ [c]) = mgT cs ++ ckT c := by rw [mgT, List.map_append, cat_app, List.map_singleton, cat_one]; rfl
theorem mgN_snoc (cs : List (Ck ByteArray)) (c : Ck ByteArray) : mgN (cs ++ [c]) = mgN cs + ckN c := by simp [mgN]
theorem cks_count {α : Type} {cs : List (Ck α)} (h : ∀ c ∈ cs, CkOk c) : cs.length ≤ (cs.flatMap (·.b)).length + (cs.flatMap (·.l)).length + (cs.flatMap (·.r)).length := by
 induction cs with
 | nil => simp
 | cons c r ih =>
  have h1 := ih fun x hx => h x (by simp [hx])
  have h2 := (h c (by simp)).1
  simp only [List.flatMap_cons, List.length_append, List.length_cons]
  omega
theorem mgE_zero {x y z : ByteArray} (h0 : textS x = 0) (h1 : textS y = 0) (h2 : textS z = 0) : mgErr x y z = 0 := by
 rw [mgErr, if_neg (by simpa using h0), if_neg (by simpa using h1), h2]
theorem chunks_len {x y z : ByteArray} (h0 : textS x = 0) (h1 : textS y = 0) (h2 : textS z = 0) : (chunksS x y z).length ≤ 1200 := by
 have := cks_count (chunks_ok (splS x) (splS y) (splS z))
 rw [chunks_b, chunks_l, chunks_r] at this
 have := textS_zero h0; have := textS_zero h1; have := textS_zero h2
 show (chunks (splS x) (splS y) (splS z)).length ≤ 1200
 omega
theorem mem_part {cs : List (Ck ByteArray)} (f : Ck ByteArray → List ByteArray) {c : Ck ByteArray} (h : c ∈ cs) : (f c).length ≤ (cs.flatMap f).length ∧ (cat (f c)).size ≤ (cat (cs.flatMap f)).size ∧ (f c).Sublist (cs.flatMap f) := by
 induction cs with
 | nil => simp at h
 | cons d r ih =>
  rw [List.flatMap_cons, cat_app]
  simp only [ByteArray.size_append, List.length_append]
  rcases List.mem_cons.1 h with rfl | h
  ·exact ⟨by omega, by omega, List.sublist_append_left _ _⟩
  ·obtain ⟨a, b, d⟩ := ih h
   exact ⟨by omega, by omega, d.trans (List.sublist_append_right _ _)⟩
theorem cat_mem {l : List ByteArray} {x : ByteArray} (h : x ∈ l) : x.size ≤ (cat l).size := by
 induction l with
 | nil => simp at h
 | cons a r ih =>
  rw [cat_cons, ByteArray.size_append]
  rcases List.mem_cons.1 h with rfl | h
  ·omega
  ·have := ih h; omega
def mgS (cs : List (Ck ByteArray)) (n : Nat) : HS := ⟨[(6, .v (.string (mgT (cs.take n)))), (7, .v (.int .i64 (mgN (cs.take n)))), (22, .own 128), (23, .v (.int .i64 cs.length)), (24, .v (.int .i64 n))], [(128, .sl true 77 4 (cks cs))]⟩
theorem mgN_le (cs : List (Ck ByteArray)) : mgN cs ≤ cs.length := by
 unfold mgN
 induction cs with
 | nil => simp
 | cons c r ih =>
  simp only [List.map_cons, List.sum_cons, List.length_cons]
  have : ckN c ≤ 1 := by
   unfold ckN
   split
   ·omega
   ·split <;> omega
  omega
set_option maxHeartbeats 8000000 in
theorem merge_H (x y z : ByteArray) (hx : x.size ≤ 4294967296) (hy : y.size ≤ 4294967296) (hz : z.size ≤ 4294967296) : HFun Try.prog 51 [.v (.string x), .v (.string y), .v (.string z)] (fun h st =>
  h = .tup [.v (.string (mgTx x y z)), .v (.int .i64 (mgNn x y z)), .v (.int .i64 (mgErr x y z))]) := by
 refine hfun (N := 76) Try.func51 rfl Try.ntmps51 Try.results51 (by simp) ?_
 (repeat first | refine qE ?_ | refine qA ?_ | refine qC ?_ | refine qB ?_ | refine qD ?_); refine qJ (fun K hK => ?_); simp (maxSteps := 2000000) (disch := omega) only [push_cast, ↓Int.cast_ofNat_Int, Nat.reduceBEq, Nat.reduceAdd, Nat.reduceLT, Nat.reduceEqDiff, reduceIte, reduceCtorEq, Nat.reduceLeDiff, Nat.reduceSub, List.reduceReplicate, Nat.reduceMul, Int.reduceToNat, Nat.reducePow]; refine hK _ ?_; clear hK K
 (repeat first | refine qE ?_ | refine qA ?_ | refine qC ?_ | refine qB ?_ | refine qD ?_); refine qJ (fun K hK => ?_); simp (maxSteps := 2000000) (disch := omega) only [push_cast, ↓Int.cast_ofNat_Int, Nat.reduceBEq, Nat.reduceAdd, Nat.reduceLT, Nat.reduceEqDiff, reduceIte, reduceCtorEq, Nat.reduceLeDiff, Nat.reduceSub, List.reduceReplicate, Nat.reduceMul, Int.reduceToNat, Nat.reducePow]
 refine hat 128 cl47 (chunks_H x y z hx hy hz) (.cons (.v _) (.cons (.v _) (.cons (.v _) .nil))) ?_
 rintro _ _ (⟨he, rfl, rfl⟩ | ⟨t0, t1, t2, rfl, rfl⟩)
 ·have e1 : mgTx x y z = { data := #[] } := by rw [mgTx, if_pos he]
  have e2 : mgNn x y z = 0 := by rw [mgNn, if_pos he]
  with_reducible refine hstop ?_; simp (maxSteps := 2000000) (disch := omega) only [push_cast, ↓Int.cast_ofNat_Int, Nat.reduceBEq, Nat.reduceAdd, Nat.reduceLT, Nat.reduceEqDiff, reduceIte, reduceCtorEq, Nat.reduceLeDiff, Nat.reduceSub, List.reduceReplicate, Nat.reduceMul, Int.reduceToNat, Nat.reducePow]
  refine hK _ ?_; clear hK K
  (repeat first | refine qE ?_ | refine qA ?_ | refine qC ?_ | refine qB ?_ | refine qD ?_); refine qJ (fun K hK => ?_); simp (maxSteps := 2000000) (disch := omega) only [push_cast, ↓Int.cast_ofNat_Int, Nat.reduceBEq, Nat.reduceAdd, Nat.reduceLT, Nat.reduceEqDiff, reduceIte, reduceCtorEq, Nat.reduceLeDiff, Nat.reduceSub, List.reduceReplicate, Nat.reduceMul, Int.reduceToNat, Nat.reducePow]; refine hK _ ?_; clear hK K
  (repeat first | refine qE ?_ | refine qA ?_ | refine qC ?_ | refine qB ?_ | refine qD ?_)
  refine zD rfl ?_
  (repeat first | refine qE ?_ | refine qA ?_ | refine qC ?_ | refine qB ?_ | refine qD ?_); refine qJ (fun K hK => ?_); simp (maxSteps := 2000000) (disch := omega) only [push_cast, ↓Int.cast_ofNat_Int, Nat.reduceBEq, Nat.reduceAdd, Nat.reduceLT, Nat.reduceEqDiff, reduceIte, reduceCtorEq, Nat.reduceLeDiff, Nat.reduceSub, List.reduceReplicate, Nat.reduceMul, Int.reduceToNat, Nat.reducePow]; refine hK _ ?_; clear hK K
  (repeat first | refine qK ?_ | refine qG ?_ | refine qH ?_ | refine qF rfl ?_ | refine qL ?_ | refine qB ?_ | refine qE ?_ | refine qA ?_ | refine qC ?_ | refine qT ?_ | refine qW ?_)
  simp only [zA, zM, zH, zE, zK, zJ, qS, qM, Nat.reduceEqDiff, reduceIte, reduceCtorEq]
  exact hres_vvv (by rw [e1, e2]; rfl)
 ·have hE := mgE_zero t0 t1 t2
  have e1 : mgTx x y z = mgT (chunksS x y z) := by rw [mgTx, if_neg (by simpa using hE)]
  have e2 : mgNn x y z = mgN (chunksS x y z) := by rw [mgNn, if_neg (by simpa using hE)]
  have hlen := chunks_len t0 t1 t2
  have hsz : ∀ n, (mgT ((chunksS x y z).take n)).size ≤ y.size + z.size + 31200 := fun n => by
   have h1 := mgT_size ((chunksS x y z).take n)
   have h2 : (cat (((chunksS x y z).take n).flatMap (·.l))).size ≤ y.size := by
    have : cat ((chunksS x y z).flatMap (·.l)) = y := by rw [show (chunksS x y z).flatMap (·.l) = splS y from chunks_l (splS x) (splS y) (splS z), cat_splS]
    rw [← List.take_append_drop n (chunksS x y z), List.flatMap_append, cat_app] at this
    rw [← congrArg ByteArray.size this, ByteArray.size_append]
    omega
   have h3 : (cat (((chunksS x y z).take n).flatMap (·.r))).size ≤ z.size := by
    have : cat ((chunksS x y z).flatMap (·.r)) = z := by rw [show (chunksS x y z).flatMap (·.r) = splS z from chunks_r (splS x) (splS y) (splS z), cat_splS]
    rw [← List.take_append_drop n (chunksS x y z), List.flatMap_append, cat_app] at this
    rw [← congrArg ByteArray.size this, ByteArray.size_append]
    omega
   have h4 : ((chunksS x y z).take n).length ≤ 1200 := by rw [List.length_take]; omega
   omega
  have hll : ∀ c ∈ chunksS x y z, c.b.length ≤ 400 ∧ c.l.length ≤ 400 ∧ c.r.length ≤ 400 ∧ (cat c.l).size ≤ y.size ∧ (cat c.r).size ≤ z.size := fun c hc => by
   have p1 := mem_part (·.b) hc
   have p2 := mem_part (·.l) hc
   have p3 := mem_part (·.r) hc
   rw [show (chunksS x y z).flatMap (·.b) = splS x from chunks_b (splS x) (splS y) (splS z)] at p1
   rw [show (chunksS x y z).flatMap (·.l) = splS y from chunks_l (splS x) (splS y) (splS z), cat_splS] at p2
   rw [show (chunksS x y z).flatMap (·.r) = splS z from chunks_r (splS x) (splS y) (splS z), cat_splS] at p3
   have := textS_zero t0; have := textS_zero t1; have := textS_zero t2
   exact ⟨by omega, by omega, by omega, p2.2.1, p3.2.1⟩
  have hfin : mgTx x y z = mgT ((chunksS x y z).take (chunksS x y z).length) ∧ mgNn x y z = mgN ((chunksS x y z).take (chunksS x y z).length) := by rw [List.take_length]; exact ⟨e1, e2⟩
  clear e1 e2
  generalize chunksS x y z = cs at *
  with_reducible refine hstop ?_; simp (maxSteps := 2000000) (disch := omega) only [push_cast, ↓Int.cast_ofNat_Int, Nat.reduceBEq, Nat.reduceAdd, Nat.reduceLT, Nat.reduceEqDiff, reduceIte, reduceCtorEq, Nat.reduceLeDiff, Nat.reduceSub, List.reduceReplicate, Nat.reduceMul, Int.reduceToNat, Nat.reducePow]
  refine hK _ ?_; clear hK K
  (repeat first | refine qE ?_ | refine qA ?_ | refine qC ?_ | refine qB ?_ | refine qD ?_); refine qJ (fun K hK => ?_); simp (maxSteps := 2000000) (disch := omega) only [push_cast, ↓Int.cast_ofNat_Int, Nat.reduceBEq, Nat.reduceAdd, Nat.reduceLT, Nat.reduceEqDiff, reduceIte, reduceCtorEq, Nat.reduceLeDiff, Nat.reduceSub, List.reduceReplicate, Nat.reduceMul, Int.reduceToNat, Nat.reducePow]; refine hK _ ?_; clear hK K
  (repeat first | refine qE ?_ | refine qA ?_ | refine qC ?_ | refine qB ?_ | refine qD ?_)
  refine zC rfl ?_
  (repeat first | refine qK ?_ | refine qG ?_ | refine qH ?_ | refine qF rfl ?_ | refine qL ?_ | refine qB ?_ | refine qE ?_ | refine qA ?_ | refine qC ?_ | refine qT ?_ | refine qW ?_)
  (repeat first | refine qE ?_ | refine qA ?_ | refine qC ?_ | refine qB ?_ | refine qD ?_); refine qJ (fun K hK => ?_); simp (maxSteps := 2000000) (disch := omega) only [push_cast, ↓Int.cast_ofNat_Int, Nat.reduceBEq, Nat.reduceAdd, Nat.reduceLT, Nat.reduceEqDiff, reduceIte, reduceCtorEq, Nat.reduceLeDiff, Nat.reduceSub, List.reduceReplicate, Nat.reduceMul, Int.reduceToNat, Nat.reducePow, cks_len]; refine hK _ ?_; clear hK K
  (repeat first | refine qE ?_ | refine qA ?_ | refine qC ?_ | refine qB ?_ | refine qD ?_)
  refine HW_loop (mgS cs) (fun n => n ≤ cs.length) (fun n => cs.length - n) [6, 7, 22, 23, 24] [128] 0 (by simp only [qZ, qR, qP, qQ, qN, qS, qM, qX, qU, Nat.reduceEqDiff, reduceIte, mgS]; try rfl) (Nat.zero_le _) ?_
  intro n hn
  simp only [mgS]
  by_cases hlt : n < cs.length
  ·obtain ⟨c, hc⟩ : ∃ c, cs[n] = c := ⟨_, rfl⟩
   have hcm : c ∈ cs := hc ▸ List.getElem_mem hlt
   obtain ⟨b1, b2, b3, b4, b5⟩ := hll c hcm
   have hs1 := hsz n
   have hs2 := hsz (n + 1)
   have hnn := mgN_le (cs.take n)
   rw [List.length_take] at hnn
   have ht : cs.take (n + 1) = cs.take n ++ [c] := by rw [List.take_succ_eq_append_getElem hlt, hc]
   rw [ht, mgT_snoc, ByteArray.size_append] at hs2
   have hT := ckT_size c
   have hg : ∀ d, (cks cs).getD n d = [.v (.bool c.st), .lst true (strs c.b), .lst true (strs c.l), .lst true (strs c.r)] := fun d => by rw [cks_get hlt, hc]; rfl
   generalize hTT : mgT (cs.take n) = T at *
   generalize hNN : mgN (cs.take n) = M at *
   cases hst : c.st with
   | true =>
    have hL : ckTakeL c := .inl hst
    have eT : ckT c = cat c.l := by rw [ckT, if_pos hL]
    have eN : ckN c = 0 := by rw [ckN, if_pos hL]
    (repeat first | refine qE ?_ | refine qA ?_ | refine qC ?_ | refine qB ?_ | refine qD ?_); refine qJ (fun K hK => ?_); simp (maxSteps := 2000000) (disch := omega) only [push_cast, ↓Int.cast_ofNat_Int, Nat.reduceBEq, Nat.reduceAdd, Nat.reduceLT, Nat.reduceEqDiff, reduceIte, reduceCtorEq, Nat.reduceLeDiff, Nat.reduceSub, List.reduceReplicate, Nat.reduceMul, Int.reduceToNat, Nat.reducePow]; refine hK _ ?_; clear hK K
    (repeat first | refine qE ?_ | refine qA ?_ | refine qC ?_ | refine qB ?_ | refine qD ?_)
    refine zD rfl ?_
    (repeat first | refine qK ?_ | refine qG ?_ | refine qH ?_ | refine qF rfl ?_ | refine qL ?_ | refine qB ?_ | refine qE ?_ | refine qA ?_ | refine qC ?_ | refine qT ?_ | refine qW ?_)
    (repeat first | refine qE ?_ | refine qA ?_ | refine qC ?_ | refine qB ?_ | refine qD ?_); refine qJ (fun K hK => ?_); simp (maxSteps := 2000000) (disch := omega) only [push_cast, ↓Int.cast_ofNat_Int, Nat.reduceBEq, Nat.reduceAdd, Nat.reduceLT, Nat.reduceEqDiff, reduceIte, reduceCtorEq, Nat.reduceLeDiff, Nat.reduceSub, List.reduceReplicate, Nat.reduceMul, Int.reduceToNat, Nat.reducePow, cks_len, cks_wid, hg, hst]; refine hK _ ?_; clear hK K
    refine zB [6, 7, 11, 22, 23, 24] [88, 128] (by simp only [qZ, qR, qP, qQ, qN, qS, qM, qX, qU, Nat.reduceEqDiff, reduceIte]; exact rfl) ?_
    (repeat first | refine qE ?_ | refine qA ?_ | refine qC ?_ | refine qB ?_ | refine qD ?_); refine qJ (fun K hK => ?_); simp (maxSteps := 2000000) (disch := omega) only [push_cast, ↓Int.cast_ofNat_Int, Nat.reduceBEq, Nat.reduceAdd, Nat.reduceLT, Nat.reduceEqDiff, reduceIte, reduceCtorEq, Nat.reduceLeDiff, Nat.reduceSub, List.reduceReplicate, Nat.reduceMul, Int.reduceToNat, Nat.reducePow]; refine hK _ ?_; clear hK K
    (repeat first | refine qE ?_ | refine qA ?_ | refine qC ?_ | refine qB ?_ | refine qD ?_)
    refine zD rfl ?_
    (repeat first | refine qK ?_ | refine qG ?_ | refine qH ?_ | refine qF rfl ?_ | refine qL ?_ | refine qB ?_ | refine qA ?_ | refine qC ?_ | refine qT ?_ | refine qW ?_)
    (repeat first | refine qE ?_ | refine qA ?_ | refine qC ?_ | refine qB ?_ | refine qD ?_)
    refine zD rfl ?_
    (repeat first | refine qE ?_ | refine qA ?_ | refine qC ?_ | refine qB ?_ | refine qD ?_); refine qJ (fun K hK => ?_); simp (maxSteps := 2000000) (disch := omega) only [push_cast, ↓Int.cast_ofNat_Int, Nat.reduceBEq, Nat.reduceAdd, Nat.reduceLT, Nat.reduceEqDiff, reduceIte, reduceCtorEq, Nat.reduceLeDiff, Nat.reduceSub, List.reduceReplicate, Nat.reduceMul, Int.reduceToNat, Nat.reducePow]
    refine hatv cl44 (join_H c.l (by omega) (by omega)) (.cons (lendL (strs_old _)) .nil) ?_
    with_reducible refine hstop ?_; simp (maxSteps := 2000000) (disch := omega) only [push_cast, ↓Int.cast_ofNat_Int, Nat.reduceBEq, Nat.reduceAdd, Nat.reduceLT, Nat.reduceEqDiff, reduceIte, reduceCtorEq, Nat.reduceLeDiff, Nat.reduceSub, List.reduceReplicate, Nat.reduceMul, Int.reduceToNat, Nat.reducePow]
    refine ⟨by first | omega | decide | ((repeat' apply And.intro) <;> first | omega | decide), ?_⟩
    refine hK _ ?_; clear hK K
    (repeat first | refine qK ?_ | refine qG ?_ | refine qH ?_ | refine qF rfl ?_ | refine qL ?_ | refine qB ?_ | refine qE ?_ | refine qA ?_ | refine qC ?_ | refine qT ?_ | refine qW ?_)
    (repeat first | refine qE ?_ | refine qA ?_ | refine qC ?_ | refine qB ?_ | refine qD ?_); refine qJ (fun K hK => ?_); simp (maxSteps := 2000000) (disch := omega) only [push_cast, ↓Int.cast_ofNat_Int, Nat.reduceBEq, Nat.reduceAdd, Nat.reduceLT, Nat.reduceEqDiff, reduceIte, reduceCtorEq, Nat.reduceLeDiff, Nat.reduceSub, List.reduceReplicate, Nat.reduceMul, Int.reduceToNat, Nat.reducePow]; refine hK _ ?_; clear hK K
    (repeat first | refine qK ?_ | refine qG ?_ | refine qH ?_ | refine qF rfl ?_ | refine qL ?_ | refine qB ?_ | refine qE ?_ | refine qA ?_ | refine qC ?_ | refine qT ?_ | refine qW ?_)
    refine ⟨n + 1, by simp only [qZ, qR, qP, qQ, qN, qS, qM, qX, qU, Nat.reduceEqDiff, reduceIte, mgS]; rw [ht, mgT_snoc, mgN_snoc, hTT, hNN, eT, eN]; try rfl, hlt, by omega⟩
   | false =>
    (repeat first | refine qE ?_ | refine qA ?_ | refine qC ?_ | refine qB ?_ | refine qD ?_); refine qJ (fun K hK => ?_); simp (maxSteps := 2000000) (disch := omega) only [push_cast, ↓Int.cast_ofNat_Int, Nat.reduceBEq, Nat.reduceAdd, Nat.reduceLT, Nat.reduceEqDiff, reduceIte, reduceCtorEq, Nat.reduceLeDiff, Nat.reduceSub, List.reduceReplicate, Nat.reduceMul, Int.reduceToNat, Nat.reducePow]; refine hK _ ?_; clear hK K
    (repeat first | refine qE ?_ | refine qA ?_ | refine qC ?_ | refine qB ?_ | refine qD ?_)
    refine zD rfl ?_
    (repeat first | refine qK ?_ | refine qG ?_ | refine qH ?_ | refine qF rfl ?_ | refine qL ?_ | refine qB ?_ | refine qE ?_ | refine qA ?_ | refine qC ?_ | refine qT ?_ | refine qW ?_)
    (repeat first | refine qE ?_ | refine qA ?_ | refine qC ?_ | refine qB ?_ | refine qD ?_); refine qJ (fun K hK => ?_); simp (maxSteps := 2000000) (disch := omega) only [push_cast, ↓Int.cast_ofNat_Int, Nat.reduceBEq, Nat.reduceAdd, Nat.reduceLT, Nat.reduceEqDiff, reduceIte, reduceCtorEq, Nat.reduceLeDiff, Nat.reduceSub, List.reduceReplicate, Nat.reduceMul, Int.reduceToNat, Nat.reducePow, cks_len, cks_wid, hg, hst]; refine hK _ ?_; clear hK K
    refine zB [6, 7, 11, 22, 23, 24] [88, 128] (by simp only [qZ, qR, qP, qQ, qN, qS, qM, qX, qU, Nat.reduceEqDiff, reduceIte]; exact rfl) ?_
    (repeat first | refine qE ?_ | refine qA ?_ | refine qC ?_ | refine qB ?_ | refine qD ?_); refine qJ (fun K hK => ?_); simp (maxSteps := 2000000) (disch := omega) only [push_cast, ↓Int.cast_ofNat_Int, Nat.reduceBEq, Nat.reduceAdd, Nat.reduceLT, Nat.reduceEqDiff, reduceIte, reduceCtorEq, Nat.reduceLeDiff, Nat.reduceSub, List.reduceReplicate, Nat.reduceMul, Int.reduceToNat, Nat.reducePow]; refine hK _ ?_; clear hK K
    (repeat first | refine qE ?_ | refine qA ?_ | refine qC ?_ | refine qB ?_ | refine qD ?_)
    refine zC rfl ?_
    (repeat first | refine qE ?_ | refine qA ?_ | refine qC ?_ | refine qB ?_ | refine qD ?_); refine qJ (fun K hK => ?_); simp (maxSteps := 2000000) (disch := omega) only [push_cast, ↓Int.cast_ofNat_Int, Nat.reduceBEq, Nat.reduceAdd, Nat.reduceLT, Nat.reduceEqDiff, reduceIte, reduceCtorEq, Nat.reduceLeDiff, Nat.reduceSub, List.reduceReplicate, Nat.reduceMul, Int.reduceToNat, Nat.reducePow]
    refine hatv cl62 (sequal_H c.l c.r (by omega) (by omega)) (.cons (lendL (strs_old _)) (.cons (lendL (strs_old _)) .nil)) ?_
    with_reducible refine hstop ?_; simp (maxSteps := 2000000) (disch := omega) only [push_cast, ↓Int.cast_ofNat_Int, Nat.reduceBEq, Nat.reduceAdd, Nat.reduceLT, Nat.reduceEqDiff, reduceIte, reduceCtorEq, Nat.reduceLeDiff, Nat.reduceSub, List.reduceReplicate, Nat.reduceMul, Int.reduceToNat, Nat.reducePow]
    refine hK _ ?_; clear hK K
    by_cases hlr : c.l = c.r
    ·have hL : ckTakeL c := .inr (.inl hlr)
     have eT : ckT c = cat c.l := by rw [ckT, if_pos hL]
     have eN : ckN c = 0 := by rw [ckN, if_pos hL]
     rw [decide_eq_true hlr]
     (repeat first | refine qE ?_ | refine qA ?_ | refine qC ?_ | refine qB ?_ | refine qD ?_)
     refine zD rfl ?_
     (repeat first | refine qK ?_ | refine qG ?_ | refine qH ?_ | refine qF rfl ?_ | refine qL ?_ | refine qB ?_ | refine qA ?_ | refine qC ?_ | refine qT ?_ | refine qW ?_)
     (repeat first | refine qE ?_ | refine qA ?_ | refine qC ?_ | refine qB ?_ | refine qD ?_)
     refine zD rfl ?_
     (repeat first | refine qE ?_ | refine qA ?_ | refine qC ?_ | refine qB ?_ | refine qD ?_); refine qJ (fun K hK => ?_); simp (maxSteps := 2000000) (disch := omega) only [push_cast, ↓Int.cast_ofNat_Int, Nat.reduceBEq, Nat.reduceAdd, Nat.reduceLT, Nat.reduceEqDiff, reduceIte, reduceCtorEq, Nat.reduceLeDiff, Nat.reduceSub, List.reduceReplicate, Nat.reduceMul, Int.reduceToNat, Nat.reducePow]
     refine hatv cl44 (join_H c.l (by omega) (by omega)) (.cons (lendL (strs_old _)) .nil) ?_
     with_reducible refine hstop ?_; simp (maxSteps := 2000000) (disch := omega) only [push_cast, ↓Int.cast_ofNat_Int, Nat.reduceBEq, Nat.reduceAdd, Nat.reduceLT, Nat.reduceEqDiff, reduceIte, reduceCtorEq, Nat.reduceLeDiff, Nat.reduceSub, List.reduceReplicate, Nat.reduceMul, Int.reduceToNat, Nat.reducePow]
     refine ⟨by first | omega | decide | ((repeat' apply And.intro) <;> first | omega | decide), ?_⟩
     refine hK _ ?_; clear hK K
     (repeat first | refine qK ?_ | refine qG ?_ | refine qH ?_ | refine qF rfl ?_ | refine qL ?_ | refine qB ?_ | refine qE ?_ | refine qA ?_ | refine qC ?_ | refine qT ?_ | refine qW ?_)
     (repeat first | refine qE ?_ | refine qA ?_ | refine qC ?_ | refine qB ?_ | refine qD ?_); refine qJ (fun K hK => ?_); simp (maxSteps := 2000000) (disch := omega) only [push_cast, ↓Int.cast_ofNat_Int, Nat.reduceBEq, Nat.reduceAdd, Nat.reduceLT, Nat.reduceEqDiff, reduceIte, reduceCtorEq, Nat.reduceLeDiff, Nat.reduceSub, List.reduceReplicate, Nat.reduceMul, Int.reduceToNat, Nat.reducePow]; refine hK _ ?_; clear hK K
     (repeat first | refine qK ?_ | refine qG ?_ | refine qH ?_ | refine qF rfl ?_ | refine qL ?_ | refine qB ?_ | refine qE ?_ | refine qA ?_ | refine qC ?_ | refine qT ?_ | refine qW ?_)
     refine ⟨n + 1, by simp only [qZ, qR, qP, qQ, qN, qS, qM, qX, qU, Nat.reduceEqDiff, reduceIte, mgS]; rw [ht, mgT_snoc, mgN_snoc, hTT, hNN, eT, eN]; try rfl, hlt, by omega⟩
    ·rw [decide_eq_false hlr]
     (repeat first | refine qE ?_ | refine qA ?_ | refine qC ?_ | refine qB ?_ | refine qD ?_)
     refine zC rfl ?_
     (repeat first | refine qE ?_ | refine qA ?_ | refine qC ?_ | refine qB ?_ | refine qD ?_); refine qJ (fun K hK => ?_); simp (maxSteps := 2000000) (disch := omega) only [push_cast, ↓Int.cast_ofNat_Int, Nat.reduceBEq, Nat.reduceAdd, Nat.reduceLT, Nat.reduceEqDiff, reduceIte, reduceCtorEq, Nat.reduceLeDiff, Nat.reduceSub, List.reduceReplicate, Nat.reduceMul, Int.reduceToNat, Nat.reducePow]
     refine hatv cl62 (sequal_H c.b c.r (by omega) (by omega)) (.cons (lendL (strs_old _)) (.cons (lendL (strs_old _)) .nil)) ?_
     with_reducible refine hstop ?_; simp (maxSteps := 2000000) (disch := omega) only [push_cast, ↓Int.cast_ofNat_Int, Nat.reduceBEq, Nat.reduceAdd, Nat.reduceLT, Nat.reduceEqDiff, reduceIte, reduceCtorEq, Nat.reduceLeDiff, Nat.reduceSub, List.reduceReplicate, Nat.reduceMul, Int.reduceToNat, Nat.reducePow]
     refine hK _ ?_; clear hK K
     by_cases hbr : c.b = c.r
     ·have hL : ckTakeL c := .inr (.inr hbr)
      have eT : ckT c = cat c.l := by rw [ckT, if_pos hL]
      have eN : ckN c = 0 := by rw [ckN, if_pos hL]
      rw [decide_eq_true hbr]
      (repeat first | refine qK ?_ | refine qG ?_ | refine qH ?_ | refine qF rfl ?_ | refine qL ?_ | refine qB ?_ | refine qA ?_ | refine qC ?_ | refine qT ?_ | refine qW ?_)
      (repeat first | refine qE ?_ | refine qA ?_ | refine qC ?_ | refine qB ?_ | refine qD ?_)
      refine zD rfl ?_
      (repeat first | refine qE ?_ | refine qA ?_ | refine qC ?_ | refine qB ?_ | refine qD ?_); refine qJ (fun K hK => ?_); simp (maxSteps := 2000000) (disch := omega) only [push_cast, ↓Int.cast_ofNat_Int, Nat.reduceBEq, Nat.reduceAdd, Nat.reduceLT, Nat.reduceEqDiff, reduceIte, reduceCtorEq, Nat.reduceLeDiff, Nat.reduceSub, List.reduceReplicate, Nat.reduceMul, Int.reduceToNat, Nat.reducePow]
      refine hatv cl44 (join_H c.l (by omega) (by omega)) (.cons (lendL (strs_old _)) .nil) ?_
      with_reducible refine hstop ?_; simp (maxSteps := 2000000) (disch := omega) only [push_cast, ↓Int.cast_ofNat_Int, Nat.reduceBEq, Nat.reduceAdd, Nat.reduceLT, Nat.reduceEqDiff, reduceIte, reduceCtorEq, Nat.reduceLeDiff, Nat.reduceSub, List.reduceReplicate, Nat.reduceMul, Int.reduceToNat, Nat.reducePow]
      refine ⟨by first | omega | decide | ((repeat' apply And.intro) <;> first | omega | decide), ?_⟩
      refine hK _ ?_; clear hK K
      (repeat first | refine qK ?_ | refine qG ?_ | refine qH ?_ | refine qF rfl ?_ | refine qL ?_ | refine qB ?_ | refine qE ?_ | refine qA ?_ | refine qC ?_ | refine qT ?_ | refine qW ?_)
      (repeat first | refine qE ?_ | refine qA ?_ | refine qC ?_ | refine qB ?_ | refine qD ?_); refine qJ (fun K hK => ?_); simp (maxSteps := 2000000) (disch := omega) only [push_cast, ↓Int.cast_ofNat_Int, Nat.reduceBEq, Nat.reduceAdd, Nat.reduceLT, Nat.reduceEqDiff, reduceIte, reduceCtorEq, Nat.reduceLeDiff, Nat.reduceSub, List.reduceReplicate, Nat.reduceMul, Int.reduceToNat, Nat.reducePow]; refine hK _ ?_; clear hK K
      (repeat first | refine qK ?_ | refine qG ?_ | refine qH ?_ | refine qF rfl ?_ | refine qL ?_ | refine qB ?_ | refine qE ?_ | refine qA ?_ | refine qC ?_ | refine qT ?_ | refine qW ?_)
      refine ⟨n + 1, by simp only [qZ, qR, qP, qQ, qN, qS, qM, qX, qU, Nat.reduceEqDiff, reduceIte, mgS]; rw [ht, mgT_snoc, mgN_snoc, hTT, hNN, eT, eN]; try rfl, hlt, by omega⟩
     ·have hL : ¬ ckTakeL c := fun h => h.elim (fun h => by rw [hst] at h; cases h) (fun h => h.elim hlr hbr)
      rw [decide_eq_false hbr]
      (repeat first | refine qK ?_ | refine qG ?_ | refine qH ?_ | refine qF rfl ?_ | refine qL ?_ | refine qB ?_ | refine qA ?_ | refine qC ?_ | refine qT ?_ | refine qW ?_)
      (repeat first | refine qE ?_ | refine qA ?_ | refine qC ?_ | refine qB ?_ | refine qD ?_)
      refine zC rfl ?_
      (repeat first | refine qE ?_ | refine qA ?_ | refine qC ?_ | refine qB ?_ | refine qD ?_); refine qJ (fun K hK => ?_); simp (maxSteps := 2000000) (disch := omega) only [push_cast, ↓Int.cast_ofNat_Int, Nat.reduceBEq, Nat.reduceAdd, Nat.reduceLT, Nat.reduceEqDiff, reduceIte, reduceCtorEq, Nat.reduceLeDiff, Nat.reduceSub, List.reduceReplicate, Nat.reduceMul, Int.reduceToNat, Nat.reducePow]
      refine hatv cl62 (sequal_H c.b c.l (by omega) (by omega)) (.cons (lendL (strs_old _)) (.cons (lendL (strs_old _)) .nil)) ?_
      with_reducible refine hstop ?_; simp (maxSteps := 2000000) (disch := omega) only [push_cast, ↓Int.cast_ofNat_Int, Nat.reduceBEq, Nat.reduceAdd, Nat.reduceLT, Nat.reduceEqDiff, reduceIte, reduceCtorEq, Nat.reduceLeDiff, Nat.reduceSub, List.reduceReplicate, Nat.reduceMul, Int.reduceToNat, Nat.reducePow]
      refine hK _ ?_; clear hK K
      by_cases hbl : c.b = c.l
      ·have eT : ckT c = cat c.r := by rw [ckT, if_neg hL, if_pos hbl]
       have eN : ckN c = 0 := by rw [ckN, if_neg hL, if_pos hbl]
       rw [decide_eq_true hbl]
       (repeat first | refine qE ?_ | refine qA ?_ | refine qC ?_ | refine qB ?_ | refine qD ?_)
       refine zD rfl ?_
       (repeat first | refine qE ?_ | refine qA ?_ | refine qC ?_ | refine qB ?_ | refine qD ?_); refine qJ (fun K hK => ?_); simp (maxSteps := 2000000) (disch := omega) only [push_cast, ↓Int.cast_ofNat_Int, Nat.reduceBEq, Nat.reduceAdd, Nat.reduceLT, Nat.reduceEqDiff, reduceIte, reduceCtorEq, Nat.reduceLeDiff, Nat.reduceSub, List.reduceReplicate, Nat.reduceMul, Int.reduceToNat, Nat.reducePow]
       refine hatv cl44 (join_H c.r (by omega) (by omega)) (.cons (lendL (strs_old _)) .nil) ?_
       with_reducible refine hstop ?_; simp (maxSteps := 2000000) (disch := omega) only [push_cast, ↓Int.cast_ofNat_Int, Nat.reduceBEq, Nat.reduceAdd, Nat.reduceLT, Nat.reduceEqDiff, reduceIte, reduceCtorEq, Nat.reduceLeDiff, Nat.reduceSub, List.reduceReplicate, Nat.reduceMul, Int.reduceToNat, Nat.reducePow]
       refine ⟨by first | omega | decide | ((repeat' apply And.intro) <;> first | omega | decide), ?_⟩
       refine hK _ ?_; clear hK K
       (repeat first | refine qK ?_ | refine qG ?_ | refine qH ?_ | refine qF rfl ?_ | refine qL ?_ | refine qB ?_ | refine qE ?_ | refine qA ?_ | refine qC ?_ | refine qT ?_ | refine qW ?_)
       (repeat first | refine qE ?_ | refine qA ?_ | refine qC ?_ | refine qB ?_ | refine qD ?_); refine qJ (fun K hK => ?_); simp (maxSteps := 2000000) (disch := omega) only [push_cast, ↓Int.cast_ofNat_Int, Nat.reduceBEq, Nat.reduceAdd, Nat.reduceLT, Nat.reduceEqDiff, reduceIte, reduceCtorEq, Nat.reduceLeDiff, Nat.reduceSub, List.reduceReplicate, Nat.reduceMul, Int.reduceToNat, Nat.reducePow]; refine hK _ ?_; clear hK K
       (repeat first | refine qK ?_ | refine qG ?_ | refine qH ?_ | refine qF rfl ?_ | refine qL ?_ | refine qB ?_ | refine qE ?_ | refine qA ?_ | refine qC ?_ | refine qT ?_ | refine qW ?_)
       refine ⟨n + 1, by simp only [qZ, qR, qP, qQ, qN, qS, qM, qX, qU, Nat.reduceEqDiff, reduceIte, mgS]; rw [ht, mgT_snoc, mgN_snoc, hTT, hNN, eT, eN]; try rfl, hlt, by omega⟩
      ·have eT : ckT c = ((((mkA ++ cat (closedS c.l)) ++ mkM) ++ cat (closedS c.r)) ++ mkB) := by rw [ckT, if_neg hL, if_neg hbl]
       have eN : ckN c = 1 := by rw [ckN, if_neg hL, if_neg hbl]
       rw [decide_eq_false hbl]
       have k1 := closed_H c.l (by omega) (fun x hx => by have := cat_mem hx; omega)
       have k2 := closed_H c.r (by omega) (fun x hx => by have := cat_mem hx; omega)
       have z1 := closedS_cat c.l
       have z2 := closedS_cat c.r
       have j1 := join_H (closedS c.l) (by rw [closedS_len]; omega) (by omega)
       have j2 := join_H (closedS c.r) (by rw [closedS_len]; omega) (by omega)
       (repeat first | refine qE ?_ | refine qA ?_ | refine qC ?_ | refine qB ?_ | refine qD ?_)
       refine zC rfl ?_
       (repeat first | refine qE ?_ | refine qA ?_ | refine qC ?_ | refine qB ?_ | refine qD ?_); refine qJ (fun K hK => ?_); simp (maxSteps := 2000000) (disch := omega) only [push_cast, ↓Int.cast_ofNat_Int, Nat.reduceBEq, Nat.reduceAdd, Nat.reduceLT, Nat.reduceEqDiff, reduceIte, reduceCtorEq, Nat.reduceLeDiff, Nat.reduceSub, List.reduceReplicate, Nat.reduceMul, Int.reduceToNat, Nat.reducePow]; refine hK _ ?_; clear hK K
       refine zB [6, 7, 11, 22, 23, 24] [88, 128] (by simp only [qZ, qR, qP, qQ, qN, qS, qM, qX, qU, Nat.reduceEqDiff, reduceIte]; exact rfl) ?_
       have sA : ({ data := #[60, 60, 60, 60, 60, 60, 60, 10] } : ByteArray).size = 8 := rfl
       have sM : ({ data := #[61, 61, 61, 61, 61, 61, 61, 10] } : ByteArray).size = 8 := rfl
       have sB : ({ data := #[62, 62, 62, 62, 62, 62, 62, 10] } : ByteArray).size = 8 := rfl
       (repeat first | refine qE ?_ | refine qA ?_ | refine qC ?_ | refine qB ?_ | refine qD ?_); refine HW_drwR2 13 mixed (by kernel_rfl) (fun K hK K1 hK1 => ?_); simp (maxSteps := 2000000) (disch := omega) only [push_cast, ↓Int.cast_ofNat_Int, Nat.reduceBEq, Nat.reduceAdd, Nat.reduceLT, Nat.reduceEqDiff, reduceIte, reduceCtorEq, Nat.reduceLeDiff, Nat.reduceSub, List.reduceReplicate, Nat.reduceMul, Int.reduceToNat, Nat.reducePow]
       refine hatRo cl43 k1 (.cons (lendL (strs_old _)) .nil) ?_
       with_reducible refine hstop ?_; simp (maxSteps := 2000000) (disch := omega) only [push_cast, ↓Int.cast_ofNat_Int, Nat.reduceBEq, Nat.reduceAdd, Nat.reduceLT, Nat.reduceEqDiff, reduceIte, reduceCtorEq, Nat.reduceLeDiff, Nat.reduceSub, List.reduceReplicate, Nat.reduceMul, Int.reduceToNat, Nat.reducePow]
       refine hatRv cl44 j1 (.cons (lendL (strs_old _)) .nil) ?_
       with_reducible refine hstop ?_; simp (maxSteps := 2000000) (disch := omega) only [push_cast, ↓Int.cast_ofNat_Int, Nat.reduceBEq, Nat.reduceAdd, Nat.reduceLT, Nat.reduceEqDiff, reduceIte, reduceCtorEq, Nat.reduceLeDiff, Nat.reduceSub, List.reduceReplicate, Nat.reduceMul, Int.reduceToNat, Nat.reducePow, sA, sM, sB, ByteArray.size_append]
       refine ⟨by omega, by omega, ?_⟩
       refine hatRo cl43 k2 (.cons (lendL (strs_old _)) .nil) ?_
       with_reducible refine hstop ?_; simp (maxSteps := 2000000) (disch := omega) only [push_cast, ↓Int.cast_ofNat_Int, Nat.reduceBEq, Nat.reduceAdd, Nat.reduceLT, Nat.reduceEqDiff, reduceIte, reduceCtorEq, Nat.reduceLeDiff, Nat.reduceSub, List.reduceReplicate, Nat.reduceMul, Int.reduceToNat, Nat.reducePow]
       refine hatRv cl44 j2 (.cons (lendL (strs_old _)) .nil) ?_
       with_reducible refine hstop ?_; simp (maxSteps := 2000000) (disch := omega) only [push_cast, ↓Int.cast_ofNat_Int, Nat.reduceBEq, Nat.reduceAdd, Nat.reduceLT, Nat.reduceEqDiff, reduceIte, reduceCtorEq, Nat.reduceLeDiff, Nat.reduceSub, List.reduceReplicate, Nat.reduceMul, Int.reduceToNat, Nat.reducePow, sA, sM, sB, ByteArray.size_append]
       refine ⟨by omega, by omega, ?_⟩
       refine hK1 _ ?_; clear hK1 K1; with_reducible refine hstop ?_; simp (maxSteps := 2000000) (disch := omega) only [push_cast, ↓Int.cast_ofNat_Int, Nat.reduceBEq, Nat.reduceAdd, Nat.reduceLT, Nat.reduceEqDiff, reduceIte, reduceCtorEq, Nat.reduceLeDiff, Nat.reduceSub, List.reduceReplicate, Nat.reduceMul, Int.reduceToNat, Nat.reducePow, sA, sM, sB, ByteArray.size_append]
       refine ⟨by omega, ?_⟩
       refine hK _ ?_; clear hK K
       (repeat first | refine qK ?_ | refine qG ?_ | refine qH ?_ | refine qF rfl ?_ | refine qL ?_ | refine qB ?_ | refine qE ?_ | refine qA ?_ | refine qC ?_ | refine qT ?_ | refine qW ?_)
       (repeat first | refine qE ?_ | refine qA ?_ | refine qC ?_ | refine qB ?_ | refine qD ?_); refine qJ (fun K hK => ?_); simp (maxSteps := 2000000) (disch := omega) only [push_cast, ↓Int.cast_ofNat_Int, Nat.reduceBEq, Nat.reduceAdd, Nat.reduceLT, Nat.reduceEqDiff, reduceIte, reduceCtorEq, Nat.reduceLeDiff, Nat.reduceSub, List.reduceReplicate, Nat.reduceMul, Int.reduceToNat, Nat.reducePow]; refine hK _ ?_; clear hK K
       (repeat first | refine qK ?_ | refine qG ?_ | refine qH ?_ | refine qF rfl ?_ | refine qL ?_ | refine qB ?_ | refine qE ?_ | refine qA ?_ | refine qC ?_ | refine qT ?_ | refine qW ?_)
       refine ⟨n + 1, by simp only [qZ, qR, qP, qQ, qN, qS, qM, qX, qU, Nat.reduceEqDiff, reduceIte, mgS]; rw [ht, mgT_snoc, mgN_snoc, hTT, hNN, eT, eN]; try rfl, hlt, by omega⟩
  ·have hne : n = cs.length := by omega
   subst hne
   (repeat first | refine qE ?_ | refine qA ?_ | refine qC ?_ | refine qB ?_ | refine qD ?_); refine qJ (fun K hK => ?_); simp (maxSteps := 2000000) (disch := omega) only [push_cast, ↓Int.cast_ofNat_Int, Nat.reduceBEq, Nat.reduceAdd, Nat.reduceLT, Nat.reduceEqDiff, reduceIte, reduceCtorEq, Nat.reduceLeDiff, Nat.reduceSub, List.reduceReplicate, Nat.reduceMul, Int.reduceToNat, Nat.reducePow, cks_len]; refine hK _ ?_; clear hK K
   (repeat first | refine qE ?_ | refine qA ?_ | refine qC ?_ | refine qB ?_ | refine qD ?_)
   refine zC rfl ?_
   (repeat first | refine qK ?_ | refine qG ?_ | refine qH ?_ | refine qF rfl ?_ | refine qL ?_ | refine qB ?_ | refine qE ?_ | refine qA ?_ | refine qC ?_ | refine qT ?_ | refine qW ?_)
   (repeat first | refine qE ?_ | refine qA ?_ | refine qC ?_ | refine qB ?_ | refine qD ?_); refine qJ (fun K hK => ?_); simp (maxSteps := 2000000) (disch := omega) only [push_cast, ↓Int.cast_ofNat_Int, Nat.reduceBEq, Nat.reduceAdd, Nat.reduceLT, Nat.reduceEqDiff, reduceIte, reduceCtorEq, Nat.reduceLeDiff, Nat.reduceSub, List.reduceReplicate, Nat.reduceMul, Int.reduceToNat, Nat.reducePow]; refine hK _ ?_; clear hK K
   (repeat first | refine qK ?_ | refine qG ?_ | refine qH ?_ | refine qF rfl ?_ | refine qL ?_ | refine qB ?_ | refine qE ?_ | refine qA ?_ | refine qC ?_ | refine qT ?_ | refine qW ?_)
   simp only [zA, zM, zH, zE, zK, zJ, qS, qM, Nat.reduceEqDiff, reduceIte, reduceCtorEq]
   exact hres_vvv (by rw [hfin.1, hfin.2, hE])
end Go.Proofs.Ytlfenddhppoflaa
