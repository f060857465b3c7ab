/- What the walk of the law stands on. -/
import Derived.Test.YtlfenddhppoflaaShpD
import Derived.Test.YtlfenddhppoflaaGc
import Derived.Test.YtlfenddhppoflaaTyD
set_option linter.unusedSimpArgs false
set_option linter.unusedVariables false
set_option maxRecDepth 20000
namespace Go.Proofs.Ytlfenddhppoflaa
open Go Go.Eng Go.RowKit

def cat (l : List ByteArray) : ByteArray := ⟨(l.map (·.data.toList)).flatten.toArray⟩
theorem cat_cons (a : ByteArray) (l : List ByteArray) : cat (a :: l) = a ++ cat l := by
 apply ByteArray.ext; apply Array.toList_inj.1; simp [cat]
theorem cat_app (a b : List ByteArray) : cat (a ++ b) = cat a ++ cat b := by
 apply ByteArray.ext; apply Array.toList_inj.1; simp [cat]
theorem cat_one (a : ByteArray) : cat [a] = a := by
 apply ByteArray.ext; apply Array.toList_inj.1; simp [cat]
theorem join_cat (l : List (List UInt8)) : Lib.join l [] = l.flatten := by
 cases l with
 | nil => exact Lib.join_nil []
 | cons x r => rw [Lib.join_cons]; simp [Lib.joinTail]
set_option maxHeartbeats 1000000 in
theorem sJoin_H (l : List ByteArray) (hl : l.length ≤ 140737488355328) (hs : (cat l).size ≤ 140737488355328) : HFun Try.prog 67 [.lst false (strs l), .v (.string ⟨#[]⟩)] (fun h st => h = .v (.string (cat l)) ∧ st = []) := by
 refine hfun_low fun w vs R => ?_
 obtain ⟨r1, r2⟩ := R
 match vs, r1 with
 | [a, b], _ =>
 have ha := r2 0 (by simp) (by simp)
 have hb := r2 1 (by simp) (by simp)
 simp only [List.getElem_cons_zero, List.getElem_cons_succ] at ha hb
 have := repH_v hb
 subst this
 cases ha with
 | lst hF =>
 cases hF with
 | lst sz vals hn hc hm hnil hsz hadd h1 hr =>
 rename_i ad n cap _
 have hn' : l.length = n := by rw [← hn, strs_len]
 subst hn'
 by_cases h0 : l.length = 0
 ·have : l = [] := List.eq_nil_of_length_eq_zero h0
  subst this
  refine (Try.strings_Join_none ad cap ⟨#[]⟩ w).mono ?_
  rintro e w' ⟨rfl, rfl⟩
  exact ret_of ⟨rfl, Below.refl _ _⟩
 ·obtain ⟨bk, off, rfl, -, hbk, -, hcell⟩ := hadd (by omega)
  have hszz : sz = 1 := by
   have := hsz ((strs l)[0]'(by rw [strs_len]; omega)) (List.getElem_mem _)
   rw [← this]; simp [strs, strE]
  subst hszz
  refine (Try.strings_Join bk off cap l ⟨#[]⟩ w (fun j x hx => ?_) hbk hl hc ?_).mono ?_
  ·have hj : j < l.length := (List.getElem?_eq_some_iff.1 hx).1
   have h3 := hcell j 0 hj (by omega)
   rw [show off + (j * 1 + 0) = off + j by omega] at h3
   rw [h3]
   have h4 := hr j 0 (by rw [strs_len]; exact hj) (by simp [strs, strE])
   simp only [strs, strE, List.getElem_map, List.getElem_cons_zero] at h4
   generalize vals j 0 = u at h4
   cases h4
   have := (List.getElem?_eq_some_iff.1 hx).2
   rw [this]
  ·show (Lib.join (l.map (·.data.toList)) []).length ≤ _
   rw [join_cat]
   have : (l.map (·.data.toList)).flatten.length = (cat l).size := by
    show _ = Array.size _
    rw [List.size_toArray]
   omega
  ·rintro e w' ⟨rfl, B⟩
   refine ret_of ⟨?_, B⟩
   show Value.string ⟨(Lib.join (l.map (·.data.toList)) []).toArray⟩ = _
   rw [join_cat]; rfl
set_option maxHeartbeats 1000000 in
theorem join_H (l : List ByteArray) (hl : l.length ≤ 140737488355328) (hs : (cat l).size ≤ 140737488355328) : HFun Try.prog 44 [.lst false (strs l)] (fun h st => h = .v (.string (cat l))) := by
 refine hfun (N := 5) Try.func44 rfl Try.ntmps44 Try.results44 (by simp) ?_
 (repeat first | refine qE ?_ | refine qA ?_ | refine qC ?_ | refine qB ?_ | refine qD ?_); refine qJ (fun K hK => ?_); simp (maxSteps := 2000000) (disch := omega) only [push_cast, ↓Int.cast_ofNat_Int, Nat.reduceBEq, Nat.reduceAdd, Nat.reduceLT, Nat.reduceEqDiff, reduceIte, reduceCtorEq, Nat.reduceLeDiff, Nat.reduceSub, List.reduceReplicate, Nat.reduceMul, Int.reduceToNat, Nat.reducePow]; refine hK _ ?_; clear hK K
 (repeat first | refine qE ?_ | refine qA ?_ | refine qC ?_ | refine qB ?_ | refine qD ?_); refine qJ (fun K hK => ?_); simp (maxSteps := 2000000) (disch := omega) only [push_cast, ↓Int.cast_ofNat_Int, Nat.reduceBEq, Nat.reduceAdd, Nat.reduceLT, Nat.reduceEqDiff, reduceIte, reduceCtorEq, Nat.reduceLeDiff, Nat.reduceSub, List.reduceReplicate, Nat.reduceMul, Int.reduceToNat, Nat.reducePow]
 refine hatv cl67 ((sJoin_H l hl hs).mono fun h st q => q.1) (.cons (lendL (strs_old l)) (.cons (.v _) .nil)) ?_
 with_reducible refine hstop ?_; simp (maxSteps := 2000000) (disch := omega) only [push_cast, ↓Int.cast_ofNat_Int, Nat.reduceBEq, Nat.reduceAdd, Nat.reduceLT, Nat.reduceEqDiff, reduceIte, reduceCtorEq, Nat.reduceLeDiff, Nat.reduceSub, List.reduceReplicate, Nat.reduceMul, Int.reduceToNat, Nat.reducePow]
 refine hK _ ?_; clear hK K
 (repeat first | refine qK ?_ | refine qG ?_ | refine qH ?_ | refine qF rfl ?_ | refine qL ?_ | refine qB ?_ | refine qE ?_ | refine qA ?_ | refine qC ?_ | refine qT ?_ | refine qW ?_)
 simp only [zA, zM, zH, zE, zK, zJ, qS, qM, Nat.reduceEqDiff, reduceIte, reduceCtorEq]
 exact hres_v rfl
end Go.Proofs.Ytlfenddhppoflaa
