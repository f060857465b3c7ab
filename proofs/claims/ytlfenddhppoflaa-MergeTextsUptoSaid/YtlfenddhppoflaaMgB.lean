/- What the walk of the law stands on. -/
import Derived.Test.YtlfenddhppoflaaMgA
import Derived.Test.YtlfenddhppoflaaMgL
import Derived.Test.YtlfenddhppoflaaKpS
set_option linter.unusedSimpArgs false
set_option linter.unusedVariables false
set_option maxRecDepth 20000
namespace Go.Proofs.Ytlfenddhppoflaa
open Go Go.Eng Go.RowKit Go.DiffM

def pairI (p : Nat × Nat) : Int × Int := ((p.1 : Int), (p.2 : Int))
theorem keptS_kn : ∀ (s : List Nat) (i j : Nat), keptS s i j = (knS s i j).map pairI
 | [], _, _ => rfl
 | x :: r, i, j => by
  rw [keptS, knS, keptS_kn r, List.map_append]
  congr 1
  split <;> rfl
theorem keptP_kn (a b : List ByteArray) : keptP a b = (kn a b).map pairI := by rw [← keptS_P, kn, keptS_kn]
theorem ints_set2 (l : List Int) (i : Nat) (x : Int) : (ints l).set i [.v (.int .i64 x)] = ints (l.set i x) := by simp [ints, List.map_set, intE]
abbrev rowI (l : List Int) : Row := .sl true 3 1 (ints l)
def place (o a : List ByteArray) : List Int := plc o.length (kn o a)
theorem place_len (o a : List ByteArray) : (place o a).length = o.length := plc_len _ _
set_option maxHeartbeats 4000000 in
theorem places_H (o a : List ByteArray) (ho : o.length ≤ 400) (ha : a.length ≤ 400) : HFun Try.prog 68 [.lst false (strs o), .lst false (strs a)] (fun h st =>
  h = .tup [.own 0, .v (.int .i64 0)] ∧ st = [(0, rowI (place o a))]) := by
 refine hfun (N := 38) Try.func68 rfl Try.ntmps68 Try.results68 (by simp) ?_
 (repeat first | refine qE ?_ | refine qA ?_ | refine qC ?_ | refine qB ?_ | refine qD ?_); refine qJ (fun K hK => ?_); simp (maxSteps := 2000000) (disch := omega) only [push_cast, ↓Int.cast_ofNat_Int, Nat.reduceBEq, Nat.reduceAdd, Nat.reduceLT, Nat.reduceEqDiff, reduceIte, reduceCtorEq, Nat.reduceLeDiff, Nat.reduceSub, List.reduceReplicate, Nat.reduceMul, Int.reduceToNat, Nat.reducePow]; refine hK _ ?_; clear hK K
 (repeat first | refine qE ?_ | refine qA ?_ | refine qC ?_ | refine qB ?_ | refine qD ?_); refine qJ (fun K hK => ?_); simp (maxSteps := 2000000) (disch := omega) only [push_cast, ↓Int.cast_ofNat_Int, Nat.reduceBEq, Nat.reduceAdd, Nat.reduceLT, Nat.reduceEqDiff, reduceIte, reduceCtorEq, Nat.reduceLeDiff, Nat.reduceSub, List.reduceReplicate, Nat.reduceMul, Int.reduceToNat, Nat.reducePow]
 refine hat 112 cl25 (kept_H o a) (.cons (lendL (strs_old _)) (.cons (lendL (strs_old _)) .nil)) ?_
 rintro _ _ (⟨hlim, rfl, rfl⟩ | ⟨-, -, rfl, rfl⟩)
 ·omega
 rw [keptP_kn]
 with_reducible refine hstop ?_; simp (maxSteps := 2000000) (disch := omega) only [push_cast, ↓Int.cast_ofNat_Int, Nat.reduceBEq, Nat.reduceAdd, Nat.reduceLT, Nat.reduceEqDiff, reduceIte, reduceCtorEq, Nat.reduceLeDiff, Nat.reduceSub, List.reduceReplicate, Nat.reduceMul, Int.reduceToNat, Nat.reducePow]
 refine hK _ ?_; clear hK K
 (repeat first | refine qE ?_ | refine qA ?_ | refine qC ?_ | refine qB ?_ | refine qD ?_); refine qJ (fun K hK => ?_); simp (maxSteps := 2000000) (disch := omega) only [push_cast, ↓Int.cast_ofNat_Int, Nat.reduceBEq, Nat.reduceAdd, Nat.reduceLT, Nat.reduceEqDiff, reduceIte, reduceCtorEq, Nat.reduceLeDiff, Nat.reduceSub, List.reduceReplicate, Nat.reduceMul, Int.reduceToNat, Nat.reducePow]; refine hK _ ?_; clear hK K
 (repeat first | refine qE ?_ | refine qA ?_ | refine qC ?_ | refine qB ?_ | refine qD ?_)
 refine zC rfl ?_
 (repeat first | refine qE ?_ | refine qA ?_ | refine qC ?_ | refine qB ?_ | refine qD ?_)
 refine zB [0, 6] [112] (by simp only [qZ, qR, qP, qQ, qN, qS, qM, qX, qU, Nat.reduceEqDiff, reduceIte]; exact rfl) ?_
 have e1 : [[FV.v (.int .i64 (-1))]] = ints [-1] := rfl
 (repeat first | refine qE ?_ | refine qA ?_ | refine qC ?_ | refine qB ?_ | refine qD ?_); refine qJ (fun K hK => ?_); simp (maxSteps := 2000000) (disch := omega) only [push_cast, ↓Int.cast_ofNat_Int, Nat.reduceBEq, Nat.reduceAdd, Nat.reduceLT, Nat.reduceEqDiff, reduceIte, reduceCtorEq, Nat.reduceLeDiff, Nat.reduceSub, List.reduceReplicate, Nat.reduceMul, Int.reduceToNat, Nat.reducePow, e1, strs_len]
 refine hat 184 cl81 (repeat_H (-1) o.length (by omega)) (.cons (lendO (ints_old _) rfl) (.cons (.v _) .nil)) ?_
 rintro _ _ ⟨rfl, rfl⟩
 with_reducible refine hstop ?_; simp (maxSteps := 2000000) (disch := omega) only [push_cast, ↓Int.cast_ofNat_Int, Nat.reduceBEq, Nat.reduceAdd, Nat.reduceLT, Nat.reduceEqDiff, reduceIte, reduceCtorEq, Nat.reduceLeDiff, Nat.reduceSub, List.reduceReplicate, Nat.reduceMul, Int.reduceToNat, Nat.reducePow]
 refine hK _ ?_; clear hK K
 (repeat first | refine qE ?_ | refine qA ?_ | refine qC ?_ | refine qB ?_ | refine qD ?_); refine qJ (fun K hK => ?_); simp (maxSteps := 2000000) (disch := omega) only [push_cast, ↓Int.cast_ofNat_Int, Nat.reduceBEq, Nat.reduceAdd, Nat.reduceLT, Nat.reduceEqDiff, reduceIte, reduceCtorEq, Nat.reduceLeDiff, Nat.reduceSub, List.reduceReplicate, Nat.reduceMul, Int.reduceToNat, Nat.reducePow, int2s_len, List.length_map]; refine hK _ ?_; clear hK K
 (repeat first | refine qE ?_ | refine qA ?_ | refine qC ?_ | refine qB ?_ | refine qD ?_)
 have hmem := (kn_ok o a).mem
 have hLl : (kn o a).length ≤ 400 := by have := (kn_ok o a).len; omega
 have hd : place o a = ((kn o a).drop 0).foldl (fun (o : List Int) (p : Nat × Nat) => o.set p.1 (p.2 : Int)) (List.replicate o.length (-1)) := rfl
 generalize place o a = P at *
 generalize kn o a = L at *
 refine HW_loop (fun x : Nat × List Int => ⟨[(8, .own 184), (24, .own 112), (25, .v (.int .i64 L.length)), (26, .v (.int .i64 x.1))], [(112, rowP (L.map pairI)), (184, rowI x.2)]⟩)
  (fun x => x.1 ≤ L.length ∧ x.2.length = o.length ∧ P = (L.drop x.1).foldl (fun (o : List Int) (p : Nat × Nat) => o.set p.1 (p.2 : Int)) x.2) (fun x => L.length - x.1) [8, 24, 25, 26] [112, 184] (0, List.replicate o.length (-1)) rfl ⟨Nat.zero_le _, by simp, hd⟩ ?_
 rintro ⟨n, out⟩ ⟨hn, hl, hP⟩
 simp only at hn hl hP
 by_cases hlt : n < L.length
 ·obtain ⟨p, q, hpq⟩ : ∃ p q, L[n] = (p, q) := ⟨L[n].1, L[n].2, rfl⟩
  have hp := (hmem (p, q) (hpq ▸ List.getElem_mem hlt)).2.2.1
  rw [List.drop_eq_getElem_cons hlt, hpq, List.foldl_cons] at hP
  have hlm : n < (L.map pairI).length := by rw [List.length_map]; exact hlt
  have hge : (L.map pairI)[n] = ((p : Int), (q : Int)) := by rw [List.getElem_map, hpq]; rfl
  have hll : (int2s (L.map pairI)).length = L.length := by rw [int2s_len, List.length_map]
  (repeat first | refine qE ?_ | refine qA ?_ | refine qC ?_ | refine qB ?_ | refine qD ?_); refine qJ (fun K hK => ?_); simp (maxSteps := 2000000) (disch := omega) only [push_cast, ↓Int.cast_ofNat_Int, Nat.reduceBEq, Nat.reduceAdd, Nat.reduceLT, Nat.reduceEqDiff, reduceIte, reduceCtorEq, Nat.reduceLeDiff, Nat.reduceSub, List.reduceReplicate, Nat.reduceMul, Int.reduceToNat, Nat.reducePow, hll]; refine hK _ ?_; clear hK K
  (repeat first | refine qE ?_ | refine qA ?_ | refine qC ?_ | refine qB ?_ | refine qD ?_)
  refine zD rfl ?_
  (repeat first | refine qK ?_ | refine qG ?_ | refine qH ?_ | refine qF rfl ?_ | refine qL ?_ | refine qB ?_ | refine qE ?_ | refine qA ?_ | refine qC ?_ | refine qT ?_ | refine qW ?_)
  (repeat first | refine qE ?_ | refine qA ?_ | refine qC ?_ | refine qB ?_ | refine qD ?_); refine qJ (fun K hK => ?_); simp (maxSteps := 2000000) (disch := omega) only [push_cast, ↓Int.cast_ofNat_Int, Nat.reduceBEq, Nat.reduceAdd, Nat.reduceLT, Nat.reduceEqDiff, reduceIte, reduceCtorEq, Nat.reduceLeDiff, Nat.reduceSub, List.reduceReplicate, Nat.reduceMul, Int.reduceToNat, Nat.reducePow, hll, int2s_wid, int2s_get hlm, hge]; refine hK _ ?_; clear hK K
  have hil : (ints out).length = o.length := by rw [ints_len, hl]
  (repeat first | refine qE ?_ | refine qA ?_ | refine qC ?_ | refine qB ?_ | refine qD ?_); refine qJ (fun K hK => ?_); simp (maxSteps := 2000000) (disch := omega) only [push_cast, ↓Int.cast_ofNat_Int, Nat.reduceBEq, Nat.reduceAdd, Nat.reduceLT, Nat.reduceEqDiff, reduceIte, reduceCtorEq, Nat.reduceLeDiff, Nat.reduceSub, List.reduceReplicate, Nat.reduceMul, Int.reduceToNat, Nat.reducePow, hil, ints_set2, ints_wid, ints_get, hl]; (repeat refine ⟨by first | omega | decide | ((repeat' apply And.intro) <;> first | omega | decide), ?_⟩); refine hK _ ?_; clear hK K
  (repeat first | refine qK ?_ | refine qG ?_ | refine qH ?_ | refine qF rfl ?_ | refine qL ?_ | refine qB ?_ | refine qE ?_ | refine qA ?_ | refine qC ?_ | refine qT ?_ | refine qW ?_)
  (repeat first | refine qE ?_ | refine qA ?_ | refine qC ?_ | refine qB ?_ | refine qD ?_); refine qJ (fun K hK => ?_); simp (maxSteps := 2000000) (disch := omega) only [push_cast, ↓Int.cast_ofNat_Int, Nat.reduceBEq, Nat.reduceAdd, Nat.reduceLT, Nat.reduceEqDiff, reduceIte, reduceCtorEq, Nat.reduceLeDiff, Nat.reduceSub, List.reduceReplicate, Nat.reduceMul, Int.reduceToNat, Nat.reducePow]; refine hK _ ?_; clear hK K
  (repeat first | refine qK ?_ | refine qG ?_ | refine qH ?_ | refine qF rfl ?_ | refine qL ?_ | refine qB ?_ | refine qE ?_ | refine qA ?_ | refine qC ?_ | refine qT ?_ | refine qW ?_)
  exact ⟨(n + 1, out.set p q), rfl, ⟨hlt, by simpa using hl, hP⟩, by dsimp only; omega⟩
 ·have hne : n = L.length := by omega
  subst hne
  have hll : (int2s (L.map pairI)).length = L.length := by rw [int2s_len, List.length_map]
  rw [List.drop_length, List.foldl_nil] at hP
  (repeat first | refine qE ?_ | refine qA ?_ | refine qC ?_ | refine qB ?_ | refine qD ?_); refine qJ (fun K hK => ?_); simp (maxSteps := 2000000) (disch := omega) only [push_cast, ↓Int.cast_ofNat_Int, Nat.reduceBEq, Nat.reduceAdd, Nat.reduceLT, Nat.reduceEqDiff, reduceIte, reduceCtorEq, Nat.reduceLeDiff, Nat.reduceSub, List.reduceReplicate, Nat.reduceMul, Int.reduceToNat, Nat.reducePow, hll]; refine hK _ ?_; clear hK K
  (repeat first | refine qE ?_ | refine qA ?_ | refine qC ?_ | refine qB ?_ | refine qD ?_)
  refine zC rfl ?_
  (repeat first | refine qK ?_ | refine qG ?_ | refine qH ?_ | refine qF rfl ?_ | refine qL ?_ | refine qB ?_ | refine qE ?_ | refine qA ?_ | refine qC ?_ | refine qT ?_ | refine qW ?_)
  (repeat first | refine qE ?_ | refine qA ?_ | refine qC ?_ | refine qB ?_ | refine qD ?_); refine qJ (fun K hK => ?_); simp (maxSteps := 2000000) (disch := omega) only [push_cast, ↓Int.cast_ofNat_Int, Nat.reduceBEq, Nat.reduceAdd, Nat.reduceLT, Nat.reduceEqDiff, reduceIte, reduceCtorEq, Nat.reduceLeDiff, Nat.reduceSub, List.reduceReplicate, Nat.reduceMul, Int.reduceToNat, Nat.reducePow]; refine hK _ ?_; clear hK K
  (repeat first | refine qK ?_ | refine qG ?_ | refine qH ?_ | refine qF rfl ?_ | refine qL ?_ | refine qB ?_ | refine qE ?_ | refine qA ?_ | refine qC ?_ | refine qT ?_ | refine qW ?_)
  simp only [zA, zM, zH, zE, zK, zJ, qS, qM, Nat.reduceEqDiff, reduceIte, reduceCtorEq]
  exact hres_ov rfl (ints_fresh _) ⟨rfl, by rw [hP]⟩
end Go.Proofs.Ytlfenddhppoflaa
