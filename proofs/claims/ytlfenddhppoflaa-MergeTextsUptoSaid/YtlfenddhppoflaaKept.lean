/- What the walk of the law stands on. -/
import Derived.Test.YtlfenddhppoflaaGc
import Derived.Test.YtlfenddhppoflaaTyD
import Derived.Test.YtlfenddhppoflaaScript
import Derived.Test.YtlfenddhppoflaaDiffL
set_option linter.unusedSimpArgs false
set_option linter.unusedVariables false
set_option maxRecDepth 20000
namespace Go.Proofs.Ytlfenddhppoflaa
open Go Go.Eng Go.RowKit Go.DiffM

def editE (r : Nat × Nat) : List FV := [.v (.int .i64 r.1), .v (.int .i64 r.2)]
def edits (l : List (Nat × Nat)) : List (List FV) := l.map editE
theorem edits_len (l : List (Nat × Nat)) : (edits l).length = l.length := by simp [edits]
theorem edits_get {l : List (Nat × Nat)} {i : Nat} {d : List FV} (h : i < l.length) : (edits l).getD i d = [.v (.int .i64 (l[i].1 : Nat)), .v (.int .i64 (l[i].2 : Nat))] := by unfold edits; rw [getD_map h]; rfl
theorem repF_strs {w : World} {v : Value} {fr : Bool} {a : List ByteArray} {A : Nat → Prop} {n0 : Nat} (h : RepF w A n0 v (.lst fr (strs a))) : SlS w v a := by
  cases h with
  | lst sz vals hn hc hm hnil hsz ha h1 hr =>
  rw [strs_len] at hn
  subst hn
  refine ⟨_, _, rfl, hc, hm, fun h0 => ?_⟩
  obtain ⟨b, off, rfl, -, -, -, hcell⟩ := ha h0
  refine ⟨b, off, rfl, fun j hj => ?_⟩
  have hj' : j < a.length := by omega
  have hsz1 : sz = 1 := by rw [← hsz _ (List.getElem_mem (show 0 < (strs a).length by rw [strs_len]; omega))]; simp [strs, strE]
  subst hsz1
  have := hcell j 0 hj' (by omega)
  simp only [Nat.mul_one, Nat.add_zero] at this
  rw [this]
  have hr' := hr j 0 (by rw [strs_len]; exact hj') (by simp [strs, strE])
  simp only [strs, List.getElem_map, strE, List.getElem_cons_zero] at hr'
  have e : vals j 0 = .string a[j] := by
    generalize vals j 0 = u at hr'
    cases hr'; rfl
  rw [e]
  simp [List.getD_eq_getElem?_getD, hj']
theorem rep_strs {w : World} {v : Value} {fr : Bool} {a : List ByteArray} {A : Nat → Prop} {n0 : Nat} {ρ : Nat → Value} (h : RepH w A n0 ρ v (.lst fr (strs a))) : SlS w v a := by
  cases h with
  | lst h => exact repF_strs h
theorem script_H (a b : List ByteArray) : HFun Try.prog 20 [.lst false (strs a), .lst false (strs b)] (fun h st =>
    (400 < a.length ∨ 400 < b.length) ∧ h = .tup [.v (.slice none 0 0), .v (.int .i64 4)] ∧ st = [] ∨
    a.length ≤ 400 ∧ b.length ≤ 400 ∧ h = .tup [.own 0, .v (.int .i64 0)] ∧ st = [(0, .sl true 29 2 (edits (script a b)))]) := by
  intro w vs R
  obtain ⟨v1, v2, rfl⟩ : ∃ v1 v2, vs = [v1, v2] := by
    match vs, R.1 with
    | [x, y], _ => exact ⟨x, y, rfl⟩
  refine Ret.mono (script_calls w v1 v2 a b (rep_strs (R.2 0 (by simp) (by simp))) (rep_strs (R.2 1 (by simp) (by simp)))) fun v w' ⟨B, h⟩ => ⟨B, ?_⟩
  rcases h with ⟨h1, rfl⟩ | ⟨h1, h2, x, rfl, hE⟩
  · refine ⟨_, _, fun i r hi => ?_, .inl ⟨h1, rfl, rfl⟩, fun _ => undef, fun _ => [], ⟨fun id r hr => by simp [rlk] at hr, fun i j r s b hne hi => by simp [rlk] at hi, fun k x hk => by simp [hlk] at hk, ⟨B.os, B.tape, B.output, B.size, fun b hlt _ => B.block b hlt⟩, fun b hb => ⟨hb, fun h => h⟩⟩, ?_⟩
    · simp [rlk] at hi
    · exact .tup rfl fun j p q => by
        match j, q with
        | 0, _ => exact .v _
        | 1, _ => exact .v _
  · obtain ⟨ρ, xs, G, hρ⟩ := res_own (P := Try.prog) (els := edits (script a b)) B (show Own w' w.heap.size 29 2 x (edits (script a b)).length (eCells (script a b)) by rw [edits_len]; exact hE) (fun y hy => by
      obtain ⟨r, -, rfl⟩ := List.mem_map.1 hy; rfl) (fun i k hi hk => by
      rw [edits_len] at hi
      have h1 := eCells_one (script a b) i hi
      have hk' : k < 2 := by simpa [edits, editE] using hk
      have : k = 0 ∨ k = 1 := by omega
      rcases this with rfl | rfl
      · exact ⟨_, h1.1, rfl, by simp [edits, editE]⟩
      · exact ⟨_, h1.2, rfl, by simp [edits, editE]⟩)
    refine ⟨_, _, fun i r hi => ?_, .inr ⟨h1, h2, rfl, rfl⟩, ρ, xs, G, ?_⟩
    · simp only [rlk] at hi
      split at hi
      · omega
      · cases hi
    · refine .tup rfl fun j p q => ?_
      match j, q with
      | 0, _ =>
        have hs : x.oneCell' = true := by obtain ⟨a, c, e⟩ := own_shape (base := w.heap.size) hE; rw [e]; rfl
        have := RepH.own (w := w') (A := Ctx.A (cx w (fun _ => False) (fun b => b < w.heap.size)) ρ [(0, .sl true 29 2 (edits (script a b)))]) (n0 := w.heap.size) (ρ := ρ) 0 (by rw [hρ]; exact hs)
        rw [hρ] at this
        exact this
      | 1, _ => exact .v _
def keptR : List (Nat × Nat) → Nat → Nat → List (Int × Int)
  | [], _, _ => []
  | (op, n) :: r, i, j => if op = 0 then (List.range n).map (fun (k : Nat) => (((i + k : Nat) : Int), ((j + k : Nat) : Int))) ++ keptR r (i + n) (j + n) else if op = 1 then keptR r (i + n) j else if op = 2 then keptR r i (j + n) else keptR r i j
def keptP (a b : List ByteArray) : List (Int × Int) := keptR (script a b) 0 0
abbrev rowE (l : List (Nat × Nat)) : Row := .sl true 29 2 (edits l)
abbrev rowP (l : List (Int × Int)) : Row := .sl true 43 2 (int2s l)
set_option maxHeartbeats 1000000 in
theorem kept_H (a b : List ByteArray) : HFun Try.prog 25 [.lst false (strs a), .lst false (strs b)] (fun h st =>
    (400 < a.length ∨ 400 < b.length) ∧ h = .tup [.v (.slice none 0 0), .v (.int .i64 4)] ∧ st = [] ∨
    a.length ≤ 400 ∧ b.length ≤ 400 ∧ h = .tup [.own 0, .v (.int .i64 0)] ∧ st = [(0, rowP (keptP a b))]) := by
  refine hfun (N := 72) Try.func25 rfl Try.ntmps25 Try.results25 (by simp) ?_
  (repeat first | refine qE ?_ | refine qA ?_ | refine qC ?_ | refine qB ?_ | refine qD ?_); refine qJ (fun K hK => ?_); simp (maxSteps := 2000000) (disch := omega) only [push_cast, ↓Int.cast_ofNat_Int, Nat.reduceBEq, Nat.reduceAdd, Nat.reduceLT, Nat.reduceEqDiff, reduceIte, reduceCtorEq, Nat.reduceLeDiff, Nat.reduceSub, List.reduceReplicate, Nat.reduceMul, Int.reduceToNat, Nat.reducePow]; refine hK _ ?_; clear hK K
  (repeat first | refine qE ?_ | refine qA ?_ | refine qC ?_ | refine qB ?_ | refine qD ?_); refine qJ (fun K hK => ?_); simp (maxSteps := 2000000) (disch := omega) only [push_cast, ↓Int.cast_ofNat_Int, Nat.reduceBEq, Nat.reduceAdd, Nat.reduceLT, Nat.reduceEqDiff, reduceIte, reduceCtorEq, Nat.reduceLeDiff, Nat.reduceSub, List.reduceReplicate, Nat.reduceMul, Int.reduceToNat, Nat.reducePow]
  refine hat 136 cl20 (script_H a b) (.cons (lendL (strs_old _)) (.cons (lendL (strs_old _)) .nil)) ?_
  rintro _ _ (⟨hlim, rfl, rfl⟩ | ⟨h1, h2, rfl, rfl⟩)
  · with_reducible refine hstop ?_; simp (maxSteps := 2000000) (disch := omega) only [push_cast, ↓Int.cast_ofNat_Int, Nat.reduceBEq, Nat.reduceAdd, Nat.reduceLT, Nat.reduceEqDiff, reduceIte, reduceCtorEq, Nat.reduceLeDiff, Nat.reduceSub, List.reduceReplicate, Nat.reduceMul, Int.reduceToNat, Nat.reducePow]
    refine hK _ ?_; clear hK K
    (repeat first | refine qE ?_ | refine qA ?_ | refine qC ?_ | refine qB ?_ | refine qD ?_); refine qJ (fun K hK => ?_); simp (maxSteps := 2000000) (disch := omega) only [push_cast, ↓Int.cast_ofNat_Int, Nat.reduceBEq, Nat.reduceAdd, Nat.reduceLT, Nat.reduceEqDiff, reduceIte, reduceCtorEq, Nat.reduceLeDiff, Nat.reduceSub, List.reduceReplicate, Nat.reduceMul, Int.reduceToNat, Nat.reducePow]; refine hK _ ?_; clear hK K
    (repeat first | refine qE ?_ | refine qA ?_ | refine qC ?_ | refine qB ?_ | refine qD ?_)
    refine zD rfl ?_
    (repeat first | refine qE ?_ | refine qA ?_ | refine qC ?_ | refine qB ?_ | refine qD ?_); refine qJ (fun K hK => ?_); simp (maxSteps := 2000000) (disch := omega) only [push_cast, ↓Int.cast_ofNat_Int, Nat.reduceBEq, Nat.reduceAdd, Nat.reduceLT, Nat.reduceEqDiff, reduceIte, reduceCtorEq, Nat.reduceLeDiff, Nat.reduceSub, List.reduceReplicate, Nat.reduceMul, Int.reduceToNat, Nat.reducePow]; refine hK _ ?_; clear hK K
    (repeat first | refine qK ?_ | refine qG ?_ | refine qH ?_ | refine qF rfl ?_ | refine qL ?_ | refine qB ?_ | refine qE ?_ | refine qA ?_ | refine qC ?_ | refine qT ?_ | refine qW ?_)
    simp only [zA, zM, zH, zE, zK, zJ, qS, qM, Nat.reduceEqDiff, reduceIte, reduceCtorEq]
    exact hres_vv (.inl ⟨hlim, rfl, rfl⟩)
  · with_reducible refine hstop ?_; simp (maxSteps := 2000000) (disch := omega) only [push_cast, ↓Int.cast_ofNat_Int, Nat.reduceBEq, Nat.reduceAdd, Nat.reduceLT, Nat.reduceEqDiff, reduceIte, reduceCtorEq, Nat.reduceLeDiff, Nat.reduceSub, List.reduceReplicate, Nat.reduceMul, Int.reduceToNat, Nat.reducePow]
    refine hK _ ?_; clear hK K
    (repeat first | refine qE ?_ | refine qA ?_ | refine qC ?_ | refine qB ?_ | refine qD ?_); refine qJ (fun K hK => ?_); simp (maxSteps := 2000000) (disch := omega) only [push_cast, ↓Int.cast_ofNat_Int, Nat.reduceBEq, Nat.reduceAdd, Nat.reduceLT, Nat.reduceEqDiff, reduceIte, reduceCtorEq, Nat.reduceLeDiff, Nat.reduceSub, List.reduceReplicate, Nat.reduceMul, Int.reduceToNat, Nat.reducePow]; refine hK _ ?_; clear hK K
    (repeat first | refine qE ?_ | refine qA ?_ | refine qC ?_ | refine qB ?_ | refine qD ?_)
    refine zC rfl ?_
    (repeat first | refine qE ?_ | refine qA ?_ | refine qC ?_ | refine qB ?_ | refine qD ?_); refine qJ (fun K hK => ?_); simp (maxSteps := 2000000) (disch := omega) only [push_cast, ↓Int.cast_ofNat_Int, Nat.reduceBEq, Nat.reduceAdd, Nat.reduceLT, Nat.reduceEqDiff, reduceIte, reduceCtorEq, Nat.reduceLeDiff, Nat.reduceSub, List.reduceReplicate, Nat.reduceMul, Int.reduceToNat, Nat.reducePow]; refine hK _ ?_; clear hK K
    (repeat first | refine qE ?_ | refine qA ?_ | refine qC ?_ | refine qB ?_ | refine qD ?_); refine qJ (fun K hK => ?_); simp (maxSteps := 2000000) (disch := omega) only [push_cast, ↓Int.cast_ofNat_Int, Nat.reduceBEq, Nat.reduceAdd, Nat.reduceLT, Nat.reduceEqDiff, reduceIte, reduceCtorEq, Nat.reduceLeDiff, Nat.reduceSub, List.reduceReplicate, Nat.reduceMul, Int.reduceToNat, Nat.reducePow]; refine hK _ ?_; clear hK K
    (repeat first | refine qE ?_ | refine qA ?_ | refine qC ?_ | refine qB ?_ | refine qD ?_); refine qJ (fun K hK => ?_); simp (maxSteps := 2000000) (disch := omega) only [push_cast, ↓Int.cast_ofNat_Int, Nat.reduceBEq, Nat.reduceAdd, Nat.reduceLT, Nat.reduceEqDiff, reduceIte, reduceCtorEq, Nat.reduceLeDiff, Nat.reduceSub, List.reduceReplicate, Nat.reduceMul, Int.reduceToNat, Nat.reducePow, edits_len]; refine hK _ ?_; clear hK K
    obtain ⟨hlen, hcnt⟩ := script_len a b
    have hd : keptP a b = [] ++ keptR ((script a b).drop 0) 0 0 := rfl
    generalize script a b = l at *
    have hcnt : ∀ k (hk : k < l.length), l[k].2 ≤ 800 := fun k hk => by have := hcnt k hk; omega
    have hlen : l.length ≤ 800 := by omega
    generalize keptP a b = P at *
    (repeat first | refine qE ?_ | refine qA ?_ | refine qC ?_ | refine qB ?_ | refine qD ?_)
    refine HW_loop (fun x : Nat × Nat × Nat × List (Int × Int) => ⟨[(8, .own 184), (9, .v (.int .i64 x.2.1)), (10, .v (.int .i64 x.2.2.1)), (24, .own 136), (25, .v (.int .i64 l.length)), (26, .v (.int .i64 x.1))], [(136, rowE l), (184, rowP x.2.2.2)]⟩)
      (fun x => x.1 ≤ l.length ∧ x.2.1 ≤ x.1 * 800 ∧ x.2.2.1 ≤ x.1 * 800 ∧ x.2.2.2.length ≤ x.1 * 800 ∧ P = x.2.2.2 ++ keptR (l.drop x.1) x.2.1 x.2.2.1) (fun x => l.length - x.1) [8, 9, 10, 24, 25, 26] [136, 184] (0, 0, 0, []) rfl
      ⟨Nat.zero_le _, Nat.zero_le _, Nat.zero_le _, Nat.zero_le _, hd⟩ ?_
    rintro ⟨n, i, j, out⟩ ⟨hn, hi, hj, ho, hP⟩
    simp only at hn hi hj ho hP
    (repeat first | refine qE ?_ | refine qA ?_ | refine qC ?_ | refine qB ?_ | refine qD ?_); refine qJ (fun K hK => ?_); simp (maxSteps := 2000000) (disch := omega) only [push_cast, ↓Int.cast_ofNat_Int, Nat.reduceBEq, Nat.reduceAdd, Nat.reduceLT, Nat.reduceEqDiff, reduceIte, reduceCtorEq, Nat.reduceLeDiff, Nat.reduceSub, List.reduceReplicate, Nat.reduceMul, Int.reduceToNat, Nat.reducePow]; refine hK _ ?_; clear hK K
    (repeat first | refine qE ?_ | refine qA ?_ | refine qC ?_ | refine qB ?_ | refine qD ?_)
    refine HW_cond rfl (fun hlt => ?_) (fun hge => ?_)
    · have hnl : n < l.length := by simpa using hlt
      have hc := hcnt n hnl
      rw [List.drop_eq_getElem_cons hnl] at hP
      obtain ⟨op, c, hx⟩ : ∃ op c, l[n] = (op, c) := ⟨l[n].1, l[n].2, rfl⟩
      rw [hx] at hP hc
      simp only at hc
      (repeat first | refine qE ?_ | refine qA ?_ | refine qC ?_ | refine qB ?_ | refine qD ?_); refine qJ (fun K hK => ?_); simp (maxSteps := 2000000) (disch := omega) only [push_cast, ↓Int.cast_ofNat_Int, Nat.reduceBEq, Nat.reduceAdd, Nat.reduceLT, Nat.reduceEqDiff, reduceIte, reduceCtorEq, Nat.reduceLeDiff, Nat.reduceSub, List.reduceReplicate, Nat.reduceMul, Int.reduceToNat, Nat.reducePow, edits_len, edits_get, hx]; refine hK _ ?_; clear hK K
      (repeat first | refine qE ?_ | refine qA ?_ | refine qC ?_ | refine qB ?_ | refine qD ?_); refine qJ (fun K hK => ?_); simp (maxSteps := 2000000) (disch := omega) only [push_cast, ↓Int.cast_ofNat_Int, Nat.reduceBEq, Nat.reduceAdd, Nat.reduceLT, Nat.reduceEqDiff, reduceIte, reduceCtorEq, Nat.reduceLeDiff, Nat.reduceSub, List.reduceReplicate, Nat.reduceMul, Int.reduceToNat, Nat.reducePow]; refine hK _ ?_; clear hK K
      by_cases o0 : op = 0
      · subst o0
        (repeat first | refine qE ?_ | refine qA ?_ | refine qC ?_ | refine qB ?_ | refine qD ?_); refine qJ (fun K hK => ?_); simp (maxSteps := 2000000) (disch := omega) only [push_cast, ↓Int.cast_ofNat_Int, Nat.reduceBEq, Nat.reduceAdd, Nat.reduceLT, Nat.reduceEqDiff, reduceIte, reduceCtorEq, Nat.reduceLeDiff, Nat.reduceSub, List.reduceReplicate, Nat.reduceMul, Int.reduceToNat, Nat.reducePow]; refine hK _ ?_; clear hK K
        (repeat first | refine qE ?_ | refine qA ?_ | refine qC ?_ | refine qB ?_ | refine qD ?_)
        refine zD rfl ?_
        (repeat first | refine qE ?_ | refine qA ?_ | refine qC ?_ | refine qB ?_ | refine qD ?_); refine qJ (fun K hK => ?_); simp (maxSteps := 2000000) (disch := omega) only [push_cast, ↓Int.cast_ofNat_Int, Nat.reduceBEq, Nat.reduceAdd, Nat.reduceLT, Nat.reduceEqDiff, reduceIte, reduceCtorEq, Nat.reduceLeDiff, Nat.reduceSub, List.reduceReplicate, Nat.reduceMul, Int.reduceToNat, Nat.reducePow]; refine hK _ ?_; clear hK K
        refine zB [8, 9, 10, 12, 24, 25, 26, 35, 36] [96, 136, 184] (by simp only [qZ, qR, qP, qQ, qN, qS, qM, qX, qU, Nat.reduceEqDiff, reduceIte]; exact rfl) ?_
        (repeat first | refine qE ?_ | refine qA ?_ | refine qC ?_ | refine qB ?_ | refine qD ?_)
        refine HW_loop (fun x : Nat × List (Int × Int) => ⟨[(8, .own 184), (9, .v (.int .i64 i)), (10, .v (.int .i64 j)), (12, .ptr 96 2 0 0), (24, .own 136), (25, .v (.int .i64 l.length)), (26, .v (.int .i64 n)), (35, .v (.int .i64 c)), (36, .v (.int .i64 x.1))], [(96, .bx true 29 [.v (.int .i64 (0 : Nat)), .v (.int .i64 c)]), (136, rowE l), (184, rowP x.2)]⟩)
          (fun x => x.1 ≤ c ∧ x.2 = out ++ (List.range x.1).map (fun (k : Nat) => (((i + k : Nat) : Int), ((j + k : Nat) : Int)))) (fun x => c - x.1) [8, 9, 10, 12, 24, 25, 26, 35, 36] [96, 136, 184] (0, out) rfl
          ⟨Nat.zero_le _, by simp⟩ ?_
        rintro ⟨k, out'⟩ ⟨hk, hout⟩
        simp only at hk hout
        have hol : out'.length ≤ 640000 + 800 := by rw [hout]; simp; omega
        (repeat first | refine qE ?_ | refine qA ?_ | refine qC ?_ | refine qB ?_ | refine qD ?_); refine qJ (fun K hK => ?_); simp (maxSteps := 2000000) (disch := omega) only [push_cast, ↓Int.cast_ofNat_Int, Nat.reduceBEq, Nat.reduceAdd, Nat.reduceLT, Nat.reduceEqDiff, reduceIte, reduceCtorEq, Nat.reduceLeDiff, Nat.reduceSub, List.reduceReplicate, Nat.reduceMul, Int.reduceToNat, Nat.reducePow]; refine hK _ ?_; clear hK K
        (repeat first | refine qE ?_ | refine qA ?_ | refine qC ?_ | refine qB ?_ | refine qD ?_)
        refine HW_cond rfl (fun hlt2 => ?_) (fun hge2 => ?_)
        · have hkc : k < c := by simpa using hlt2
          (repeat first | refine qE ?_ | refine qA ?_ | refine qC ?_ | refine qB ?_ | refine qD ?_); refine qJ (fun K hK => ?_); simp (maxSteps := 2000000) (disch := omega) only [push_cast, ↓Int.cast_ofNat_Int, Nat.reduceBEq, Nat.reduceAdd, Nat.reduceLT, Nat.reduceEqDiff, reduceIte, reduceCtorEq, Nat.reduceLeDiff, Nat.reduceSub, List.reduceReplicate, Nat.reduceMul, Int.reduceToNat, Nat.reducePow]; refine hK _ ?_; clear hK K
          (repeat first | refine qE ?_ | refine qA ?_ | refine qC ?_ | refine qB ?_ | refine qD ?_); refine qJ (fun K hK => ?_); simp (maxSteps := 2000000) (disch := omega) only [push_cast, ↓Int.cast_ofNat_Int, Nat.reduceBEq, Nat.reduceAdd, Nat.reduceLT, Nat.reduceEqDiff, reduceIte, reduceCtorEq, Nat.reduceLeDiff, Nat.reduceSub, List.reduceReplicate, Nat.reduceMul, Int.reduceToNat, Nat.reducePow, int2s_len, int2s_snoc]; refine hK _ ?_; clear hK K
          (repeat first | refine qE ?_ | refine qA ?_ | refine qC ?_ | refine qB ?_ | refine qD ?_); refine qJ (fun K hK => ?_); simp (maxSteps := 2000000) (disch := omega) only [push_cast, ↓Int.cast_ofNat_Int, Nat.reduceBEq, Nat.reduceAdd, Nat.reduceLT, Nat.reduceEqDiff, reduceIte, reduceCtorEq, Nat.reduceLeDiff, Nat.reduceSub, List.reduceReplicate, Nat.reduceMul, Int.reduceToNat, Nat.reducePow]; refine hK _ ?_; clear hK K
          refine qA ⟨(k + 1, out' ++ [((i : Int) + (k : Int), (j : Int) + (k : Int))]), rfl, ⟨hkc, ?_⟩, by show c - (k + 1) < c - k; omega⟩
          rw [hout, List.range_succ, List.map_append, List.append_assoc]; rfl
        · have hkc : k = c := by have : c ≤ k := by simpa using hge2
                                 omega
          subst hkc
          (repeat first | refine qK ?_ | refine qG ?_ | refine qH ?_ | refine qF rfl ?_ | refine qL ?_ | refine qB ?_ | refine qE ?_ | refine qA ?_ | refine qC ?_ | refine qT ?_ | refine qW ?_)
          (repeat first | refine qE ?_ | refine qA ?_ | refine qC ?_ | refine qB ?_ | refine qD ?_); refine qJ (fun K hK => ?_); simp (maxSteps := 2000000) (disch := omega) only [push_cast, ↓Int.cast_ofNat_Int, Nat.reduceBEq, Nat.reduceAdd, Nat.reduceLT, Nat.reduceEqDiff, reduceIte, reduceCtorEq, Nat.reduceLeDiff, Nat.reduceSub, List.reduceReplicate, Nat.reduceMul, Int.reduceToNat, Nat.reducePow]; refine hK _ ?_; clear hK K
          (repeat first | refine qE ?_ | refine qA ?_ | refine qC ?_ | refine qB ?_ | refine qD ?_); refine qJ (fun K hK => ?_); simp (maxSteps := 2000000) (disch := omega) only [push_cast, ↓Int.cast_ofNat_Int, Nat.reduceBEq, Nat.reduceAdd, Nat.reduceLT, Nat.reduceEqDiff, reduceIte, reduceCtorEq, Nat.reduceLeDiff, Nat.reduceSub, List.reduceReplicate, Nat.reduceMul, Int.reduceToNat, Nat.reducePow]; refine hK _ ?_; clear hK K
          (repeat first | refine qK ?_ | refine qG ?_ | refine qH ?_ | refine qF rfl ?_ | refine qL ?_ | refine qB ?_ | refine qE ?_ | refine qA ?_ | refine qC ?_ | refine qT ?_ | refine qW ?_)
          (repeat first | refine qE ?_ | refine qA ?_ | refine qC ?_ | refine qB ?_ | refine qD ?_); refine qJ (fun K hK => ?_); simp (maxSteps := 2000000) (disch := omega) only [push_cast, ↓Int.cast_ofNat_Int, Nat.reduceBEq, Nat.reduceAdd, Nat.reduceLT, Nat.reduceEqDiff, reduceIte, reduceCtorEq, Nat.reduceLeDiff, Nat.reduceSub, List.reduceReplicate, Nat.reduceMul, Int.reduceToNat, Nat.reducePow]; refine hK _ ?_; clear hK K
          refine qA ⟨(n + 1, i + k, j + k, out'), rfl, ⟨hnl, by show i + k ≤ (n + 1) * 800; omega, by show j + k ≤ (n + 1) * 800; omega, by show out'.length ≤ (n + 1) * 800; rw [hout]; simp; omega, ?_⟩, by show l.length - (n + 1) < l.length - n; omega⟩
          rw [hP, keptR, if_pos rfl, hout, List.append_assoc]
      · (repeat first | refine qE ?_ | refine qA ?_ | refine qC ?_ | refine qB ?_ | refine qD ?_); refine qJ (fun K hK => ?_); simp (maxSteps := 2000000) (disch := omega) only [push_cast, ↓Int.cast_ofNat_Int, Nat.reduceBEq, Nat.reduceAdd, Nat.reduceLT, Nat.reduceEqDiff, reduceIte, reduceCtorEq, Nat.reduceLeDiff, Nat.reduceSub, List.reduceReplicate, Nat.reduceMul, Int.reduceToNat, Nat.reducePow]; refine hK _ ?_; clear hK K
        (repeat first | refine qE ?_ | refine qA ?_ | refine qC ?_ | refine qB ?_ | refine qD ?_)
        refine zC rfl ?_
        by_cases o1 : op = 1
        · subst o1
          (repeat first | refine qE ?_ | refine qA ?_ | refine qC ?_ | refine qB ?_ | refine qD ?_); refine qJ (fun K hK => ?_); simp (maxSteps := 2000000) (disch := omega) only [push_cast, ↓Int.cast_ofNat_Int, Nat.reduceBEq, Nat.reduceAdd, Nat.reduceLT, Nat.reduceEqDiff, reduceIte, reduceCtorEq, Nat.reduceLeDiff, Nat.reduceSub, List.reduceReplicate, Nat.reduceMul, Int.reduceToNat, Nat.reducePow]; refine hK _ ?_; clear hK K
          (repeat first | refine qE ?_ | refine qA ?_ | refine qC ?_ | refine qB ?_ | refine qD ?_)
          refine zD rfl ?_
          (repeat first | refine qE ?_ | refine qA ?_ | refine qC ?_ | refine qB ?_ | refine qD ?_); refine qJ (fun K hK => ?_); simp (maxSteps := 2000000) (disch := omega) only [push_cast, ↓Int.cast_ofNat_Int, Nat.reduceBEq, Nat.reduceAdd, Nat.reduceLT, Nat.reduceEqDiff, reduceIte, reduceCtorEq, Nat.reduceLeDiff, Nat.reduceSub, List.reduceReplicate, Nat.reduceMul, Int.reduceToNat, Nat.reducePow]; refine hK _ ?_; clear hK K
          (repeat first | refine qK ?_ | refine qG ?_ | refine qH ?_ | refine qF rfl ?_ | refine qL ?_ | refine qB ?_ | refine qE ?_ | refine qA ?_ | refine qC ?_ | refine qT ?_ | refine qW ?_)
          (repeat first | refine qE ?_ | refine qA ?_ | refine qC ?_ | refine qB ?_ | refine qD ?_); refine qJ (fun K hK => ?_); simp (maxSteps := 2000000) (disch := omega) only [push_cast, ↓Int.cast_ofNat_Int, Nat.reduceBEq, Nat.reduceAdd, Nat.reduceLT, Nat.reduceEqDiff, reduceIte, reduceCtorEq, Nat.reduceLeDiff, Nat.reduceSub, List.reduceReplicate, Nat.reduceMul, Int.reduceToNat, Nat.reducePow]; refine hK _ ?_; clear hK K
          refine qA ⟨(n + 1, i + c, j, out), rfl, ⟨hnl, by show i + c ≤ (n + 1) * 800; omega, by show j ≤ (n + 1) * 800; omega, by show out.length ≤ (n + 1) * 800; omega, ?_⟩, by show l.length - (n + 1) < l.length - n; omega⟩
          rw [hP, keptR, if_neg (by omega), if_pos rfl]
        · (repeat first | refine qE ?_ | refine qA ?_ | refine qC ?_ | refine qB ?_ | refine qD ?_); refine qJ (fun K hK => ?_); simp (maxSteps := 2000000) (disch := omega) only [push_cast, ↓Int.cast_ofNat_Int, Nat.reduceBEq, Nat.reduceAdd, Nat.reduceLT, Nat.reduceEqDiff, reduceIte, reduceCtorEq, Nat.reduceLeDiff, Nat.reduceSub, List.reduceReplicate, Nat.reduceMul, Int.reduceToNat, Nat.reducePow]; refine hK _ ?_; clear hK K
          (repeat first | refine qE ?_ | refine qA ?_ | refine qC ?_ | refine qB ?_ | refine qD ?_)
          refine zC rfl ?_
          by_cases o2 : op = 2
          · subst o2
            (repeat first | refine qE ?_ | refine qA ?_ | refine qC ?_ | refine qB ?_ | refine qD ?_); refine qJ (fun K hK => ?_); simp (maxSteps := 2000000) (disch := omega) only [push_cast, ↓Int.cast_ofNat_Int, Nat.reduceBEq, Nat.reduceAdd, Nat.reduceLT, Nat.reduceEqDiff, reduceIte, reduceCtorEq, Nat.reduceLeDiff, Nat.reduceSub, List.reduceReplicate, Nat.reduceMul, Int.reduceToNat, Nat.reducePow]; refine hK _ ?_; clear hK K
            (repeat first | refine qE ?_ | refine qA ?_ | refine qC ?_ | refine qB ?_ | refine qD ?_)
            refine zD rfl ?_
            (repeat first | refine qE ?_ | refine qA ?_ | refine qC ?_ | refine qB ?_ | refine qD ?_); refine qJ (fun K hK => ?_); simp (maxSteps := 2000000) (disch := omega) only [push_cast, ↓Int.cast_ofNat_Int, Nat.reduceBEq, Nat.reduceAdd, Nat.reduceLT, Nat.reduceEqDiff, reduceIte, reduceCtorEq, Nat.reduceLeDiff, Nat.reduceSub, List.reduceReplicate, Nat.reduceMul, Int.reduceToNat, Nat.reducePow]; refine hK _ ?_; clear hK K
            (repeat first | refine qK ?_ | refine qG ?_ | refine qH ?_ | refine qF rfl ?_ | refine qL ?_ | refine qB ?_ | refine qE ?_ | refine qA ?_ | refine qC ?_ | refine qT ?_ | refine qW ?_)
            (repeat first | refine qE ?_ | refine qA ?_ | refine qC ?_ | refine qB ?_ | refine qD ?_); refine qJ (fun K hK => ?_); simp (maxSteps := 2000000) (disch := omega) only [push_cast, ↓Int.cast_ofNat_Int, Nat.reduceBEq, Nat.reduceAdd, Nat.reduceLT, Nat.reduceEqDiff, reduceIte, reduceCtorEq, Nat.reduceLeDiff, Nat.reduceSub, List.reduceReplicate, Nat.reduceMul, Int.reduceToNat, Nat.reducePow]; refine hK _ ?_; clear hK K
            refine qA ⟨(n + 1, i, j + c, out), rfl, ⟨hnl, by show i ≤ (n + 1) * 800; omega, by show j + c ≤ (n + 1) * 800; omega, by show out.length ≤ (n + 1) * 800; omega, ?_⟩, by show l.length - (n + 1) < l.length - n; omega⟩
            rw [hP, keptR, if_neg (by omega), if_neg (by omega), if_pos rfl]
          · (repeat first | refine qE ?_ | refine qA ?_ | refine qC ?_ | refine qB ?_ | refine qD ?_); refine qJ (fun K hK => ?_); simp (maxSteps := 2000000) (disch := omega) only [push_cast, ↓Int.cast_ofNat_Int, Nat.reduceBEq, Nat.reduceAdd, Nat.reduceLT, Nat.reduceEqDiff, reduceIte, reduceCtorEq, Nat.reduceLeDiff, Nat.reduceSub, List.reduceReplicate, Nat.reduceMul, Int.reduceToNat, Nat.reducePow]; refine hK _ ?_; clear hK K
            (repeat first | refine qE ?_ | refine qA ?_ | refine qC ?_ | refine qB ?_ | refine qD ?_)
            refine zC rfl ?_
            (repeat first | refine qK ?_ | refine qG ?_ | refine qH ?_ | refine qF rfl ?_ | refine qL ?_ | refine qB ?_ | refine qE ?_ | refine qA ?_ | refine qC ?_ | refine qT ?_ | refine qW ?_)
            (repeat first | refine qE ?_ | refine qA ?_ | refine qC ?_ | refine qB ?_ | refine qD ?_); refine qJ (fun K hK => ?_); simp (maxSteps := 2000000) (disch := omega) only [push_cast, ↓Int.cast_ofNat_Int, Nat.reduceBEq, Nat.reduceAdd, Nat.reduceLT, Nat.reduceEqDiff, reduceIte, reduceCtorEq, Nat.reduceLeDiff, Nat.reduceSub, List.reduceReplicate, Nat.reduceMul, Int.reduceToNat, Nat.reducePow]; refine hK _ ?_; clear hK K
            refine qA ⟨(n + 1, i, j, out), rfl, ⟨hnl, by show i ≤ (n + 1) * 800; omega, by show j ≤ (n + 1) * 800; omega, by show out.length ≤ (n + 1) * 800; omega, ?_⟩, by show l.length - (n + 1) < l.length - n; omega⟩
            rw [hP, keptR, if_neg o0, if_neg o1, if_neg o2]
    · have hge' : n = l.length := by have : l.length ≤ n := by simpa using hge
                                     omega
      subst hge'
      (repeat first | refine qK ?_ | refine qG ?_ | refine qH ?_ | refine qF rfl ?_ | refine qL ?_ | refine qB ?_ | refine qE ?_ | refine qA ?_ | refine qC ?_ | refine qT ?_ | refine qW ?_)
      (repeat first | refine qE ?_ | refine qA ?_ | refine qC ?_ | refine qB ?_ | refine qD ?_); refine qJ (fun K hK => ?_); simp (maxSteps := 2000000) (disch := omega) only [push_cast, ↓Int.cast_ofNat_Int, Nat.reduceBEq, Nat.reduceAdd, Nat.reduceLT, Nat.reduceEqDiff, reduceIte, reduceCtorEq, Nat.reduceLeDiff, Nat.reduceSub, List.reduceReplicate, Nat.reduceMul, Int.reduceToNat, Nat.reducePow]; refine hK _ ?_; clear hK K
      (repeat first | refine qK ?_ | refine qG ?_ | refine qH ?_ | refine qF rfl ?_ | refine qL ?_ | refine qB ?_ | refine qE ?_ | refine qA ?_ | refine qC ?_ | refine qT ?_ | refine qW ?_)
      simp only [zA, zM, zH, zE, zK, zJ, qS, qM, Nat.reduceEqDiff, reduceIte, reduceCtorEq]
      refine hres_ov rfl (int2s_fresh _) (.inr ⟨h1, h2, rfl, ?_⟩)
      rw [hP, List.drop_eq_nil_of_le (Nat.le_refl _), keptR, List.append_nil]
end Go.Proofs.Ytlfenddhppoflaa
