/-
  Recon: Items, and what the laws call: walked.
-/
import Derived.Test.YtdfjeokjmigkaaaGreatRcG
set_option linter.unusedSimpArgs false
set_option linter.unusedVariables false
set_option maxRecDepth 20000
namespace Go.Rc
open Go Go.Eng Go.RowKit Go.Tr Go.Dk
theorem itl_fresh (L : LN) : ∀ x ∈ itl L, ∀ f ∈ x, FreshF f := fun x hx f hf => by
 obtain ⟨h, -, rfl⟩ := List.mem_map.1 hx
 simp only [List.mem_cons, List.not_mem_nil, or_false] at hf
 rcases hf with rfl | rfl
 ·exact .v _
 ·exact .v _
def mgF (_ _ _ : Int × ByteArray) : Bool := false
def itemsQ (A H S : List Ent) : LN := belowG mgF A H S 1048577 { data := #[] }
theorem tb_check {t : List Ent} (h : checkS t = 0) (hs : ∀ e ∈ t, e.1.size ≤ 1048576) : TB t := ⟨okR_rise (checkS_ok h).2, by have := (checkS_ok h).1; omega, hs⟩
theorem tb_nil : TB [] := ⟨List.Pairwise.nil, by simp, fun e he => by cases he⟩
abbrev rcA : ByteArray := { data := #[97] }
abbrev rcHi : ByteArray := { data := #[104, 105] }
abbrev rcT : List Ent := [(rcA, 2, rcHi)]
theorem tb_rcT : TB rcT := ⟨by simp [rise], by simp, fun e he => by simp at he; subst he; decide⟩
theorem rc_awake (k : Nat) : belowG mgF [] rcT [] (k + 1) { data := #[] } = [(rcA, 2)] := by
 rw [belowG]
 have h1 : (namesG { data := #[] } ([] ++ rcT ++ [])).map (fun e => e.1) = [rcA] := by decide +kernel
 rw [h1, List.flatMap_cons, List.flatMap_nil, List.append_nil]
 have h2 : subE rcT rcA = rcT := by decide +kernel
 have h3 : subE ([] : List Ent) rcA = [] := rfl
 have h4 : getN rcT rcA = (2, rcHi) := by decide +kernel
 unfold weighG
 rw [h2, h3, h4, if_neg (by simp), if_neg (by simp), if_neg (by simp), if_pos rfl]
theorem itemsQ_awake : itemsQ [] rcT [] = [(rcA, 2)] := rc_awake 1048576
end Go.Rc
namespace Go.Proofs.YtdfjeokjmigkaaaGreat
open Go Go.Eng Go.RowKit Go.Tr Go.Dk Go.Rc
theorem below_all {mg : (Int × ByteArray) → (Int × ByteArray) → (Int × ByteArray) → Bool} {A H S : List Ent} (hA : TB A) (hH : TB H) (hS : TB S) (hm : H = S ∨ H = A ∨ S = A) :
  ∀ (k : Nat) (top : ByteArray), top.size ≤ 1048576 → (∀ e ∈ A ++ H ++ S, e.1.size < top.size + k) → ∀ out : LN, out.length + (belowG mg A H S k top).length ≤ 1000000 →
   HFunS Tryz.prog 28 [.ptr 0 4 0 0, .v (.string top)] (wgS A H S out) (fun h st => h = .tup [] ∧ st = wgS A H S (out ++ belowG mg A H S k top)) := by
 have sz : ∀ e ∈ A ++ H ++ S, e.1.size ≤ 1048576 := fun e he => by
  rcases List.mem_append.1 he with he | he
  ·rcases List.mem_append.1 he with he | he
   ·exact hA.sz e he
   ·exact hH.sz e he
  ·exact hS.sz e he
 have nm : ∀ top : ByteArray, ∀ p ∈ (namesG top (A ++ H ++ S)).map (fun e => e.1), top.size < p.size ∧ p.size ≤ 1048576 := fun top p hp => by
  obtain ⟨q, hq, rfl⟩ := List.mem_map.1 hp
  rcases names_mem (A ++ H ++ S) [] hq with h0 | ⟨e, he, hn⟩
  ·cases h0
  ·have h1 := name_size hn
   have h2 := sz e he
   exact ⟨h1.1, by omega⟩
 intro k
 induction k with
 | zero =>
  intro top htop hk out hout
  have hn : namesG top (A ++ H ++ S) = [] := names_none fun e he => by have := hk e he; omega
  have hb : belowG mg A H S 1 top = belowG mg A H S 0 top := by rw [belowG, belowG, hn]; rfl
  rw [← hb] at hout ⊢
  exact below_step hA hH hS 0 top htop (fun p hp => by rw [hn] at hp; cases hp) out hout
 | succ k ih =>
  intro top htop hk out hout
  refine below_step hA hH hS k top htop (fun p hp o ho => ?_) out hout
  have h1 := nm top p hp
  exact weigh_step hA hH hS hm k p h1.2 (fun o2 h2 => ih p h1.2 (fun e he => by have := hk e he; omega) o2 h2) o ho
set_option maxHeartbeats 1000000 in
theorem items_H {A H S : List Ent} (hA : TB A) (hH : TB H) (hS : TB S) (hm : H = S ∨ H = A ∨ S = A) :
  HFun Tryz.prog 12 [.lst false (ents A), .lst false (ents H), .lst false (ents S)] (fun h st => h = .own 0 ∧ st = [(0, .sl true 31 2 (itl (itemsQ A H S)))]) := by
 refine hfun (N := 15) Tryz.func12 rfl Tryz.ntmps12 Tryz.results12 (by simp) ?_
 have hb : (itemsQ A H S).length ≤ 3000 := by
  have h1 := below_bound (mg := mgF) A H S 1048577 { data := #[] }
  have := hA.len
  have := hH.len
  have := hS.len
  rw [itemsQ]; omega
 have hz : ∀ e ∈ A ++ H ++ S, e.1.size < ({ data := #[] } : ByteArray).size + 1048577 := fun e he => by
  have h0 : ({ data := #[] } : ByteArray).size = 0 := rfl
  have : e.1.size ≤ 1048576 := by
   rcases List.mem_append.1 he with he | he
   ·rcases List.mem_append.1 he with he | he
    ·exact hA.sz e he
    ·exact hH.sz e he
   ·exact hS.sz e he
  omega
 have cb := below_all (mg := mgF) hA hH hS hm 1048577 { data := #[] } (by decide) hz [] (by rw [← itemsQ, List.length_nil]; omega)
 rw [← itemsQ, List.nil_append] at cb
 (repeat first | refine zE ?_ | refine zA ?_ | refine zC ?_ | refine zB ?_ | refine zD ?_); refine zJ (fun K hK => ?_); simp (maxSteps := 2000000) (disch := omega) only [push_cast, ↓Int.cast_ofNat_Int, Nat.reduceBEq, Nat.reduceAdd, Nat.reduceLT, Nat.reduceEqDiff, reduceIte, reduceCtorEq, Nat.reduceLeDiff, Nat.reduceSub, List.reduceReplicate, Nat.reduceMul, Int.reduceToNat, Int.toNat_natCast, Nat.reducePow, reduceIte]; refine hK _ ?_; clear hK K
 (repeat first | refine zE ?_ | refine zA ?_ | refine zC ?_ | refine zB ?_ | refine zD ?_); refine zJ (fun K hK => ?_); simp (maxSteps := 2000000) (disch := omega) only [push_cast, ↓Int.cast_ofNat_Int, Nat.reduceBEq, Nat.reduceAdd, Nat.reduceLT, Nat.reduceEqDiff, reduceIte, reduceCtorEq, Nat.reduceLeDiff, Nat.reduceSub, List.reduceReplicate, Nat.reduceMul, Int.reduceToNat, Int.toNat_natCast, Nat.reducePow, reduceIte]; refine hK _ ?_; clear hK K
 refine HW_ownB 56 3 9000 31 2 (by decide) rfl rfl (by simp only [push_cast, List.map_cons, List.map_nil, List.set_cons_succ, List.set_cons_zero, Nat.reduceEqDiff, reduceIte, Nat.reduceBEq, cond_false, cond_true]; exact rfl) ?_
 (repeat first | refine zE ?_ | refine zA ?_ | refine zC ?_ | refine zB ?_ | refine zD ?_); refine zJ (fun K hK => ?_); simp (maxSteps := 2000000) (disch := omega) only [push_cast, ↓Int.cast_ofNat_Int, Nat.reduceBEq, Nat.reduceAdd, Nat.reduceLT, Nat.reduceEqDiff, reduceIte, reduceCtorEq, Nat.reduceLeDiff, Nat.reduceSub, List.reduceReplicate, Nat.reduceMul, Int.reduceToNat, Int.toNat_natCast, Nat.reducePow, reduceIte]
 refine hatS 96 [56, 9000] cl28 (cb) rfl (by decide) (by decide) (by simp only [push_cast, pos_nil, yF, Option.getD_some, Bool.or_true, Bool.or_false, Bool.and_true, Bool.and_false, Option.map_some, Option.map_none, Nat.zero_add, Nat.reduceBEq, Nat.reduceAdd, Nat.reduceLT, Nat.reduceEqDiff, reduceIte, reduceCtorEq, Nat.reduceLeDiff, Nat.reduceSub, List.reduceReplicate, Nat.reduceMul, Int.reduceToNat, Int.toNat_natCast, Nat.reducePow, reduceIte]; try rfl) (by simp only [push_cast, pos_nil, yF, Option.getD_some, Bool.or_true, Bool.or_false, Bool.and_true, Bool.and_false, Option.map_some, Option.map_none, Nat.zero_add, Nat.reduceBEq, Nat.reduceAdd, Nat.reduceLT, Nat.reduceEqDiff, reduceIte, reduceCtorEq, Nat.reduceLeDiff, Nat.reduceSub, List.reduceReplicate, Nat.reduceMul, Int.reduceToNat, Int.toNat_natCast, Nat.reducePow, reduceIte]; try rfl) ?_
 rintro _ _ ⟨rfl, rfl⟩
 refine hstop ?_; simp (maxSteps := 2000000) (disch := omega) only [push_cast, ↓Int.cast_ofNat_Int, Nat.reduceBEq, Nat.reduceAdd, Nat.reduceLT, Nat.reduceEqDiff, reduceIte, reduceCtorEq, Nat.reduceLeDiff, Nat.reduceSub, List.reduceReplicate, Nat.reduceMul, Int.reduceToNat, Int.toNat_natCast, Nat.reducePow, reduceIte, Option.getD_some, Bool.or_true, Bool.or_false, Bool.and_true, Bool.and_false, Nat.zero_add, pos_nil, yF, Option.map_some, Option.map_none]
 refine hK _ ?_; clear hK K
 (repeat first | refine zE ?_ | refine zA ?_ | refine zC ?_ | refine zB ?_ | refine zD ?_); refine zJ (fun K hK => ?_); simp (maxSteps := 2000000) (disch := omega) only [push_cast, ↓Int.cast_ofNat_Int, Nat.reduceBEq, Nat.reduceAdd, Nat.reduceLT, Nat.reduceEqDiff, reduceIte, reduceCtorEq, Nat.reduceLeDiff, Nat.reduceSub, List.reduceReplicate, Nat.reduceMul, Int.reduceToNat, Int.toNat_natCast, Nat.reducePow, reduceIte]; refine hK _ ?_; clear hK K
 (repeat first | refine zK ?_ | refine zG ?_ | refine zH ?_ | refine zF rfl ?_ | refine zL ?_ | refine zB ?_ | refine zE ?_ | refine zA ?_ | refine zC ?_ | refine zT ?_ | refine zW ?_)
 simp only [yA, yM, yH, yE, resH_cell, resC_go, yK, yJ, zS, zM, Nat.reduceEqDiff, reduceIte, reduceCtorEq]
 exact hres_o rfl (itl_fresh _) ⟨rfl, rfl⟩
theorem only_H (L : LN) (a b : Int) (hl : L.length ≤ 1000000) (h : ∀ x ∈ L, x.2 = a) : HFun Tryz.prog 21 [.lst false (itl L), .v (.int .i64 a), .v (.int .i64 b)] (fun h st => h = .v (.bool true)) := by
 refine hfun (N := 30) Tryz.func21 rfl Tryz.ntmps21 Tryz.results21 (by simp) ?_
 (repeat first | refine zE ?_ | refine zA ?_ | refine zC ?_ | refine zB ?_ | refine zD ?_); refine zJ (fun K hK => ?_); simp (maxSteps := 2000000) (disch := omega) only [push_cast, ↓Int.cast_ofNat_Int, Nat.reduceBEq, Nat.reduceAdd, Nat.reduceLT, Nat.reduceEqDiff, reduceIte, reduceCtorEq, Nat.reduceLeDiff, Nat.reduceSub, List.reduceReplicate, Nat.reduceMul, Int.reduceToNat, Int.toNat_natCast, Nat.reducePow, reduceIte]; refine hK _ ?_; clear hK K
 (repeat first | refine zE ?_ | refine zA ?_ | refine zC ?_ | refine zB ?_ | refine zD ?_); refine zJ (fun K hK => ?_); simp (maxSteps := 2000000) (disch := omega) only [push_cast, ↓Int.cast_ofNat_Int, Nat.reduceBEq, Nat.reduceAdd, Nat.reduceLT, Nat.reduceEqDiff, reduceIte, reduceCtorEq, Nat.reduceLeDiff, Nat.reduceSub, List.reduceReplicate, Nat.reduceMul, Int.reduceToNat, Int.toNat_natCast, Nat.reducePow, reduceIte]; refine hK _ ?_; clear hK K
 (repeat first | refine zE ?_ | refine zA ?_ | refine zC ?_ | refine zB ?_ | refine zD ?_)
 refine HW_loop (fun i : Nat => ⟨[(0, .lst false (itl L)), (1, .v (.int .i64 a)), (2, .v (.int .i64 b)), (7, .v (.int .i64 (i : Int)))], []⟩) (fun i => i ≤ L.length) (fun i => L.length - i) [0, 1, 2, 7] [] 0 (by simp only [zZ, zR, zP, zQ, zN, zS, zM, zX, zU, Nat.reduceEqDiff, reduceIte]; try rfl) (Nat.zero_le _) ?_
 intro i hi
 by_cases h1 : i < L.length
 ·have hx := h _ (List.getElem_mem h1)
  have hg : (itl L).getD i [] = [FV.v (.string L[i].1), .v (.int .i64 a)] := by rw [itl_get h1, hx]
  (repeat first | refine zE ?_ | refine zA ?_ | refine zC ?_ | refine zB ?_ | refine zD ?_); refine zJ (fun K hK => ?_); simp (maxSteps := 2000000) (disch := omega) only [push_cast, ↓Int.cast_ofNat_Int, Nat.reduceBEq, Nat.reduceAdd, Nat.reduceLT, Nat.reduceEqDiff, reduceIte, reduceCtorEq, Nat.reduceLeDiff, Nat.reduceSub, List.reduceReplicate, Nat.reduceMul, Int.reduceToNat, Int.toNat_natCast, Nat.reducePow, reduceIte, itl_len]; refine hK _ ?_; clear hK K
  (repeat first | refine zE ?_ | refine zA ?_ | refine zC ?_ | refine zB ?_ | refine zD ?_)
  refine yD rfl ?_
  (repeat first | refine zK ?_ | refine zG ?_ | refine zH ?_ | refine zF rfl ?_ | refine zL ?_ | refine zB ?_ | refine zE ?_ | refine zA ?_ | refine zC ?_ | refine zT ?_ | refine zW ?_)
  (repeat first | refine zE ?_ | refine zA ?_ | refine zC ?_ | refine zB ?_ | refine zD ?_); refine zJ (fun K hK => ?_); simp (maxSteps := 2000000) (disch := omega) only [push_cast, ↓Int.cast_ofNat_Int, Nat.reduceBEq, Nat.reduceAdd, Nat.reduceLT, Nat.reduceEqDiff, reduceIte, reduceCtorEq, Nat.reduceLeDiff, Nat.reduceSub, List.reduceReplicate, Nat.reduceMul, Int.reduceToNat, Int.toNat_natCast, Nat.reducePow, reduceIte, itl_len, itl_wid, hg]; (repeat refine ⟨by first | omega | decide | ((repeat' apply And.intro) <;> first | omega | decide), ?_⟩); refine hK _ ?_; clear hK K
  (repeat first | refine zE ?_ | refine zA ?_ | refine zC ?_ | refine zB ?_ | refine zD ?_)
  refine yC rfl ?_
  (repeat first | refine zK ?_ | refine zG ?_ | refine zH ?_ | refine zF rfl ?_ | refine zL ?_ | refine zB ?_ | refine zE ?_ | refine zA ?_ | refine zC ?_ | refine zT ?_ | refine zW ?_)
  (repeat first | refine zE ?_ | refine zA ?_ | refine zC ?_ | refine zB ?_ | refine zD ?_); refine zJ (fun K hK => ?_); simp (maxSteps := 2000000) (disch := omega) only [push_cast, ↓Int.cast_ofNat_Int, Nat.reduceBEq, Nat.reduceAdd, Nat.reduceLT, Nat.reduceEqDiff, reduceIte, reduceCtorEq, Nat.reduceLeDiff, Nat.reduceSub, List.reduceReplicate, Nat.reduceMul, Int.reduceToNat, Int.toNat_natCast, Nat.reducePow, reduceIte]; refine hK _ ?_; clear hK K
  (repeat first | refine zK ?_ | refine zG ?_ | refine zH ?_ | refine zF rfl ?_ | refine zL ?_ | refine zB ?_ | refine zE ?_ | refine zA ?_ | refine zC ?_ | refine zT ?_ | refine zW ?_)
  exact ⟨i + 1, by simp only [zZ, zR, zP, zQ, zN, zS, zM, zX, zU, Nat.reduceEqDiff, reduceIte]; rfl, h1, by omega⟩
 ·have hi2 : i = L.length := by omega
  subst hi2
  (repeat first | refine zE ?_ | refine zA ?_ | refine zC ?_ | refine zB ?_ | refine zD ?_); refine zJ (fun K hK => ?_); simp (maxSteps := 2000000) (disch := omega) only [push_cast, ↓Int.cast_ofNat_Int, Nat.reduceBEq, Nat.reduceAdd, Nat.reduceLT, Nat.reduceEqDiff, reduceIte, reduceCtorEq, Nat.reduceLeDiff, Nat.reduceSub, List.reduceReplicate, Nat.reduceMul, Int.reduceToNat, Int.toNat_natCast, Nat.reducePow, reduceIte, itl_len]; refine hK _ ?_; clear hK K
  (repeat first | refine zE ?_ | refine zA ?_ | refine zC ?_ | refine zB ?_ | refine zD ?_)
  refine yC rfl ?_
  (repeat first | refine zK ?_ | refine zG ?_ | refine zH ?_ | refine zF rfl ?_ | refine zL ?_ | refine zB ?_ | refine zE ?_ | refine zA ?_ | refine zC ?_ | refine zT ?_ | refine zW ?_)
  (repeat first | refine zE ?_ | refine zA ?_ | refine zC ?_ | refine zB ?_ | refine zD ?_); refine zJ (fun K hK => ?_); simp (maxSteps := 2000000) (disch := omega) only [push_cast, ↓Int.cast_ofNat_Int, Nat.reduceBEq, Nat.reduceAdd, Nat.reduceLT, Nat.reduceEqDiff, reduceIte, reduceCtorEq, Nat.reduceLeDiff, Nat.reduceSub, List.reduceReplicate, Nat.reduceMul, Int.reduceToNat, Int.toNat_natCast, Nat.reducePow, reduceIte]; refine hK _ ?_; clear hK K
  (repeat first | refine zK ?_ | refine zG ?_ | refine zH ?_ | refine zF rfl ?_ | refine zL ?_ | refine zB ?_ | refine zE ?_ | refine zA ?_ | refine zC ?_ | refine zT ?_ | refine zW ?_)
  simp only [yA, yM, yH, yE, resH_cell, resC_go, yK, yJ, zS, zM, Nat.reduceEqDiff, reduceIte, reduceCtorEq]
  exact hres_v rfl
theorem st31 : Tryz.prog.stoodInHeld 31 = false := by kernel_rfl
theorem eqItem (p q : ByteArray) (x y : Int) : EqR Tryz.prog 31 [.string p, .int .i64 x].toArray [.string q, .int .i64 y].toArray (decide (p = q ∧ x = y)) := by
 refine ⟨by kernel_rfl, fun w => ?_⟩
 unfold Op.equal Op.maxDepth Op.equalIn
 simp [run_underlying Tryz.underlying31, st31, i3, i9, part, run_isAgg_scalar kt3, run_isAgg_scalar kt9, eqInt, eqStr, Sem.run_bind]
 have hr : List.range' 0 2 = [0, 1] := rfl
 try rw [hr]
 try simp [run_isAgg_scalar kt3, run_isAgg_scalar kt9, eqInt, eqStr, Sem.run_bind]
 by_cases h1 : p = q <;> by_cases h2 : x = y <;> simp [h1, h2]
theorem trees_H (a b c : List Ent) (ha : a.length ≤ 1048576) (hb : b.length ≤ 1048576) (hc : c.length ≤ 1048576) (sa : ∀ e ∈ a, e.1.size ≤ 1048576) (sb : ∀ e ∈ b, e.1.size ≤ 1048576) (sc : ∀ e ∈ c, e.1.size ≤ 1048576) :
  HFun Tryz.prog 10 [.lst false (ents a), .lst false (ents b), .lst false (ents c)] (fun h st => h = .v (.bool (decide (checkS a = 0) && (decide (checkS b = 0) && decide (checkS c = 0))))) := by
 refine hfun (N := 20) Tryz.func10 rfl Tryz.ntmps10 Tryz.results10 (by simp) ?_
 have ca := rcheck_H a (by omega) sa
 have cb := rcheck_H b (by omega) sb
 have cc := rcheck_H c (by omega) sc
 (repeat first | refine zE ?_ | refine zA ?_ | refine zC ?_ | refine zB ?_ | refine zD ?_); refine zJ (fun K hK => ?_); simp (maxSteps := 2000000) (disch := omega) only [push_cast, ↓Int.cast_ofNat_Int, Nat.reduceBEq, Nat.reduceAdd, Nat.reduceLT, Nat.reduceEqDiff, reduceIte, reduceCtorEq, Nat.reduceLeDiff, Nat.reduceSub, List.reduceReplicate, Nat.reduceMul, Int.reduceToNat, Int.toNat_natCast, Nat.reducePow, reduceIte]; refine hK _ ?_; clear hK K
 cases d1 : decide (checkS a = 0) with
 | false =>
  (repeat first | refine zE ?_ | refine zA ?_ | refine zC ?_ | refine zB ?_ | refine zD ?_); refine zJ (fun K hK => ?_); simp (maxSteps := 2000000) (disch := omega) only [push_cast, ↓Int.cast_ofNat_Int, Nat.reduceBEq, Nat.reduceAdd, Nat.reduceLT, Nat.reduceEqDiff, reduceIte, reduceCtorEq, Nat.reduceLeDiff, Nat.reduceSub, List.reduceReplicate, Nat.reduceMul, Int.reduceToNat, Int.toNat_natCast, Nat.reducePow, reduceIte]
  refine hatv cl27 ca (.cons (lendL (yT _)) .nil) ?_
  with_reducible refine hstop ?_; simp (maxSteps := 2000000) (disch := omega) only [push_cast, ↓Int.cast_ofNat_Int, Nat.reduceBEq, Nat.reduceAdd, Nat.reduceLT, Nat.reduceEqDiff, reduceIte, reduceCtorEq, Nat.reduceLeDiff, Nat.reduceSub, List.reduceReplicate, Nat.reduceMul, Int.reduceToNat, Int.toNat_natCast, Nat.reducePow, reduceIte, d1]
  refine hK _ ?_; clear hK K
  (repeat first | refine zK ?_ | refine zG ?_ | refine zH ?_ | refine zF rfl ?_ | refine zL ?_ | refine zB ?_ | refine zE ?_ | refine zA ?_ | refine zC ?_ | refine zT ?_ | refine zW ?_)
  simp only [yA, yM, yH, yE, resH_cell, resC_go, yK, yJ, zS, zM, Nat.reduceEqDiff, reduceIte, reduceCtorEq]
  exact hres_v rfl
 | true =>
 cases d2 : decide (checkS b = 0) with
 | false =>
  (repeat first | refine zE ?_ | refine zA ?_ | refine zC ?_ | refine zB ?_ | refine zD ?_); refine zJ (fun K hK => ?_); simp (maxSteps := 2000000) (disch := omega) only [push_cast, ↓Int.cast_ofNat_Int, Nat.reduceBEq, Nat.reduceAdd, Nat.reduceLT, Nat.reduceEqDiff, reduceIte, reduceCtorEq, Nat.reduceLeDiff, Nat.reduceSub, List.reduceReplicate, Nat.reduceMul, Int.reduceToNat, Int.toNat_natCast, Nat.reducePow, reduceIte]
  refine hatv cl27 ca (.cons (lendL (yT _)) .nil) ?_
  with_reducible refine hstop ?_; simp (maxSteps := 2000000) (disch := omega) only [push_cast, ↓Int.cast_ofNat_Int, Nat.reduceBEq, Nat.reduceAdd, Nat.reduceLT, Nat.reduceEqDiff, reduceIte, reduceCtorEq, Nat.reduceLeDiff, Nat.reduceSub, List.reduceReplicate, Nat.reduceMul, Int.reduceToNat, Int.toNat_natCast, Nat.reducePow, reduceIte, d1]
  refine hatv cl27 cb (.cons (lendL (yT _)) .nil) ?_
  with_reducible refine hstop ?_; simp (maxSteps := 2000000) (disch := omega) only [push_cast, ↓Int.cast_ofNat_Int, Nat.reduceBEq, Nat.reduceAdd, Nat.reduceLT, Nat.reduceEqDiff, reduceIte, reduceCtorEq, Nat.reduceLeDiff, Nat.reduceSub, List.reduceReplicate, Nat.reduceMul, Int.reduceToNat, Int.toNat_natCast, Nat.reducePow, reduceIte, d1, d2]
  refine hK _ ?_; clear hK K
  (repeat first | refine zK ?_ | refine zG ?_ | refine zH ?_ | refine zF rfl ?_ | refine zL ?_ | refine zB ?_ | refine zE ?_ | refine zA ?_ | refine zC ?_ | refine zT ?_ | refine zW ?_)
  simp only [yA, yM, yH, yE, resH_cell, resC_go, yK, yJ, zS, zM, Nat.reduceEqDiff, reduceIte, reduceCtorEq]
  exact hres_v rfl
 | true =>
  (repeat first | refine zE ?_ | refine zA ?_ | refine zC ?_ | refine zB ?_ | refine zD ?_); refine zJ (fun K hK => ?_); simp (maxSteps := 2000000) (disch := omega) only [push_cast, ↓Int.cast_ofNat_Int, Nat.reduceBEq, Nat.reduceAdd, Nat.reduceLT, Nat.reduceEqDiff, reduceIte, reduceCtorEq, Nat.reduceLeDiff, Nat.reduceSub, List.reduceReplicate, Nat.reduceMul, Int.reduceToNat, Int.toNat_natCast, Nat.reducePow, reduceIte]
  refine hatv cl27 ca (.cons (lendL (yT _)) .nil) ?_
  with_reducible refine hstop ?_; simp (maxSteps := 2000000) (disch := omega) only [push_cast, ↓Int.cast_ofNat_Int, Nat.reduceBEq, Nat.reduceAdd, Nat.reduceLT, Nat.reduceEqDiff, reduceIte, reduceCtorEq, Nat.reduceLeDiff, Nat.reduceSub, List.reduceReplicate, Nat.reduceMul, Int.reduceToNat, Int.toNat_natCast, Nat.reducePow, reduceIte, d1]
  refine hatv cl27 cb (.cons (lendL (yT _)) .nil) ?_
  with_reducible refine hstop ?_; simp (maxSteps := 2000000) (disch := omega) only [push_cast, ↓Int.cast_ofNat_Int, Nat.reduceBEq, Nat.reduceAdd, Nat.reduceLT, Nat.reduceEqDiff, reduceIte, reduceCtorEq, Nat.reduceLeDiff, Nat.reduceSub, List.reduceReplicate, Nat.reduceMul, Int.reduceToNat, Int.toNat_natCast, Nat.reducePow, reduceIte, d1, d2]
  refine hatv cl27 cc (.cons (lendL (yT _)) .nil) ?_
  with_reducible refine hstop ?_; simp (maxSteps := 2000000) (disch := omega) only [push_cast, ↓Int.cast_ofNat_Int, Nat.reduceBEq, Nat.reduceAdd, Nat.reduceLT, Nat.reduceEqDiff, reduceIte, reduceCtorEq, Nat.reduceLeDiff, Nat.reduceSub, List.reduceReplicate, Nat.reduceMul, Int.reduceToNat, Int.toNat_natCast, Nat.reducePow, reduceIte, d1, d2]
  refine hK _ ?_; clear hK K
  (repeat first | refine zK ?_ | refine zG ?_ | refine zH ?_ | refine zF rfl ?_ | refine zL ?_ | refine zB ?_ | refine zE ?_ | refine zA ?_ | refine zC ?_ | refine zT ?_ | refine zW ?_)
  simp only [yA, yM, yH, yE, resH_cell, resC_go, yK, yJ, zS, zM, Nat.reduceEqDiff, reduceIte, reduceCtorEq]
  exact hres_v rfl
set_option maxHeartbeats 1000000 in
theorem rawake_H : HFun Tryz.prog 9 [] (fun h st => h = .v (.bool true)) := by
 refine hfun (N := 18) Tryz.func9 rfl Tryz.ntmps9 Tryz.results9 (by simp) ?_
 have ci := items_H tb_nil tb_rcT tb_nil (.inr (.inr rfl))
 rw [itemsQ_awake] at ci
 (repeat first | refine zE ?_ | refine zA ?_ | refine zC ?_ | refine zB ?_ | refine zD ?_); refine zJ (fun K hK => ?_); simp (maxSteps := 2000000) (disch := omega) only [push_cast, ↓Int.cast_ofNat_Int, Nat.reduceBEq, Nat.reduceAdd, Nat.reduceLT, Nat.reduceEqDiff, reduceIte, reduceCtorEq, Nat.reduceLeDiff, Nat.reduceSub, List.reduceReplicate, Nat.reduceMul, Int.reduceToNat, Int.toNat_natCast, Nat.reducePow, reduceIte]; refine hK _ ?_; clear hK K
 (repeat first | refine zE ?_ | refine zA ?_ | refine zC ?_ | refine zB ?_ | refine zD ?_); refine zJ (fun K hK => ?_); simp (maxSteps := 2000000) (disch := omega) only [push_cast, ↓Int.cast_ofNat_Int, Nat.reduceBEq, Nat.reduceAdd, Nat.reduceLT, Nat.reduceEqDiff, reduceIte, reduceCtorEq, Nat.reduceLeDiff, Nat.reduceSub, List.reduceReplicate, Nat.reduceMul, Int.reduceToNat, Int.toNat_natCast, Nat.reducePow, reduceIte]; (repeat refine ⟨by first | omega | decide | ((repeat' apply And.intro) <;> first | omega | decide), ?_⟩); refine hK _ ?_; clear hK K
 have he : [[FV.v (.string { data := #[97] }), .v (.int .i64 2), .v (.string { data := #[104, 105] })]] = ents rcT := rfl
 rw [he]
 have hg : ∀ d, (itl [(rcA, 2)]).getD 0 d = [.v (.string rcA), .v (.int .i64 2)] := fun d => rfl
 have hln : (itl [(rcA, 2)]).length = 1 := rfl
 refine HW_restS 40 rfl (by simp only [rest_eq, esub_nil, esub_cons, ssub_nil, ssub_cons, hsub_v, hsub_lst, hsub_elt, hsub_junk, hsub_own, hsub_ptr, hsub_vw, hsub_agg, hsub_tup, rsub_sl, rsub_hl, rsub_bx, Nat.reduceEqDiff, reduceIte, List.map_cons, List.map_nil, List.map_append]; exact rfl) ?_
 (repeat first | refine zE ?_ | refine zA ?_ | refine zC ?_ | refine zB ?_ | refine zD ?_); refine zJ (fun K hK => ?_); simp (maxSteps := 2000000) (disch := omega) only [push_cast, ↓Int.cast_ofNat_Int, Nat.reduceBEq, Nat.reduceAdd, Nat.reduceLT, Nat.reduceEqDiff, reduceIte, reduceCtorEq, Nat.reduceLeDiff, Nat.reduceSub, List.reduceReplicate, Nat.reduceMul, Int.reduceToNat, Int.toNat_natCast, Nat.reducePow, reduceIte]
 refine hat 56 cl12 ci (.cons .nil (.cons (lendL (yT _)) (.cons .nil .nil))) ?_
 rintro _ _ ⟨rfl, rfl⟩
 with_reducible refine hstop ?_; simp (maxSteps := 2000000) (disch := omega) only [push_cast, ↓Int.cast_ofNat_Int, Nat.reduceBEq, Nat.reduceAdd, Nat.reduceLT, Nat.reduceEqDiff, reduceIte, reduceCtorEq, Nat.reduceLeDiff, Nat.reduceSub, List.reduceReplicate, Nat.reduceMul, Int.reduceToNat, Int.toNat_natCast, Nat.reducePow, reduceIte]
 refine hK _ ?_; clear hK K
 (repeat first | refine zE ?_ | refine zA ?_ | refine zC ?_ | refine zB ?_ | refine zD ?_); refine zJ (fun K hK => ?_); simp (maxSteps := 2000000) (disch := omega) only [push_cast, ↓Int.cast_ofNat_Int, Nat.reduceBEq, Nat.reduceAdd, Nat.reduceLT, Nat.reduceEqDiff, reduceIte, reduceCtorEq, Nat.reduceLeDiff, Nat.reduceSub, List.reduceReplicate, Nat.reduceMul, Int.reduceToNat, Int.toNat_natCast, Nat.reducePow, reduceIte, hg, hln, itl_wid]
 refine ⟨_, eqItem _ _ _ _, ?_⟩
 with_reducible refine hstop ?_; simp (maxSteps := 2000000) (disch := omega) only [push_cast, ↓Int.cast_ofNat_Int, Nat.reduceBEq, Nat.reduceAdd, Nat.reduceLT, Nat.reduceEqDiff, reduceIte, reduceCtorEq, Nat.reduceLeDiff, Nat.reduceSub, List.reduceReplicate, Nat.reduceMul, Int.reduceToNat, Int.toNat_natCast, Nat.reducePow, reduceIte]
 refine hK _ ?_; clear hK K
 (repeat first | refine zK ?_ | refine zG ?_ | refine zH ?_ | refine zF rfl ?_ | refine zL ?_ | refine zB ?_ | refine zE ?_ | refine zA ?_ | refine zC ?_ | refine zT ?_ | refine zW ?_)
 simp only [yA, yM, yH, yE, resH_cell, resC_go, yK, yJ, zS, zM, Nat.reduceEqDiff, reduceIte, reduceCtorEq]
 exact hres_v rfl
end Go.Proofs.YtdfjeokjmigkaaaGreat
