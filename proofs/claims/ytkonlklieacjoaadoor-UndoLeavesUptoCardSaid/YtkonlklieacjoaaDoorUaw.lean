/-
  The law's awake.
-/
import Derived.Test.YtkonlklieacjoaaDoorUpl
import Derived.Test.YtkonlklieacjoaaDoorUnB
set_option linter.unusedSimpArgs false
set_option linter.unusedVariables false
set_option maxRecDepth 20000
namespace Go.Tr
open Go Go.Eng
def awA : ByteArray := { data := #[97] }
def awH : ByteArray := { data := #[104, 105] }
def awC : Chg := ⟨awA, 0, (0, ByteArray.empty), (0, ByteArray.empty), (0, ByteArray.empty), (2, awH), (2, awH), (2, awH)⟩
def awT : List Ent := [(awA, (2, awH))]
theorem aw1a : (undoP [awC] (awT, awT, awT)).1.1 = [] := by decide +kernel
theorem aw1b : (undoP [awC] (awT, awT, awT)).1.2.1 = [] := by decide +kernel
theorem aw1c : (undoP [awC] (awT, awT, awT)).1.2.2 = [] := by decide +kernel
theorem aw1d : sortT (undoP [awC] (awT, awT, awT)).2 = [] := by decide +kernel
theorem aw2 : sortT (undoP [awC] (awT, [], awT)).2 = [awA] := by decide +kernel
theorem awTree : Tree awT := (tree_iff _).1 (by decide +kernel)
end Go.Tr
namespace Go.Proofs.YtkonlklieacjoaaDoor
open Go Go.Eng Go.RowKit Go.Tr
set_option maxHeartbeats 4000000 in
theorem uawake_H : HFun Tryd.prog 39 [] (fun h st => h = .v (.bool true)) := by
 refine hfun (N := 71) Tryd.func39 rfl Tryd.ntmps39 Tryd.results39 (by simp) ?_
 (repeat first | refine zE ?_ | refine zA ?_ | refine zC ?_ | refine zB ?_ | refine zD ?_); refine zJ (fun K hK => ?_); simp (maxSteps := 2000000) (disch := omega) only [push_cast, ↓Int.cast_ofNat_Int, simprocAttr, Int.toNat_natCast]; refine hK _ ?_; clear hK K
 (repeat first | refine zE ?_ | refine zA ?_ | refine zC ?_ | refine zB ?_ | refine zD ?_); refine zJ (fun K hK => ?_); simp (maxSteps := 2000000) (disch := omega) only [push_cast, ↓Int.cast_ofNat_Int, simprocAttr, Int.toNat_natCast]; (repeat refine ⟨by first | omega | decide | ((repeat' apply And.intro) <;> first | omega | decide), ?_⟩); refine hK _ ?_; clear hK K
 have he : [[FV.v (.string { data := #[97] }), .v (.int .i64 2), .v (.string { data := #[104, 105] })]] = ents awT := rfl
 rw [he]
 have hg : ∀ d, (ents awT).getD 0 d = [.v (.string awA), .v (.int .i64 2), .v (.string awH)] := fun d => rfl
 have hln : (ents awT).length = 1 := rfl
 refine HW_restS 72 rfl (by simp only [rest_eq, esub_nil, esub_cons, ssub_nil, ssub_cons, hsub_v, hsub_lst, hsub_elt, hsub_junk, hsub_own, hsub_ptr, hsub_vw, hsub_agg, hsub_tup, rsub_sl, rsub_hl, rsub_bx, Nat.reduceEqDiff, reduceIte, List.map_cons, List.map_nil, List.map_append]; exact rfl) ?_
 (repeat first | refine zE ?_ | refine zA ?_ | refine zC ?_ | refine zB ?_ | refine zD ?_)
 (repeat first | refine zE ?_ | refine zA ?_ | refine zC ?_ | refine zB ?_ | refine zD ?_); refine HW_drwC 17 [(16, some 16)] [[], [(16, .bx true 52 [.v (.int .i64 0), .v (.int .i64 0), .v (.int .i64 0), .v (.slice none 0 0)])]] [] mixed (by kernel_rfl) (by kernel_rfl) rfl (fun K hK K1 hK1 => ?_); simp (maxSteps := 2000000) (disch := omega) only [push_cast, ↓Int.cast_ofNat_Int, simprocAttr, Int.toNat_natCast, nextW_nil, nextW_cons, rgOf_nil, rgOf_cons, kf_some, kf_no, stays_nil, stays_cons, strongK_store, strongK_copy, strongK_app, strongK_build, strongK_alloc, hwr2_go, hwr2_call, hall_zero, hall_one, hall_two, hall_three, slotsW_store, slotsW_call, hvca_eq, hvcb_eq, hvce_eq, hvcw_some, hvcw_none, hvc1_none, hvc1_some, hvc_nil, hvcS_some, hvcS_none, hvc_cons, List.tail_cons, List.take_nil, List.drop_nil, implies_true, hg, hln, yU]
 have hcs : [[FV.v (.string { data := #[97] }), .v (.int .i64 0), .v (.int .i64 0), .v (.string ByteArray.empty), .v (.int .i64 0), .v (.string ByteArray.empty), .v (.int .i64 0), .v (.string ByteArray.empty), .v (.int .i64 2), .v (.string awH), .v (.int .i64 2), .v (.string awH), .v (.int .i64 2), .v (.string awH)]] = chs [awC] := rfl
 rw [hcs]
 refine hK1 _ ?_; clear hK1 K1; with_reducible refine hstop ?_; simp (maxSteps := 2000000) (disch := omega) only [push_cast, ↓Int.cast_ofNat_Int, simprocAttr, Int.toNat_natCast]
 refine hK _ ?_; clear hK K
 refine yB [1, 2] [16] (by simp only [zZ, zR, zP, zQ, zN, zS, zM, zX, zU, Nat.reduceEqDiff, reduceIte]; exact rfl) ?_
 have t3 : Tree3 (awT, awT, awT) := ⟨awTree, awTree, awTree⟩
 have t4 : Tree3 (awT, [], awT) := ⟨awTree, Tree.nil, awTree⟩
 have hsz : ∀ c ∈ [awC], c.p.size ≤ 1048576 := fun c hc => by
  simp only [List.mem_singleton] at hc
  subst hc; decide
 have p1 := plan_H 0 0 0 [awC] (awT, awT, awT) t3 (by decide) hsz
 have p2 := plan_H 0 0 0 [awC] (awT, [], awT) t4 (by decide) hsz
 rw [aw1d] at p1
 rw [aw2] at p2
 have u1 := aw1a
 have u2 := aw1b
 have u3 := aw1c
 generalize (undoP [awC] (awT, awT, awT)).1 = U at *
 generalize (undoP [awC] (awT, [], awT)).1 = V at *
 obtain ⟨x, y, z⟩ := U
 dsimp only at u1 u2 u3
 subst u1 u2 u3
 have lrec : ∀ st, Lend st (.agg [.v (.int .i64 0), .v (.int .i64 0), .v (.int .i64 0), .lst true (chs [awC])]) (recH 0 0 0 [awC]) := fun st => .agg rfl fun j h1 h2 => by
  match j, h1 with
  | 0, _ => exact .v _
  | 1, _ => exact .v _
  | 2, _ => exact .v _
  | 3, _ => exact lendL (chs_old _)
 (repeat first | refine zE ?_ | refine zA ?_ | refine zC ?_ | refine zB ?_ | refine zD ?_); refine zJ (fun K hK => ?_); simp (maxSteps := 2000000) (disch := omega) only [push_cast, ↓Int.cast_ofNat_Int, simprocAttr, Int.toNat_natCast]
 refine hat 256 cl42 p1 (.cons (lrec _) (.cons (lend_tri (lendL (yT _)) (lendL (yT _)) (lendL (yT _))) .nil)) ?_
 rintro _ _ ⟨rfl, rfl⟩
 with_reducible refine hstop ?_; simp (maxSteps := 2000000) (disch := omega) only [push_cast, ↓Int.cast_ofNat_Int, simprocAttr, Int.toNat_natCast]
 refine hK _ ?_; clear hK K
 refine yB [1, 2, 3, 4] [16, 24, 256, 257, 258, 259] (by simp only [zZ, zR, zP, zQ, zN, zS, zM, zX, zU, Nat.reduceEqDiff, reduceIte]; exact rfl) ?_
 (repeat first | refine zE ?_ | refine zA ?_ | refine zC ?_ | refine zB ?_ | refine zD ?_); refine zJ (fun K hK => ?_); simp (maxSteps := 2000000) (disch := omega) only [push_cast, ↓Int.cast_ofNat_Int, simprocAttr, Int.toNat_natCast]
 refine hat 320 cl42 p2 (.cons (lrec _) (.cons (lend_tri (lendL (yT _)) .nil (lendL (yT _))) .nil)) ?_
 rintro _ _ ⟨rfl, rfl⟩
 with_reducible refine hstop ?_; simp (maxSteps := 2000000) (disch := omega) only [push_cast, ↓Int.cast_ofNat_Int, simprocAttr, Int.toNat_natCast]
 refine hK _ ?_; clear hK K
 refine yB [0, 3, 4, 6] [24, 256, 257, 258, 259, 323] (by simp only [zZ, zR, zP, zQ, zN, zS, zM, zX, zU, Nat.reduceEqDiff, reduceIte]; exact rfl) ?_
 have e0 : (ents []).length = 0 := rfl
 have s0 : (strs []).length = 0 := rfl
 have s1 : (strs [awA]).length = 1 := rfl
 have sg : ∀ d, (strs [awA]).getD 0 d = [.v (.string awA)] := fun d => rfl
 have sw : Wid 1 (strs [awA]) = True := strs_wid _
 have wz : IntKind.i64.wrap (IntKind.i64.wrap (0 + 0) + 0) = 0 := by decide
 have ea : decide (awA = { data := #[97] }) = true := by decide
 (repeat first | refine zE ?_ | refine zA ?_ | refine zC ?_ | refine zB ?_ | refine zD ?_); refine zJ (fun K hK => ?_); simp (maxSteps := 2000000) (disch := omega) only [push_cast, ↓Int.cast_ofNat_Int, simprocAttr, Int.toNat_natCast, e0, s0, s1, sg, sw, wz, ea]; (repeat refine ⟨by first | omega | decide | ((repeat' apply And.intro) <;> first | omega | decide), ?_⟩); refine hK _ ?_; clear hK K
 (repeat first | refine zK ?_ | refine zG ?_ | refine zH ?_ | refine zF rfl ?_ | refine zL ?_ | refine zB ?_ | refine zE ?_ | refine zA ?_ | refine zC ?_ | refine zT ?_ | refine zW ?_)
 simp only [yA, yM, yH, yE, resH_cell, resC_go, yK, yJ, zS, zM, Nat.reduceEqDiff, reduceIte, reduceCtorEq]
 exact hres_v rfl
end Go.Proofs.YtkonlklieacjoaaDoor
