/-
  strings.Builder: its methods, by the bytes that it holds.
-/
import Derived.Test.YtppnicpbncfhnaaBld
import Derived.Test.YtppnicpbncfhnaaGc
set_option linter.unusedSimpArgs false
set_option linter.unusedVariables false
set_option maxRecDepth 20000
namespace Go.Proofs.Ytppnicpbncfhnaa
open Go Go.Eng Go.RowKit


/-- a builder: fresh, or written -/
def bldA (x : HV) : Prop := x = .v (.pointer none) ∨ x = .ptr 0 2 0 0
def bldS (x : HV) (nw : Bool) (els : List (List FV)) : Store := [(0, .bx false 100 [x, .own 1]), (1, .sl nw 5 1 els)]
theorem bld_cells {c : Ctx} {w : World} {ρ : Nat → Value} {xs : Nat → List Value} {x : HV} {nw : Bool} {els : List (List FV)} (hx : bldA x) (G : Go.Eng.Good c (⟨[], bldS x nw els⟩ : HS) (fun _ => none) w ρ xs) :
    ∃ g p v, ρ 0 = .slice (some ⟨g, 0, none⟩) 1 1 ∧ w.heap[g]? = some (.cells #[p, v] 100 (0, 0)) ∧ v = ρ 1 ∧ (p = .pointer none ∨ p = .pointer (some ⟨g, 0, none⟩)) ∧ xs 0 = [p, v] ∧ (x = .v (.pointer none) → p = .pointer none) ∧ (x = .ptr 0 2 0 0 → p = .pointer (some ⟨g, 0, none⟩)) := by
  have R := G.rows 0 _ (show rlk (bldS x nw els) 0 = some _ from rfl)
  obtain ⟨⟨g, g1, g2⟩, hc⟩ := R.rep
  obtain ⟨u0, a0, b0, d0⟩ := hc 0 (by simp)
  obtain ⟨u1, a1, b1, d1⟩ := hc 1 (by simp)
  have o := R.own
  rw [g1] at o
  have hlen := o.1
  simp only [Row.len, Row.sz, List.length_cons, List.length_nil] at hlen
  have hxs : xs 0 = [u0, u1] := by
    match xs 0, hlen, a0, a1 with
    | [p, q], _, a0, a1 => simp at a0 a1; rw [a0, a1]
  cases d1
  have hp : u0 = .pointer none ∨ u0 = .pointer (some ⟨g, 0, none⟩) := by
    rcases hx with rfl | rfl
    · left; exact repH_v d0
    · right
      cases d0 with
      | ptr _ _ _ h => rw [g1] at h; simp only [Value.slice.injEq, Option.some.injEq, Addr.mk.injEq] at h; obtain ⟨⟨rfl, -⟩, -⟩ := h; simp
  refine ⟨g, u0, ρ 1, g1, ?_, rfl, hp, hxs, fun e => ?_, fun e => ?_⟩
  · rcases o.2 with ⟨h1, h2⟩ | ⟨g', cap, cur, h1, hb, hh, hc1, hc2, hsz, htk⟩
    · cases h1
    · cases h1
      simp only [Row.sz, Row.ty, Row.len, List.length_cons, List.length_nil] at hh hsz htk
      rw [hxs, List.take_of_length_le (by rw [Array.length_toList, hsz]; exact Nat.le_refl _)] at htk
      rw [hh]
      congr 2
      rw [← htk]
  · subst e; exact repH_v d0
  · subst e
    cases d0 with
    | ptr _ _ _ h => rw [g1] at h; simp only [Value.slice.injEq, Option.some.injEq, Addr.mk.injEq] at h; obtain ⟨⟨rfl, -⟩, -⟩ := h; simp
set_option maxHeartbeats 1000000 in
/-- the check: the builder is written, from here on -/
theorem chk_H (x : HV) (hx : bldA x) (nw : Bool) (els : List (List FV)) : HFunS Try.prog 73 [.ptr 0 2 0 0] (bldS x nw els) (fun h st => h = .tup [] ∧ st = bldS (.ptr 0 2 0 0) nw els) := fun c w ρ xs vs hw0 G R => by
  obtain ⟨g, p, v, hg, hh, hv, hp, hxs, hp1, hp2⟩ := bld_cells hx G
  have hvs : vs = [.pointer (some ⟨g, 0, none⟩)] := by
    obtain ⟨r1, r2⟩ := R
    match vs, r1 with
    | [a], _ =>
      have := r2 0 (by simp) (by simp)
      simp only [List.getElem_cons_zero] at this
      cases this with
      | ptr _ _ _ h => rw [hg] at h; simp only [Value.slice.injEq, Option.some.injEq, Addr.mk.injEq] at h; obtain ⟨⟨rfl, -⟩, -⟩ := h; simp
  subst hvs
  have c0 : w.cell? ⟨g, 0, none⟩ = some p := by simp [World.cell?, hh]
  rcases hx with rfl | rfl
  · obtain rfl := hp1 rfl
    refine (chk_fresh g w c0 (by simp [World.shape?, hh]) (by simp [World.frozen?, hh])).mono ?_
    rintro e w' ⟨rfl, rfl⟩
    have hO : Only g w (w.setCell ⟨g, 0, none⟩ (.pointer (some ⟨g, 0, none⟩))) := ⟨rfl, rfl, rfl, by simp [World.setCell], fun k hk => by simp [World.setCell, Array.getElem?_modify, Ne.symm hk]⟩
    have G2 := upd_bx (k := 0) (hs := [.ptr 0 2 0 0]) (vs := [.pointer (some ⟨g, 0, none⟩)]) G (show rlk (bldS (.v (.pointer none)) nw els) 0 = some _ from rfl) rfl (by simp) (by simp [Value.oneCell'])
      (fun j a b => by
        have : j = 0 := by simpa using b
        subst this
        have := RepH.ptr (w := w) (A := c.A ρ (bldS (.v (.pointer none)) nw els)) (n0 := c.n0) (ρ := ρ) (id := 0) 2 0 0 hg
        simpa using this) hg hO (fun cur hcur => by
        have hcur : w.heap[g]? = some (.cells cur 100 (0, 0)) := hcur
        rw [hh] at hcur
        simp only [Option.some.injEq, Obj.cells.injEq, and_true] at hcur
        subst hcur
        show (w.setCell ⟨g, 0, none⟩ (.pointer (some ⟨g, 0, none⟩))).heap[g]? = _
        simp [World.setCell, Array.getElem?_modify, hh, splice])
    exact ret_of ⟨.tup [], _, ρ, _, fun i r hi => (by simp only [bldS, sset, splice, rlk] at hi; (repeat' split at hi) <;> first | omega | (cases hi)), fun j h => by
      by_cases e : 0 = j
      · subst e; exact trivial
      · exfalso; simp only [bldS, rlk, if_neg e] at h; split at h <;> exact h, ⟨rfl, rfl⟩, G2, .tup rfl fun j a => absurd a (by simp)⟩
  · obtain rfl := hp2 rfl
    refine (chk_used g w c0).mono ?_
    rintro e w' ⟨rfl, rfl⟩
    exact ret_of ⟨.tup [], _, ρ, xs, fun i r hi => (by simp only [bldS, rlk] at hi; (repeat' split at hi) <;> first | omega | (cases hi)), fun _ h => h, ⟨rfl, rfl⟩, G, .tup rfl fun j a => absurd a (by simp)⟩
set_option maxHeartbeats 2000000 in
theorem wb_H (x : HV) (hx : bldA x) (nw : Bool) (els : List (List FV)) (c : Int) (hl : els.length + 1 ≤ 140737488355328) : HFunS Try.prog 70 [.ptr 0 2 0 0, .v (.int .u8 c)] (bldS x nw els) (fun h st => h = .v .nilIface ∧ st = bldS (.ptr 0 2 0 0) nw (els ++ [[.v (.int .u8 c)]])) := by
  have hc := chk_H x hx nw els
  refine hfunS (N := 17) Try.func70 rfl Try.ntmps70 Try.results70 (by simp) ?_
  simp only [bldS] at hc ⊢
  rcases hx with rfl | rfl
  all_goals
    (repeat first | refine HW_seq ?_ | refine hseqQ_normal ?_ | refine HW_skip ?_ | refine hblkQ_normal ?_ | refine HW_block ?_); refine HW_reg (fun K hK => ?_); simp (maxSteps := 2000000) (disch := omega) only [push_cast, ↓Int.cast_ofNat_Int, Nat.reduceBEq, Nat.reduceAdd, Nat.reduceLT, Nat.reduceEqDiff, reduceIte, reduceCtorEq, Nat.reduceLeDiff, Nat.reduceSub, List.reduceReplicate, Nat.reduceMul, Int.reduceToNat, Int.toNat_natCast, Nat.reducePow, reduceIte]; refine hK _ ?_; clear hK K
    (repeat first | refine HW_seq ?_ | refine hseqQ_normal ?_ | refine HW_skip ?_ | refine hblkQ_normal ?_ | refine HW_block ?_); refine HW_reg (fun K hK => ?_); simp (maxSteps := 2000000) (disch := omega) only [push_cast, ↓Int.cast_ofNat_Int, Nat.reduceBEq, Nat.reduceAdd, Nat.reduceLT, Nat.reduceEqDiff, reduceIte, reduceCtorEq, Nat.reduceLeDiff, Nat.reduceSub, List.reduceReplicate, Nat.reduceMul, Int.reduceToNat, Int.toNat_natCast, Nat.reducePow, reduceIte]
    refine hatS 48 [0, 1] cl73 (hc) rfl (by decide) (by decide) (by simp only [push_cast, pos_nil, pos_cons, Option.getD_some, Bool.or_true, Bool.or_false, Bool.and_true, Bool.and_false, Option.map_some, Option.map_none, Nat.zero_add, Nat.reduceBEq, Nat.reduceAdd, Nat.reduceLT, Nat.reduceEqDiff, reduceIte, reduceCtorEq, Nat.reduceLeDiff, Nat.reduceSub, List.reduceReplicate, Nat.reduceMul, Int.reduceToNat, Int.toNat_natCast, Nat.reducePow, reduceIte]; try rfl) (by simp only [push_cast, pos_nil, pos_cons, Option.getD_some, Bool.or_true, Bool.or_false, Bool.and_true, Bool.and_false, Option.map_some, Option.map_none, Nat.zero_add, Nat.reduceBEq, Nat.reduceAdd, Nat.reduceLT, Nat.reduceEqDiff, reduceIte, reduceCtorEq, Nat.reduceLeDiff, Nat.reduceSub, List.reduceReplicate, Nat.reduceMul, Int.reduceToNat, Int.toNat_natCast, Nat.reducePow, reduceIte]; try rfl) ?_
    rintro _ _ ⟨rfl, rfl⟩
    refine hstop ?_; simp (maxSteps := 2000000) (disch := omega) only [push_cast, ↓Int.cast_ofNat_Int, Nat.reduceBEq, Nat.reduceAdd, Nat.reduceLT, Nat.reduceEqDiff, reduceIte, reduceCtorEq, Nat.reduceLeDiff, Nat.reduceSub, List.reduceReplicate, Nat.reduceMul, Int.reduceToNat, Int.toNat_natCast, Nat.reducePow, reduceIte, Option.getD_some, Bool.or_true, Bool.or_false, Bool.and_true, Bool.and_false, Nat.zero_add, pos_nil, pos_cons, Option.map_some, Option.map_none]
    refine hK _ ?_; clear hK K
    (repeat first | refine HW_seq ?_ | refine hseqQ_normal ?_ | refine HW_skip ?_ | refine hblkQ_normal ?_ | refine HW_block ?_); refine HW_reg (fun K hK => ?_); simp (maxSteps := 2000000) (disch := omega) only [push_cast, ↓Int.cast_ofNat_Int, Nat.reduceBEq, Nat.reduceAdd, Nat.reduceLT, Nat.reduceEqDiff, reduceIte, reduceCtorEq, Nat.reduceLeDiff, Nat.reduceSub, List.reduceReplicate, Nat.reduceMul, Int.reduceToNat, Int.toNat_natCast, Nat.reducePow, reduceIte]; refine hK _ ?_; clear hK K
    (repeat first | refine HW_seq ?_ | refine hseqQ_normal ?_ | refine HW_skip ?_ | refine hblkQ_normal ?_ | refine HW_block ?_); refine HW_reg (fun K hK => ?_); simp (maxSteps := 2000000) (disch := omega) only [push_cast, ↓Int.cast_ofNat_Int, Nat.reduceBEq, Nat.reduceAdd, Nat.reduceLT, Nat.reduceEqDiff, reduceIte, reduceCtorEq, Nat.reduceLeDiff, Nat.reduceSub, List.reduceReplicate, Nat.reduceMul, Int.reduceToNat, Int.toNat_natCast, Nat.reducePow, reduceIte]; refine hK _ ?_; clear hK K
    (repeat first | refine hseqQ_ret ?_ | refine hseqQ_exit ?_ | refine hblkQ_exit ?_ | refine hblkQ_other rfl ?_ | refine hblkQ_ret ?_ | refine hblkQ_normal ?_ | refine HW_seq ?_ | refine hseqQ_normal ?_ | refine HW_skip ?_ | refine HW_exit ?_ | refine HW_ret ?_)
    simp only [hfunSQ_normal, hfunSQ_ret, resH_nil, resH_cons, htup_one, htup_two, htup_nil, hlk_nil, hlk_cons, Nat.reduceEqDiff, reduceIte, reduceCtorEq]
    refine hresS [0, 1] (by decide) (by decide) (by simp only [push_cast, pos_nil, pos_cons, rpick_nil, rpick_cons, boxOk_nil, boxOk_cons, keepB_nil, keepB_sl, keepB_hl, keepB_bt, keepB_bf, Option.getD_some, Option.map_some, Option.map_none, Nat.zero_add, hren_v, hren_lst, hren_own, hren_tup, hren_agg, rren_sl, rren_bx, rren_hl, List.map_cons, List.map_nil, Nat.reduceEqDiff, reduceIte, implies_true, and_self, true_and, and_true, true_implies, false_implies, Nat.reduceBEq, Nat.reduceAdd, Nat.reduceLT, Nat.reduceEqDiff, reduceIte, reduceCtorEq, Nat.reduceLeDiff, Nat.reduceSub, List.reduceReplicate, Nat.reduceMul, Int.reduceToNat, Int.toNat_natCast, Nat.reducePow, reduceIte]) (by simp only [push_cast, pos_nil, pos_cons, rpick_nil, rpick_cons, boxOk_nil, boxOk_cons, keepB_nil, keepB_sl, keepB_hl, keepB_bt, keepB_bf, Option.getD_some, Option.map_some, Option.map_none, Nat.zero_add, hren_v, hren_lst, hren_own, hren_tup, hren_agg, rren_sl, rren_bx, rren_hl, List.map_cons, List.map_nil, Nat.reduceEqDiff, reduceIte, implies_true, and_self, true_and, and_true, true_implies, false_implies, Nat.reduceBEq, Nat.reduceAdd, Nat.reduceLT, Nat.reduceEqDiff, reduceIte, reduceCtorEq, Nat.reduceLeDiff, Nat.reduceSub, List.reduceReplicate, Nat.reduceMul, Int.reduceToNat, Int.toNat_natCast, Nat.reducePow, reduceIte]) (by simp only [push_cast, pos_nil, pos_cons, rpick_nil, rpick_cons, boxOk_nil, boxOk_cons, keepB_nil, keepB_sl, keepB_hl, keepB_bt, keepB_bf, Option.getD_some, Option.map_some, Option.map_none, Nat.zero_add, hren_v, hren_lst, hren_own, hren_tup, hren_agg, rren_sl, rren_bx, rren_hl, List.map_cons, List.map_nil, Nat.reduceEqDiff, reduceIte, implies_true, and_self, true_and, and_true, true_implies, false_implies, Nat.reduceBEq, Nat.reduceAdd, Nat.reduceLT, Nat.reduceEqDiff, reduceIte, reduceCtorEq, Nat.reduceLeDiff, Nat.reduceSub, List.reduceReplicate, Nat.reduceMul, Int.reduceToNat, Int.toNat_natCast, Nat.reducePow, reduceIte]; rfl) (by simp only [push_cast, pos_nil, pos_cons, rpick_nil, rpick_cons, boxOk_nil, boxOk_cons, keepB_nil, keepB_sl, keepB_hl, keepB_bt, keepB_bf, Option.getD_some, Option.map_some, Option.map_none, Nat.zero_add, hren_v, hren_lst, hren_own, hren_tup, hren_agg, rren_sl, rren_bx, rren_hl, List.map_cons, List.map_nil, Nat.reduceEqDiff, reduceIte, implies_true, and_self, true_and, and_true, true_implies, false_implies, Nat.reduceBEq, Nat.reduceAdd, Nat.reduceLT, Nat.reduceEqDiff, reduceIte, reduceCtorEq, Nat.reduceLeDiff, Nat.reduceSub, List.reduceReplicate, Nat.reduceMul, Int.reduceToNat, Int.toNat_natCast, Nat.reducePow, reduceIte]; rfl) ?_
    exact ⟨rfl, rfl⟩
set_option maxHeartbeats 2000000 in
theorem len_H (x : HV) (hx : bldA x) (nw : Bool) (els : List (List FV)) : HFunS Try.prog 66 [.ptr 0 2 0 0] (bldS x nw els) (fun h st => h = .v (.int .i64 els.length) ∧ st = bldS x nw els) := by
  refine hfunS (N := 8) Try.func66 rfl Try.ntmps66 Try.results66 (by simp) ?_
  simp only [bldS]
  rcases hx with rfl | rfl
  all_goals
    (repeat first | refine HW_seq ?_ | refine hseqQ_normal ?_ | refine HW_skip ?_ | refine hblkQ_normal ?_ | refine HW_block ?_); refine HW_reg (fun K hK => ?_); simp (maxSteps := 2000000) (disch := omega) only [push_cast, ↓Int.cast_ofNat_Int, Nat.reduceBEq, Nat.reduceAdd, Nat.reduceLT, Nat.reduceEqDiff, reduceIte, reduceCtorEq, Nat.reduceLeDiff, Nat.reduceSub, List.reduceReplicate, Nat.reduceMul, Int.reduceToNat, Int.toNat_natCast, Nat.reducePow, reduceIte]; refine hK _ ?_; clear hK K
    (repeat first | refine HW_seq ?_ | refine hseqQ_normal ?_ | refine HW_skip ?_ | refine hblkQ_normal ?_ | refine HW_block ?_); refine HW_reg (fun K hK => ?_); simp (maxSteps := 2000000) (disch := omega) only [push_cast, ↓Int.cast_ofNat_Int, Nat.reduceBEq, Nat.reduceAdd, Nat.reduceLT, Nat.reduceEqDiff, reduceIte, reduceCtorEq, Nat.reduceLeDiff, Nat.reduceSub, List.reduceReplicate, Nat.reduceMul, Int.reduceToNat, Int.toNat_natCast, Nat.reducePow, reduceIte]; refine hK _ ?_; clear hK K
    (repeat first | refine hseqQ_ret ?_ | refine hseqQ_exit ?_ | refine hblkQ_exit ?_ | refine hblkQ_other rfl ?_ | refine hblkQ_ret ?_ | refine hblkQ_normal ?_ | refine HW_seq ?_ | refine hseqQ_normal ?_ | refine HW_skip ?_ | refine HW_exit ?_ | refine HW_ret ?_)
    simp only [hfunSQ_normal, hfunSQ_ret, resH_nil, resH_cons, htup_one, htup_two, htup_nil, hlk_nil, hlk_cons, Nat.reduceEqDiff, reduceIte, reduceCtorEq]
    refine hresS [0, 1] (by decide) (by decide) (by simp only [push_cast, pos_nil, pos_cons, rpick_nil, rpick_cons, boxOk_nil, boxOk_cons, keepB_nil, keepB_sl, keepB_hl, keepB_bt, keepB_bf, Option.getD_some, Option.map_some, Option.map_none, Nat.zero_add, hren_v, hren_lst, hren_own, hren_tup, hren_agg, rren_sl, rren_bx, rren_hl, List.map_cons, List.map_nil, Nat.reduceEqDiff, reduceIte, implies_true, and_self, true_and, and_true, true_implies, false_implies, Nat.reduceBEq, Nat.reduceAdd, Nat.reduceLT, Nat.reduceEqDiff, reduceIte, reduceCtorEq, Nat.reduceLeDiff, Nat.reduceSub, List.reduceReplicate, Nat.reduceMul, Int.reduceToNat, Int.toNat_natCast, Nat.reducePow, reduceIte]) (by simp only [push_cast, pos_nil, pos_cons, rpick_nil, rpick_cons, boxOk_nil, boxOk_cons, keepB_nil, keepB_sl, keepB_hl, keepB_bt, keepB_bf, Option.getD_some, Option.map_some, Option.map_none, Nat.zero_add, hren_v, hren_lst, hren_own, hren_tup, hren_agg, rren_sl, rren_bx, rren_hl, List.map_cons, List.map_nil, Nat.reduceEqDiff, reduceIte, implies_true, and_self, true_and, and_true, true_implies, false_implies, Nat.reduceBEq, Nat.reduceAdd, Nat.reduceLT, Nat.reduceEqDiff, reduceIte, reduceCtorEq, Nat.reduceLeDiff, Nat.reduceSub, List.reduceReplicate, Nat.reduceMul, Int.reduceToNat, Int.toNat_natCast, Nat.reducePow, reduceIte]) (by simp only [push_cast, pos_nil, pos_cons, rpick_nil, rpick_cons, boxOk_nil, boxOk_cons, keepB_nil, keepB_sl, keepB_hl, keepB_bt, keepB_bf, Option.getD_some, Option.map_some, Option.map_none, Nat.zero_add, hren_v, hren_lst, hren_own, hren_tup, hren_agg, rren_sl, rren_bx, rren_hl, List.map_cons, List.map_nil, Nat.reduceEqDiff, reduceIte, implies_true, and_self, true_and, and_true, true_implies, false_implies, Nat.reduceBEq, Nat.reduceAdd, Nat.reduceLT, Nat.reduceEqDiff, reduceIte, reduceCtorEq, Nat.reduceLeDiff, Nat.reduceSub, List.reduceReplicate, Nat.reduceMul, Int.reduceToNat, Int.toNat_natCast, Nat.reducePow, reduceIte]; rfl) (by simp only [push_cast, pos_nil, pos_cons, rpick_nil, rpick_cons, boxOk_nil, boxOk_cons, keepB_nil, keepB_sl, keepB_hl, keepB_bt, keepB_bf, Option.getD_some, Option.map_some, Option.map_none, Nat.zero_add, hren_v, hren_lst, hren_own, hren_tup, hren_agg, rren_sl, rren_bx, rren_hl, List.map_cons, List.map_nil, Nat.reduceEqDiff, reduceIte, implies_true, and_self, true_and, and_true, true_implies, false_implies, Nat.reduceBEq, Nat.reduceAdd, Nat.reduceLT, Nat.reduceEqDiff, reduceIte, reduceCtorEq, Nat.reduceLeDiff, Nat.reduceSub, List.reduceReplicate, Nat.reduceMul, Int.reduceToNat, Int.toNat_natCast, Nat.reducePow, reduceIte]; rfl) ?_
    exact ⟨rfl, rfl⟩
theorem strT_b : strT Try.prog #[88, 9] = true := by kernel_rfl
theorem byteE_len (s : ByteArray) : (byteE s).length = s.size := by simp [byteE]
set_option maxHeartbeats 2000000 in
theorem ws_H (x : HV) (hx : bldA x) (nw : Bool) (els : List (List FV)) (s : ByteArray) (hl : els.length + s.size ≤ 140737488355328) : HFunS Try.prog 67 [.ptr 0 2 0 0, .v (.string s)] (bldS x nw els) (fun h st => h = .tup [.v (.int .i64 s.size), .v .nilIface] ∧ st = bldS (.ptr 0 2 0 0) nw (els ++ byteE s)) := by
  have hc := chk_H x hx nw els
  refine hfunS (N := 19) Try.func67 rfl Try.ntmps67 Try.results67 (by simp) ?_
  simp only [bldS] at hc ⊢
  rcases hx with rfl | rfl
  all_goals
    (repeat first | refine HW_seq ?_ | refine hseqQ_normal ?_ | refine HW_skip ?_ | refine hblkQ_normal ?_ | refine HW_block ?_); refine HW_reg (fun K hK => ?_); simp (maxSteps := 2000000) (disch := omega) only [push_cast, ↓Int.cast_ofNat_Int, Nat.reduceBEq, Nat.reduceAdd, Nat.reduceLT, Nat.reduceEqDiff, reduceIte, reduceCtorEq, Nat.reduceLeDiff, Nat.reduceSub, List.reduceReplicate, Nat.reduceMul, Int.reduceToNat, Int.toNat_natCast, Nat.reducePow, reduceIte]; refine hK _ ?_; clear hK K
    (repeat first | refine HW_seq ?_ | refine hseqQ_normal ?_ | refine HW_skip ?_ | refine hblkQ_normal ?_ | refine HW_block ?_); refine HW_reg (fun K hK => ?_); simp (maxSteps := 2000000) (disch := omega) only [push_cast, ↓Int.cast_ofNat_Int, Nat.reduceBEq, Nat.reduceAdd, Nat.reduceLT, Nat.reduceEqDiff, reduceIte, reduceCtorEq, Nat.reduceLeDiff, Nat.reduceSub, List.reduceReplicate, Nat.reduceMul, Int.reduceToNat, Int.toNat_natCast, Nat.reducePow, reduceIte]
    refine hatS 56 [0, 1] cl73 (hc) rfl (by decide) (by decide) (by simp only [push_cast, pos_nil, pos_cons, Option.getD_some, Bool.or_true, Bool.or_false, Bool.and_true, Bool.and_false, Option.map_some, Option.map_none, Nat.zero_add, Nat.reduceBEq, Nat.reduceAdd, Nat.reduceLT, Nat.reduceEqDiff, reduceIte, reduceCtorEq, Nat.reduceLeDiff, Nat.reduceSub, List.reduceReplicate, Nat.reduceMul, Int.reduceToNat, Int.toNat_natCast, Nat.reducePow, reduceIte]; try rfl) (by simp only [push_cast, pos_nil, pos_cons, Option.getD_some, Bool.or_true, Bool.or_false, Bool.and_true, Bool.and_false, Option.map_some, Option.map_none, Nat.zero_add, Nat.reduceBEq, Nat.reduceAdd, Nat.reduceLT, Nat.reduceEqDiff, reduceIte, reduceCtorEq, Nat.reduceLeDiff, Nat.reduceSub, List.reduceReplicate, Nat.reduceMul, Int.reduceToNat, Int.toNat_natCast, Nat.reducePow, reduceIte]; try rfl) ?_
    rintro _ _ ⟨rfl, rfl⟩
    refine hstop ?_; simp (maxSteps := 2000000) (disch := omega) only [push_cast, ↓Int.cast_ofNat_Int, Nat.reduceBEq, Nat.reduceAdd, Nat.reduceLT, Nat.reduceEqDiff, reduceIte, reduceCtorEq, Nat.reduceLeDiff, Nat.reduceSub, List.reduceReplicate, Nat.reduceMul, Int.reduceToNat, Int.toNat_natCast, Nat.reducePow, reduceIte, Option.getD_some, Bool.or_true, Bool.or_false, Bool.and_true, Bool.and_false, Nat.zero_add, pos_nil, pos_cons, Option.map_some, Option.map_none]
    refine hK _ ?_; clear hK K
    (repeat first | refine HW_seq ?_ | refine hseqQ_normal ?_ | refine HW_skip ?_ | refine hblkQ_normal ?_ | refine HW_block ?_); refine HW_reg (fun K hK => ?_); simp (maxSteps := 2000000) (disch := omega) only [push_cast, ↓Int.cast_ofNat_Int, Nat.reduceBEq, Nat.reduceAdd, Nat.reduceLT, Nat.reduceEqDiff, reduceIte, reduceCtorEq, Nat.reduceLeDiff, Nat.reduceSub, List.reduceReplicate, Nat.reduceMul, Int.reduceToNat, Int.toNat_natCast, Nat.reducePow, reduceIte, strT_b, byteE_len]; refine hK _ ?_; clear hK K
    (repeat first | refine HW_seq ?_ | refine hseqQ_normal ?_ | refine HW_skip ?_ | refine hblkQ_normal ?_ | refine HW_block ?_); refine HW_reg (fun K hK => ?_); simp (maxSteps := 2000000) (disch := omega) only [push_cast, ↓Int.cast_ofNat_Int, Nat.reduceBEq, Nat.reduceAdd, Nat.reduceLT, Nat.reduceEqDiff, reduceIte, reduceCtorEq, Nat.reduceLeDiff, Nat.reduceSub, List.reduceReplicate, Nat.reduceMul, Int.reduceToNat, Int.toNat_natCast, Nat.reducePow, reduceIte]; refine hK _ ?_; clear hK K
    (repeat first | refine hseqQ_ret ?_ | refine hseqQ_exit ?_ | refine hblkQ_exit ?_ | refine hblkQ_other rfl ?_ | refine hblkQ_ret ?_ | refine hblkQ_normal ?_ | refine HW_seq ?_ | refine hseqQ_normal ?_ | refine HW_skip ?_ | refine HW_exit ?_ | refine HW_ret ?_)
    simp only [hfunSQ_normal, hfunSQ_ret, resH_nil, resH_cons, htup_one, htup_two, htup_nil, hlk_nil, hlk_cons, Nat.reduceEqDiff, reduceIte, reduceCtorEq]
    refine hresS [0, 1] (by decide) (by decide) (by simp only [push_cast, pos_nil, pos_cons, rpick_nil, rpick_cons, boxOk_nil, boxOk_cons, keepB_nil, keepB_sl, keepB_hl, keepB_bt, keepB_bf, Option.getD_some, Option.map_some, Option.map_none, Nat.zero_add, hren_v, hren_lst, hren_own, hren_tup, hren_agg, rren_sl, rren_bx, rren_hl, List.map_cons, List.map_nil, Nat.reduceEqDiff, reduceIte, implies_true, and_self, true_and, and_true, true_implies, false_implies, Nat.reduceBEq, Nat.reduceAdd, Nat.reduceLT, Nat.reduceEqDiff, reduceIte, reduceCtorEq, Nat.reduceLeDiff, Nat.reduceSub, List.reduceReplicate, Nat.reduceMul, Int.reduceToNat, Int.toNat_natCast, Nat.reducePow, reduceIte]) (by simp only [push_cast, pos_nil, pos_cons, rpick_nil, rpick_cons, boxOk_nil, boxOk_cons, keepB_nil, keepB_sl, keepB_hl, keepB_bt, keepB_bf, Option.getD_some, Option.map_some, Option.map_none, Nat.zero_add, hren_v, hren_lst, hren_own, hren_tup, hren_agg, rren_sl, rren_bx, rren_hl, List.map_cons, List.map_nil, Nat.reduceEqDiff, reduceIte, implies_true, and_self, true_and, and_true, true_implies, false_implies, Nat.reduceBEq, Nat.reduceAdd, Nat.reduceLT, Nat.reduceEqDiff, reduceIte, reduceCtorEq, Nat.reduceLeDiff, Nat.reduceSub, List.reduceReplicate, Nat.reduceMul, Int.reduceToNat, Int.toNat_natCast, Nat.reducePow, reduceIte]) (by simp only [push_cast, pos_nil, pos_cons, rpick_nil, rpick_cons, boxOk_nil, boxOk_cons, keepB_nil, keepB_sl, keepB_hl, keepB_bt, keepB_bf, Option.getD_some, Option.map_some, Option.map_none, Nat.zero_add, hren_v, hren_lst, hren_own, hren_tup, hren_agg, rren_sl, rren_bx, rren_hl, List.map_cons, List.map_nil, Nat.reduceEqDiff, reduceIte, implies_true, and_self, true_and, and_true, true_implies, false_implies, Nat.reduceBEq, Nat.reduceAdd, Nat.reduceLT, Nat.reduceEqDiff, reduceIte, reduceCtorEq, Nat.reduceLeDiff, Nat.reduceSub, List.reduceReplicate, Nat.reduceMul, Int.reduceToNat, Int.toNat_natCast, Nat.reducePow, reduceIte]; rfl) (by simp only [push_cast, pos_nil, pos_cons, rpick_nil, rpick_cons, boxOk_nil, boxOk_cons, keepB_nil, keepB_sl, keepB_hl, keepB_bt, keepB_bf, Option.getD_some, Option.map_some, Option.map_none, Nat.zero_add, hren_v, hren_lst, hren_own, hren_tup, hren_agg, rren_sl, rren_bx, rren_hl, List.map_cons, List.map_nil, Nat.reduceEqDiff, reduceIte, implies_true, and_self, true_and, and_true, true_implies, false_implies, Nat.reduceBEq, Nat.reduceAdd, Nat.reduceLT, Nat.reduceEqDiff, reduceIte, reduceCtorEq, Nat.reduceLeDiff, Nat.reduceSub, List.reduceReplicate, Nat.reduceMul, Int.reduceToNat, Int.toNat_natCast, Nat.reducePow, reduceIte]; rfl) ?_
    exact ⟨rfl, rfl⟩
end Go.Proofs.Ytppnicpbncfhnaa
