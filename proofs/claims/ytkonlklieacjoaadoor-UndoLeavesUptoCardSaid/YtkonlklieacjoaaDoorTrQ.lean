/-
  slices.Clone of a tree; slices.Insert at a tree's end.
-/
import Derived.Test.YtkonlklieacjoaaDoorTrM
import Derived.Test.YtkonlklieacjoaaDoorSl
import Derived.Test.YtkonlklieacjoaaDoorGd
import Derived.Test.YtkonlklieacjoaaDoorTrO
section
set_option linter.unusedSimpArgs false
set_option linter.unusedVariables false
set_option maxRecDepth 20000
namespace Go.Proofs.YtkonlklieacjoaaDoor
open Go Go.Eng Go.RowKit Go.Tr
end Go.Proofs.YtkonlklieacjoaaDoor
end
section
set_option linter.unusedSimpArgs false
set_option linter.unusedVariables false
namespace Go.Eng
open Go Go.RowKit
theorem HW_nilc {P : Program} {N : Nat} {Q : HPost} {S : HS} {id a d1 d2 : Nat} {t u ty1 ty2 : TypeId} {p1 p2 : String} {af1 af2 : Array Edge} {fr : Bool} {ys : List (List FV)}
  (ha : hlk S.env a = some (.lst fr ys)) (h1 : dstOk N (some d1) = true) (h2 : dstOk N (some d2) = true) (hu : (uSlice P t).isSome = true)
  (h : ∀ b : Bool, (b = true → ys = []) → Q .normal ⟨(d2, .v (.bool b)) :: (d1, .lst fr ys) :: S.env, S.st⟩) :
  HW P N (.region id #[⟨some d1, .move (.tmp a), ty1, p1, af1, none⟩, ⟨some d2, .binOp .eql t (.tmp d1) (.const (.slice none 0 0)) u, ty2, p2, af2, none⟩] false) Q S := fun c l w I => by
 obtain ⟨ρ, xs, G⟩ := I
 obtain ⟨v, hv, hr⟩ := G.env a _ ha
 have hr0 := hr
 cases hr with
 | lst hF =>
 cases hF with
 | lst sz vals hn hc hm hnil hsz hadd h1' hr' =>
 rename_i ad n cap
 refine W_region (ops := [⟨some d1, .move (.tmp a), ty1, p1, af1, none⟩, ⟨some d2, .binOp .eql t (.tmp d1) (.const (.slice none 0 0)) u, ty2, p2, af2, none⟩]) fun K hK => ?_
 simp only [VC_cons, VC_nil, gd, doOr, vcOp, po_move, po_bin, ev, hv, stp, lk, if_true, pureBin_seq]
 refine ⟨dstOk_lt h1, trivial, dstOk_lt h2, hu, hK _ _ ?_⟩
 have I1 : Inv c (S.set (some d1) (.lst fr ys)) (lk (stp (some d1) (.slice ad n cap) l)) w := InvV.set ⟨ρ, xs, G, hr0⟩ (some d1)
 obtain ⟨ρ2, xs2, G2⟩ := I1
 have I2 := InvV.set (l := stp (some d1) (.slice ad n cap) l) (h := .v (.bool ad.isNone)) (v := .bool ad.isNone) ⟨ρ2, xs2, G2, .v _⟩ (some d2)
 refine ⟨_, I2, h ad.isNone fun e => ?_⟩
 cases ad with
 | some _ => cases e
 | none =>
  have := hnil rfl
  exact List.eq_nil_of_length_eq_zero (by omega)
end Go.Eng
end
section
set_option linter.unusedSimpArgs false
set_option linter.unusedVariables false
set_option maxRecDepth 20000
namespace Go.Proofs.YtkonlklieacjoaaDoor
open Go Go.Eng Go.RowKit Go.Tr
set_option maxHeartbeats 2000000 in
theorem clone_H (t : List Ent) (hl : t.length ≤ 1048576) : HFun Tryd.prog 54 [.lst false (ents t)] (fun h st => h = .own 0 ∧ st = [(0, rowE t)]) := by
 refine hfun (N := 8) Tryd.func54 rfl Tryd.ntmps54 Tryd.results54 (by simp) ?_
 (repeat first | refine zE ?_ | refine zA ?_ | refine zC ?_ | refine zB ?_ | refine zD ?_); refine zJ (fun K hK => ?_); simp (maxSteps := 2000000) (disch := omega) only [push_cast, ↓Int.cast_ofNat_Int, simprocAttr, Int.toNat_natCast]; refine hK _ ?_; clear hK K
 (repeat first | refine zE ?_ | refine zA ?_ | refine zC ?_ | refine zB ?_ | refine zD ?_)
 refine HW_nilc rfl rfl rfl (by rw [us22]; rfl) (fun b hb => ?_)
 refine zA ?_
 dsimp only
 refine HW_cond rfl (fun hb2 => ?_) (fun hb2 => ?_)
 ·have ht : t = [] := by
   have := hb hb2
   cases t with
   | nil => rfl
   | cons a r => simp [ents] at this
  subst ht
  (repeat first | refine zE ?_ | refine zA ?_ | refine zC ?_ | refine zB ?_ | refine zD ?_); refine zJ (fun K hK => ?_); simp (maxSteps := 2000000) (disch := omega) only [push_cast, ↓Int.cast_ofNat_Int, simprocAttr, Int.toNat_natCast]; refine hK _ ?_; clear hK K
  refine HW_ownS 2 9000 68 3 rfl (by simp only [kill_eq, row_eq, rep_eq, ekill_nil, ekill_cons, skill_nil, skill_cons, hkill_v, hkill_lst, hkill_own, hkill_ptr, hkill_vw, hkill_agg, hkill_tup, hkill_junk, rkill_sl, rkill_bx, rkill_hl, only_eq, hrep_nil, hrep_cons, Nat.reduceBEq, Nat.reduceEqDiff, reduceIte, cond_true, cond_false, List.map_cons, List.map_nil]; exact rfl) ?_
  (repeat first | refine zK ?_ | refine zG ?_ | refine zH ?_ | refine zF rfl ?_ | refine zL ?_ | refine zB ?_ | refine zE ?_ | refine zA ?_ | refine zC ?_ | refine zT ?_ | refine zW ?_)
  simp only [yA, yM, yH, yE, resH_cell, resC_go, yK, yJ, zS, zM, Nat.reduceEqDiff, reduceIte, reduceCtorEq]
  exact hres_o rfl (ents_fresh []) ⟨rfl, rfl⟩
 ·(repeat first | refine zE ?_ | refine zA ?_ | refine zC ?_ | refine zB ?_ | refine zD ?_)
  (repeat first | refine zE ?_ | refine zA ?_ | refine zC ?_ | refine zB ?_ | refine zD ?_); refine zJ (fun K hK => ?_); simp (maxSteps := 2000000) (disch := omega) only [push_cast, ↓Int.cast_ofNat_Int, simprocAttr, Int.toNat_natCast, yV, yU]; (repeat refine ⟨by first | omega | decide | ((repeat' apply And.intro) <;> first | omega | decide), ?_⟩); refine hK _ ?_; clear hK K
  (repeat first | refine zK ?_ | refine zG ?_ | refine zH ?_ | refine zF rfl ?_ | refine zL ?_ | refine zB ?_ | refine zE ?_ | refine zA ?_ | refine zC ?_ | refine zT ?_ | refine zW ?_)
  simp only [yA, yM, yH, yE, resH_cell, resC_go, yK, yJ, zS, zM, Nat.reduceEqDiff, reduceIte, reduceCtorEq]
  exact hres_o rfl (ents_fresh _) ⟨rfl, rfl⟩
set_option maxHeartbeats 2000000 in
theorem insEnd_H (t : List Ent) (e : Ent) (hl : t.length ≤ 1048576) : HFunS Tryd.prog 56 [.own 0, .v (.int .i64 t.length), .own 1] [(0, rowE t), (1, rowE [e])] (fun h st => h = .own 0 ∧ st = [(0, rowE (t ++ [e]))]) := by
 refine hfunS (N := 95) Tryd.func56 rfl Tryd.ntmps56 Tryd.results56 (by simp) ?_
 have e2 : ents t ++ ents [e] = ents (t ++ [e]) := ents_app t [e]
 have e3 : [e].length = 1 := rfl
 (repeat first | refine zE ?_ | refine zA ?_ | refine zC ?_ | refine zB ?_ | refine zD ?_); refine zJ (fun K hK => ?_); simp (maxSteps := 2000000) (disch := omega) only [push_cast, ↓Int.cast_ofNat_Int, simprocAttr, Int.toNat_natCast]; refine hK _ ?_; clear hK K
 (repeat first | refine zE ?_ | refine zA ?_ | refine zC ?_ | refine zB ?_ | refine zD ?_); refine zJ (fun K hK => ?_); simp (maxSteps := 2000000) (disch := omega) only [push_cast, ↓Int.cast_ofNat_Int, simprocAttr, Int.toNat_natCast, yV]; (repeat refine ⟨by first | omega | decide | ((repeat' apply And.intro) <;> first | omega | decide), ?_⟩); refine hK _ ?_; clear hK K
 (repeat first | refine zE ?_ | refine zA ?_ | refine zC ?_ | refine zB ?_ | refine zD ?_); refine zJ (fun K hK => ?_); simp (maxSteps := 2000000) (disch := omega) only [push_cast, ↓Int.cast_ofNat_Int, simprocAttr, Int.toNat_natCast, yV, e3]; refine hK _ ?_; clear hK K
 (repeat first | refine zE ?_ | refine zA ?_ | refine zC ?_ | refine zB ?_ | refine zD ?_); refine zJ (fun K hK => ?_); simp (maxSteps := 2000000) (disch := omega) only [push_cast, ↓Int.cast_ofNat_Int, simprocAttr, Int.toNat_natCast]; refine hK _ ?_; clear hK K
 (repeat first | refine zE ?_ | refine zA ?_ | refine zC ?_ | refine zB ?_ | refine zD ?_)
 refine yC rfl ?_
 (repeat first | refine zE ?_ | refine zA ?_ | refine zC ?_ | refine zB ?_ | refine zD ?_)
 (repeat first | refine zE ?_ | refine zA ?_ | refine zC ?_ | refine zB ?_ | refine zD ?_); refine zJ (fun K hK => ?_); simp (maxSteps := 2000000) (disch := omega) only [push_cast, ↓Int.cast_ofNat_Int, simprocAttr, Int.toNat_natCast, yV]; refine hK _ ?_; clear hK K
 (repeat first | refine zE ?_ | refine zA ?_ | refine zC ?_ | refine zB ?_ | refine zD ?_); refine zJ (fun K hK => ?_); simp (maxSteps := 2000000) (disch := omega) only [push_cast, ↓Int.cast_ofNat_Int, simprocAttr, Int.toNat_natCast]; refine hK _ ?_; clear hK K
 refine yD rfl ?_
 (repeat first | refine zE ?_ | refine zA ?_ | refine zC ?_ | refine zB ?_ | refine zD ?_); refine zJ (fun K hK => ?_); simp (maxSteps := 2000000) (disch := omega) only [push_cast, ↓Int.cast_ofNat_Int, simprocAttr, Int.toNat_natCast, yV, yU, e2, e3]; (repeat refine ⟨by first | omega | decide | ((repeat' apply And.intro) <;> first | omega | decide), ?_⟩); refine hK _ ?_; clear hK K
 (repeat first | refine zK ?_ | refine zG ?_ | refine zH ?_ | refine zF rfl ?_ | refine zL ?_ | refine zB ?_ | refine zE ?_ | refine zA ?_ | refine zC ?_ | refine zT ?_ | refine zW ?_)
 simp only [hfunSQ_normal, hfunSQ_ret, yH, yE, yK, yJ, htup_nil, zS, zM, Nat.reduceEqDiff, reduceIte, reduceCtorEq]
 refine hresS [0] (by decide) (by decide) (by simp only [push_cast, pos_nil, yF, rpick_nil, yG, boxOk_nil, yL, keepB_nil, keepB_sl, keepB_hl, keepB_bt, keepB_bf, Option.getD_some, Option.map_some, Option.map_none, Nat.zero_add, hren_v, hren_lst, hren_own, hren_tup, hren_agg, rren_sl, rren_bx, rren_hl, List.map_cons, List.map_nil, simprocAttr, implies_true, and_self, true_and, and_true, true_implies, false_implies, Int.toNat_natCast]) (by simp only [push_cast, pos_nil, yF, rpick_nil, yG, boxOk_nil, yL, keepB_nil, keepB_sl, keepB_hl, keepB_bt, keepB_bf, Option.getD_some, Option.map_some, Option.map_none, Nat.zero_add, hren_v, hren_lst, hren_own, hren_tup, hren_agg, rren_sl, rren_bx, rren_hl, List.map_cons, List.map_nil, simprocAttr, implies_true, and_self, true_and, and_true, true_implies, false_implies, Int.toNat_natCast]) (by simp only [push_cast, pos_nil, yF, rpick_nil, yG, boxOk_nil, yL, keepB_nil, keepB_sl, keepB_hl, keepB_bt, keepB_bf, Option.getD_some, Option.map_some, Option.map_none, Nat.zero_add, hren_v, hren_lst, hren_own, hren_tup, hren_agg, rren_sl, rren_bx, rren_hl, List.map_cons, List.map_nil, simprocAttr, implies_true, and_self, true_and, and_true, true_implies, false_implies, Int.toNat_natCast]; rfl) (by simp only [push_cast, pos_nil, yF, rpick_nil, yG, boxOk_nil, yL, keepB_nil, keepB_sl, keepB_hl, keepB_bt, keepB_bf, Option.getD_some, Option.map_some, Option.map_none, Nat.zero_add, hren_v, hren_lst, hren_own, hren_tup, hren_agg, rren_sl, rren_bx, rren_hl, List.map_cons, List.map_nil, simprocAttr, implies_true, and_self, true_and, and_true, true_implies, false_implies, Int.toNat_natCast]; rfl) ?_
 exact ⟨rfl, rfl⟩
structure PutEnd (t : List Ent) (p : ByteArray) (n : Int × ByteArray) : Prop where
 ok : pOk p 5 = true
 whole : wholeN n = true
 some : n.1 ≠ 0
 free : there t p = false
 up : par p = { data := #[] } ∨ (getN t (par p)).1 = 1
 dir : n.1 = 1 ∨ (t.filter fun e => undr e.1 p).length ≤ 1
 room : t.length < 200
 last : place t p = t.length
 rise : rise t
 size : p.size ≤ 1048576 ∧ ∀ e ∈ t, e.1.size ≤ 1048576
end Go.Proofs.YtkonlklieacjoaaDoor
end
