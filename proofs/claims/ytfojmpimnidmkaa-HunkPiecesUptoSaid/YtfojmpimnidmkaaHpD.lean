/-
  The walk of hunk.Between, its clones as leaves.
-/
import Derived.Test.YtfojmpimnidmkaaHnkT
import Derived.Test.YtfojmpimnidmkaaPar
import Derived.Test.YtfojmpimnidmkaaChn
import Derived.Test.YtfojmpimnidmkaaFap
set_option linter.unusedSimpArgs false
set_option linter.unusedVariables false
set_option maxRecDepth 20000
namespace Go.Eng
open Go Go.RowKit
theorem fres_vv {F : List Leaf} {S : HS} {Q : HV → Store → List Leaf → Prop} {a b : Value} (q : Q (.tup [.v a, .v b]) [] F) : FRes F S (.tup [.v a, .v b]) Q :=
 ⟨[], by simp, by simp [dup], .tup fun x hx => by simp at hx; rcases hx with rfl | rfl <;> exact .v _, fun i h => by simp at h, by rw [HV.ren]; simp only [List.map_cons, List.map_nil, HV.ren, rpick]; exact q⟩
theorem fres_hv {F : List Leaf} {S : HS} {Q : HV → Store → List Leaf → Prop} {id ty sz : Nat} {els els' : List (List HV)} {b : Value} (hr : rlk S.st id = some (.hl true ty sz els)) (hp : ∀ x ∈ els, ∀ f ∈ x, PlainH f) (he : ∀ p, els.map (List.map (HV.ren p)) = els') (q : Q (.tup [.own 0, .v b]) [(0, .hl true ty sz els')] F) : FRes F S (.tup [.own id, .v b]) Q :=
 ⟨[id], by simp, by simp [dup], .tup fun x hx => by simp at hx; rcases hx with rfl | rfl <;> first | exact .v _ | exact .own _, fun i h r hr' => by
  simp at h; subst h; rw [hr] at hr'; simp only [Option.some.injEq] at hr'; subst hr'; exact ⟨rfl, hp⟩, by
  rw [HV.ren]; simp only [List.map_cons, List.map_nil, HV.ren, pos, if_true, rpick, hr, Row.ren, he]; exact q⟩
theorem slotsW_bsF (t : TypeId) (n : Nat) (ps : Array (Nat × Operand)) : slotsW (.buildSlice t n ps) = slotsP ps.toList := slotsOf_buildS t n ps
theorem bury1 {ls : List ByteArray} {i k : Nat} (hi : i < (strs ls).length) (hk : k < (strs ls)[i].length) (hv : i * 1 + k < (ls.map Value.string).length) : (strs ls)[i][k] = .v (ls.map Value.string)[i * 1 + k] := by
 have hk0 : k = 0 := by simpa [strs, strE] using hk
 subst hk0
 simp [strs, strE]
end Go.Eng
namespace Go.Proofs.Ytfojmpimnidmkaa
open Go Go.Eng Go.RowKit Go.DiffM
abbrev Ad := Option Addr × Nat
abbrev HkV := Hk ByteArray × Ad × Ad
abbrev hd (p : Ad) (n : Nat) : Value := .slice p.1 n p.2
def hlE (t : HkV) : List HV := [.v (.int .i64 t.1.at_), .v (hd t.2.1 t.1.old.length), .v (hd t.2.2 t.1.new.length)]
def hlT (T : List HkV) : List (List HV) := T.map hlE
theorem hlT_len (T : List HkV) : (hlT T).length = T.length := by simp [hlT]
theorem hlT_fix (T : List HkV) (f : HV → HV) (hf : ∀ x, f (.v x) = .v x) : (hlT T).map (List.map f) = hlT T := by
 simp only [hlT, List.map_map]
 apply List.map_congr_left
 intro t _
 simp [hlE, hf]
theorem hlT_kill (T : List HkV) (p : Nat → Bool) : (hlT T).map (List.map (HV.kill p)) = hlT T := hlT_fix T _ fun x => by rw [HV.kill]
theorem hlT_ren (T : List HkV) (p : Nat → Option Nat) : (hlT T).map (List.map (HV.ren p)) = hlT T := hlT_fix T _ fun x => by rw [HV.ren]
theorem hlT_sub (T : List HkV) (id : Nat) (x : HV) : (hlT T).map (List.map (HV.sub id x)) = hlT T := hlT_fix T _ fun x => by rw [HV.sub]
theorem hlT_snoc (T : List HkV) (n : Nat) (x y : List ByteArray) (p q : Option Addr) (c d : Nat) : hlT T ++ [[.v (.int .i64 n), .v (.slice p x.length c), .v (.slice q y.length d)]] = hlT (T ++ [(⟨n, x, y⟩, (p, c), (q, d))]) := by simp [hlT, hlE]
theorem hlT_plain (T : List HkV) : ∀ x ∈ hlT T, ∀ f ∈ x, PlainH f := fun x hx f hf => by
 obtain ⟨t, -, rfl⟩ := List.mem_map.1 hx
 simp only [hlE, List.mem_cons, List.not_mem_nil, or_false] at hf
 rcases hf with rfl | rfl | rfl <;> exact .v _
def lf (v : Value) (l : List ByteArray) : Leaf := ⟨v, 9, 1, l.length, l.map Value.string⟩
def lvs (T : List HkV) : List Leaf := T.flatMap fun t => [lf (hd t.2.1 t.1.old.length) t.1.old, lf (hd t.2.2 t.1.new.length) t.1.new]
theorem lvs_snoc (T : List HkV) (t : HkV) : (lvs T ++ [lf (hd t.2.1 t.1.old.length) t.1.old]) ++ [lf (hd t.2.2 t.1.new.length) t.1.new] = lvs (T ++ [t]) := by simp [lvs]
abbrev rowL (T : List HkV) : Row := .hl true 33 3 (hlT T)
set_option maxHeartbeats 16000000 in
theorem between_TF (a b : List ByteArray) (r : Nat) (SP : List Sp) (Q : FPost) (hA : a.length ≤ 400) (hB : b.length ≤ 400) (hr4 : r ≤ 400) (hSPl : SP.length ≤ 800)
  (hin : ∀ s ∈ SP, LocSp a b s ∧ min r s.a0 ≤ s.b0 ∧ s.b1 + min r (a.length - s.a1) ≤ b.length) (hbd : ∀ s ∈ SP, s.a0 ≤ 400 ∧ s.a1 ≤ 400 ∧ s.b0 ≤ 400 ∧ s.b1 ≤ 400)
  (hQ : ∀ T : List HkV, T.map Prod.fst = SP.map (hunkOf a b r) → Q .ret (lvs T) ⟨[(7, .v (.int .i64 0)), (6, .own 880), (159, .own 880), (17, .own 880)], [(880, rowL T)]⟩) :
  HWF Try.prog 160 (tailC 8 (Try.f4.body.getD .skip)) Q [] ⟨[(0, .lst false (strs a)), (1, .lst false (strs b)), (2, .v (.int .i64 r)), (10, .own 280)], [(280, rowS SP)]⟩ := by
 unfold Try.f4
 dsimp only [Option.getD_some, tailC]
 (repeat first | refine HWF_seq ?_ | refine fseqQ_normal ?_ | refine HWF_skip ?_ | refine fblkQ_normal ?_ | refine HWF_block ?_); refine HWF_of ?_
 (repeat first | refine zE ?_ | refine zA ?_ | refine zC ?_ | refine zB ?_ | refine zD ?_); refine zJ (fun K hK => ?_); simp (maxSteps := 2000000) (disch := omega) only [push_cast, ↓Int.cast_ofNat_Int, Nat.reduceBEq, Nat.reduceAdd, Nat.reduceLT, Nat.reduceEqDiff, reduceIte, reduceCtorEq, Nat.reduceLeDiff, Nat.reduceSub, List.reduceReplicate, Nat.reduceMul, Int.reduceToNat, Int.toNat_natCast, Nat.reducePow, reduceIte]; refine hK _ ?_; clear hK K
 (repeat first | refine HWF_seq ?_ | refine fseqQ_normal ?_ | refine HWF_skip ?_ | refine fblkQ_normal ?_ | refine HWF_block ?_); refine HWF_of ?_
 refine HW_hl 880 rfl (by simp only [sset_nil, sset_cons, List.map_cons, List.map_nil, fh_v, fh_lst, Nat.reduceEqDiff, reduceIte]; exact rfl) ?_
 (repeat first | refine zE ?_ | refine zA ?_ | refine zC ?_ | refine zB ?_ | refine zD ?_); refine zJ (fun K hK => ?_); simp (maxSteps := 2000000) (disch := omega) only [push_cast, ↓Int.cast_ofNat_Int, Nat.reduceBEq, Nat.reduceAdd, Nat.reduceLT, Nat.reduceEqDiff, reduceIte, reduceCtorEq, Nat.reduceLeDiff, Nat.reduceSub, List.reduceReplicate, Nat.reduceMul, Int.reduceToNat, Int.toNat_natCast, Nat.reducePow, reduceIte, sps_len]; refine hK _ ?_; clear hK K
 (repeat first | refine HWF_seq ?_ | refine fseqQ_normal ?_ | refine HWF_skip ?_ | refine fblkQ_normal ?_ | refine HWF_block ?_)
 refine HWF_keep [0, 1, 2, 17, 111, 112, 113] [280, 880] (by simp only [zZ, zR, zP, zQ, zN, zS, zM, zX, zU, Nat.reduceEqDiff, reduceIte]; exact rfl) ?_
 refine HWF_loop (fun x : Nat × List HkV => ⟨[(0, .lst false (strs a)), (1, .lst false (strs b)), (2, .v (.int .i64 r)), (17, .own 880), (111, .own 280), (112, .v (.int .i64 SP.length)), (113, .v (.int .i64 x.1))], [(280, rowS SP), (880, rowL x.2)]⟩) (fun x => lvs x.2) (fun x => x.1 ≤ SP.length ∧ x.2.map Prod.fst = (SP.take x.1).map (hunkOf a b r)) (fun x => SP.length - x.1) [0, 1, 2, 17, 111, 112, 113] [280, 880] (0, []) (by simp only [zZ, zR, zP, zQ, zN, zS, zM, zX, zU, Nat.reduceEqDiff, reduceIte]; rfl) rfl ⟨Nat.zero_le _, rfl⟩ ?_
 rintro ⟨m, T⟩ ⟨hm, hT⟩
 dsimp only at hm hT ⊢
 by_cases hml : m < SP.length
 ·obtain ⟨s, hs⟩ : ∃ s, SP[m] = s := ⟨_, rfl⟩
  have hsm : s ∈ SP := hs ▸ List.getElem_mem hml
  obtain ⟨hL, k1, k2⟩ := hin s hsm
  obtain ⟨b1, b2, b3, b4⟩ := hbd s hsm
  obtain ⟨l1, l2, -, l3, l4, -⟩ := hL
  (repeat first | refine HWF_seq ?_ | refine fseqQ_normal ?_ | refine HWF_skip ?_ | refine fblkQ_normal ?_ | refine HWF_block ?_); refine HWF_of ?_
  (repeat first | refine zE ?_ | refine zA ?_ | refine zC ?_ | refine zB ?_ | refine zD ?_); refine zJ (fun K hK => ?_); simp (maxSteps := 2000000) (disch := omega) only [push_cast, ↓Int.cast_ofNat_Int, Nat.reduceBEq, Nat.reduceAdd, Nat.reduceLT, Nat.reduceEqDiff, reduceIte, reduceCtorEq, Nat.reduceLeDiff, Nat.reduceSub, List.reduceReplicate, Nat.reduceMul, Int.reduceToNat, Int.toNat_natCast, Nat.reducePow, reduceIte]; refine hK _ ?_; clear hK K
  (repeat first | refine HWF_seq ?_ | refine fseqQ_normal ?_ | refine HWF_skip ?_ | refine fblkQ_normal ?_ | refine HWF_block ?_); refine HWF_of ?_
  refine yD rfl ?_
  (repeat first | refine zK ?_ | refine zG ?_ | refine zH ?_ | refine zF rfl ?_ | refine zL ?_ | refine zB ?_ | refine zE ?_ | refine zA ?_ | refine zC ?_ | refine zT ?_ | refine zW ?_)
  (repeat first | refine HWF_seq ?_ | refine fseqQ_normal ?_ | refine HWF_skip ?_ | refine fblkQ_normal ?_ | refine HWF_block ?_); refine HWF_of ?_
  (repeat first | refine zE ?_ | refine zA ?_ | refine zC ?_ | refine zB ?_ | refine zD ?_); refine zJ (fun K hK => ?_); simp (maxSteps := 2000000) (disch := omega) only [push_cast, ↓Int.cast_ofNat_Int, Nat.reduceBEq, Nat.reduceAdd, Nat.reduceLT, Nat.reduceEqDiff, reduceIte, reduceCtorEq, Nat.reduceLeDiff, Nat.reduceSub, List.reduceReplicate, Nat.reduceMul, Int.reduceToNat, Int.toNat_natCast, Nat.reducePow, reduceIte, sps_len, sps_get hml, hs, hlT_kill]; refine hK _ ?_; clear hK K
  (repeat first | refine HWF_seq ?_ | refine fseqQ_normal ?_ | refine HWF_skip ?_ | refine fblkQ_normal ?_ | refine HWF_block ?_); refine HWF_of ?_
  refine yB [0, 1, 2, 17, 19, 111, 112, 113] [152, 280, 880] (by simp only [zZ, zR, zP, zQ, zN, zS, zM, zX, zU, Nat.reduceEqDiff, reduceIte]; exact rfl) ?_
  obtain ⟨mn, hmn⟩ : ∃ mn, mn = min r s.a0 := ⟨_, rfl⟩
  obtain ⟨mx, hmx⟩ : ∃ mx, mx = min r (a.length - s.a1) := ⟨_, rfl⟩
  have em1 : (if (s.a0 : Int) < (r : Int) then (s.a0 : Int) else (r : Int)) = (mn : Int) := by split <;> omega
  have em2 : (if (a.length : Int) - (s.a1 : Int) < (r : Int) then (a.length : Int) - (s.a1 : Int) else (r : Int)) = (mx : Int) := by split <;> omega
  obtain ⟨lo, hlo⟩ : ∃ x, x = s.a0 - mn := ⟨_, rfl⟩
  obtain ⟨hi, hhi⟩ : ∃ x, x = s.a1 + mx := ⟨_, rfl⟩
  obtain ⟨lo2, hlo2⟩ : ∃ x, x = s.b0 - mn := ⟨_, rfl⟩
  obtain ⟨hi2, hhi2⟩ : ∃ x, x = s.b1 + mx := ⟨_, rfl⟩
  have el1 : (s.a0 : Int) - (mn : Int) = (lo : Int) := by omega
  have el2 : (s.a1 : Int) + (mx : Int) = (hi : Int) := by omega
  have el3 : (s.b0 : Int) - (mn : Int) = (lo2 : Int) := by omega
  have el4 : (s.b1 : Int) + (mx : Int) = (hi2 : Int) := by omega
  have hhk : hunkOf a b r s = ⟨lo, (a.take hi).drop lo, (b.take hi2).drop lo2⟩ := by simp only [hunkOf, ← hmn, ← hmx, ← hlo, ← hhi, ← hlo2, ← hhi2]
  rw [← hmn] at k1
  rw [← hmx] at k2
  have q1 : lo ≤ hi ∧ hi ≤ a.length := by omega
  have q2 : lo2 ≤ hi2 ∧ hi2 ≤ b.length := by omega
  have c1 := clone_H ((a.take hi).drop lo) (by rw [List.length_drop, List.length_take]; omega)
  have c2 := clone_H ((b.take hi2).drop lo2) (by rw [List.length_drop, List.length_take]; omega)
  (repeat first | refine zE ?_ | refine zA ?_ | refine zC ?_ | refine zB ?_ | refine zD ?_); refine HW_drw 13 mixed (by kernel_rfl) (fun K hK => ?_); simp (maxSteps := 2000000) (disch := omega) only [push_cast, ↓Int.cast_ofNat_Int, Nat.reduceBEq, Nat.reduceAdd, Nat.reduceLT, Nat.reduceEqDiff, reduceIte, reduceCtorEq, Nat.reduceLeDiff, Nat.reduceSub, List.reduceReplicate, Nat.reduceMul, Int.reduceToNat, Int.toNat_natCast, Nat.reducePow, reduceIte, strs_len]
  rw [em1, em2]
  with_reducible refine hstop ?_; simp (maxSteps := 2000000) (disch := omega) only [push_cast, ↓Int.cast_ofNat_Int, Nat.reduceBEq, Nat.reduceAdd, Nat.reduceLT, Nat.reduceEqDiff, reduceIte, reduceCtorEq, Nat.reduceLeDiff, Nat.reduceSub, List.reduceReplicate, Nat.reduceMul, Int.reduceToNat, Int.toNat_natCast, Nat.reducePow, reduceIte, strs_len]
  refine hK _ ?_; clear hK K
  (repeat first | refine HWF_seq ?_ | refine fseqQ_normal ?_ | refine HWF_skip ?_ | refine fblkQ_normal ?_ | refine HWF_block ?_); refine HWF_of ?_
  refine yB [0, 1, 2, 17, 19, 20, 21, 111, 112, 113] [152, 280, 880] (by simp only [zZ, zR, zP, zQ, zN, zS, zM, zX, zU, Nat.reduceEqDiff, reduceIte]; exact rfl) ?_
  have hlen : T.length = m := by have := congrArg List.length hT; simp only [List.length_map, List.length_take] at this; omega
  (repeat first | refine zE ?_ | refine zA ?_ | refine zC ?_ | refine zB ?_ | refine zD ?_); refine HW_drwC 29 [(15, some 1144), (26, some 1232), (28, some 1248)] [[(152, .bx true 44 [.v (.int .i64 s.a0), .v (.int .i64 s.a1), .v (.int .i64 s.b0), .v (.int .i64 s.b1)]), (280, rowS SP), (880, rowL T)], (1144, .sl true 9 1 (strs ((a.take hi).drop lo))) :: [(152, .bx true 44 [.v (.int .i64 s.a0), .v (.int .i64 s.a1), .v (.int .i64 s.b0), .v (.int .i64 s.b1)]), (280, rowS SP), (880, rowL T)], (1232, .sl true 9 1 (strs ((b.take hi2).drop lo2))) :: (1144, .sl true 9 1 (strs ((a.take hi).drop lo))) :: [(152, .bx true 44 [.v (.int .i64 s.a0), .v (.int .i64 s.a1), .v (.int .i64 s.b0), .v (.int .i64 s.b1)]), (280, rowS SP), (880, rowL T)], (1248, .hl true 33 3 [[.v (.int .i64 lo), .own 1144, .own 1232]]) :: (1232, .sl true 9 1 (strs ((b.take hi2).drop lo2))) :: (1144, .sl true 9 1 (strs ((a.take hi).drop lo))) :: [(152, .bx true 44 [.v (.int .i64 s.a0), .v (.int .i64 s.a1), .v (.int .i64 s.b0), .v (.int .i64 s.b1)]), (280, rowS SP), (880, rowL T)]] [(2, 0, 3), (7, 0, 3), (11, 0, 3), (18, 0, 3), (22, 0, 3), (27, 2, 2)] mixed (by kernel_rfl) (by kernel_rfl) rfl (fun K hK K1 hK1 => ?_); simp (maxSteps := 2000000) (disch := omega) only [push_cast, ↓Int.cast_ofNat_Int, Nat.reduceBEq, Nat.reduceAdd, Nat.reduceLT, Nat.reduceEqDiff, reduceIte, reduceCtorEq, Nat.reduceLeDiff, Nat.reduceSub, List.reduceReplicate, Nat.reduceMul, Int.reduceToNat, Int.toNat_natCast, Nat.reducePow, reduceIte, nextW_nil, nextW_cons, rgOf_nil, rgOf_cons, kf_some, kf_no, stays_nil, stays_cons, strongK_store, strongK_copy, strongK_app, strongK_build, strongK_alloc, hwr2_go, hwr2_call, hall_zero, hall_one, hall_two, hall_three, slotsW_store, slotsW_call, hvca_eq, hvcb_eq, hvce_eq, hvcw_some, hvcw_none, hvc1_none, hvc1_some, hvc_nil, hvcS_some, hvcS_none, hvc_cons, List.tail_cons, List.take_nil, List.drop_nil, implies_true, el1, el2, el3, el4, strs_len, strs_wid, strs_take, strs_drop, hlT_kill, slotsW_bsF]
  refine hatW 1144 cl11 c1 (.cons (lendL (strs_old _)) .nil) (by simp only [skill_nil, skill_cons, rkill_sl, rkill_bx, rkill_hl, hkill_v, hkill_lst, hkill_own, hkill_ptr, only_eq, hlT_kill, List.map_cons, List.map_nil, Nat.reduceBEq, Nat.reduceEqDiff, reduceIte, cond_false, cond_true]; try rfl) ?_
  simp (maxSteps := 2000000) (disch := omega) only [push_cast, ↓Int.cast_ofNat_Int, Nat.reduceBEq, Nat.reduceAdd, Nat.reduceLT, Nat.reduceEqDiff, reduceIte, reduceCtorEq, Nat.reduceLeDiff, Nat.reduceSub, List.reduceReplicate, Nat.reduceMul, Int.reduceToNat, Int.toNat_natCast, Nat.reducePow, reduceIte, Nat.reduceEqDiff, reduceIte, hren_v, hren_lst, hren_own, hren_tup, hren_agg, List.map_cons, List.map_nil, nextW_nil, nextW_cons, rgOf_nil, rgOf_cons, kf_some, kf_no, stays_nil, stays_cons, strongK_store, strongK_copy, strongK_app, strongK_build, strongK_alloc, hwr2_go, hwr2_call, hall_zero, hall_one, hall_two, hall_three, slotsW_store, slotsW_call, hvca_eq, hvcb_eq, hvce_eq, hvcw_some, hvcw_none, hvc1_none, hvc1_some, hvc_nil, hvcS_some, hvcS_none, hvc_cons, List.tail_cons, List.take_nil, List.drop_nil, implies_true, el1, el2, el3, el4, strs_len, strs_wid, strs_take, strs_drop, hlT_kill, slotsW_bsF]
  refine hatW 1232 cl11 c2 (.cons (lendL (strs_old _)) .nil) (by simp only [skill_nil, skill_cons, rkill_sl, rkill_bx, rkill_hl, hkill_v, hkill_lst, hkill_own, hkill_ptr, only_eq, hlT_kill, List.map_cons, List.map_nil, Nat.reduceBEq, Nat.reduceEqDiff, reduceIte, cond_false, cond_true]; try rfl) ?_
  simp (maxSteps := 2000000) (disch := omega) only [push_cast, ↓Int.cast_ofNat_Int, Nat.reduceBEq, Nat.reduceAdd, Nat.reduceLT, Nat.reduceEqDiff, reduceIte, reduceCtorEq, Nat.reduceLeDiff, Nat.reduceSub, List.reduceReplicate, Nat.reduceMul, Int.reduceToNat, Int.toNat_natCast, Nat.reducePow, reduceIte, Nat.reduceEqDiff, reduceIte, hren_v, hren_lst, hren_own, hren_tup, hren_agg, List.map_cons, List.map_nil, nextW_nil, nextW_cons, rgOf_nil, rgOf_cons, kf_some, kf_no, stays_nil, stays_cons, strongK_store, strongK_copy, strongK_app, strongK_build, strongK_alloc, hwr2_go, hwr2_call, hall_zero, hall_one, hall_two, hall_three, slotsW_store, slotsW_call, hvca_eq, hvcb_eq, hvce_eq, hvcw_some, hvcw_none, hvc1_none, hvc1_some, hvc_nil, hvcS_some, hvcS_none, hvc_cons, List.tail_cons, List.take_nil, List.drop_nil, implies_true, el1, el2, el3, el4, strs_len, strs_wid, strs_take, strs_drop, hlT_kill, slotsW_bsF]
  clear c1 c2
  clear em1 em2 el1 el2 el3 el4 hmn hmx hlo hhi hlo2 hhi2 k1 k2 b1 b2 b3 b4 l1 l2 l3 l4 q1 q2
  refine hK1 _ ?_; (try clear hK1 K1); with_reducible refine hstop ?_; simp (maxSteps := 2000000) (disch := omega) only [push_cast, ↓Int.cast_ofNat_Int, Nat.reduceBEq, Nat.reduceAdd, Nat.reduceLT, Nat.reduceEqDiff, reduceIte, reduceCtorEq, Nat.reduceLeDiff, Nat.reduceSub, List.reduceReplicate, Nat.reduceMul, Int.reduceToNat, Int.toNat_natCast, Nat.reducePow, reduceIte, hlT_len, hlen, hlT_kill, List.map_append]
  refine hK _ ?_; clear hK K
  (repeat first | refine fseqQ_ret ?_ | refine fseqQ_exit ?_ | refine fblkQ_exit ?_ | refine fblkQ_other rfl ?_ | refine fblkQ_ret ?_ | refine fblkQ_normal ?_ | refine HWF_seq ?_ | refine fseqQ_normal ?_ | refine HWF_skip ?_ | refine HWF_exit ?_ | refine HWF_ret ?_)
  refine HWF_keep [0, 1, 2, 17, 111, 112, 113] [280, 880, 1144, 1232] (by simp only [zZ, zR, zP, zQ, zN, zS, zM, zX, zU, Nat.reduceEqDiff, reduceIte]; exact rfl) ?_
  refine HWF_bury 1144 (((a.take hi).drop lo).map Value.string) (by simp only [zX, zU, Nat.reduceEqDiff, reduceIte]; exact rfl) (by simp only [List.length_map, hlT_sub, strs_len]; try omega) (by intro i k hi hk hv; first | exact bury1 hi hk hv | simp_all) ?_; intro p1 z1; simp only [rest_eq, esub_nil, esub_cons, ssub_nil, ssub_cons, hsub_v, hsub_lst, hsub_elt, hsub_junk, hsub_own, hsub_ptr, hsub_vw, hsub_agg, hsub_tup, rsub_sl, rsub_hl, rsub_bx, Nat.reduceEqDiff, reduceIte, List.map_cons, List.map_nil, List.map_append, hlT_sub, strs_len]
  refine HWF_bury 1232 (((b.take hi2).drop lo2).map Value.string) (by simp only [zX, zU, Nat.reduceEqDiff, reduceIte]; exact rfl) (by simp only [List.length_map, hlT_sub, strs_len]; try omega) (by intro i k hi hk hv; first | exact bury1 hi hk hv | simp_all) ?_; intro p2 z2; simp only [rest_eq, esub_nil, esub_cons, ssub_nil, ssub_cons, hsub_v, hsub_lst, hsub_elt, hsub_junk, hsub_own, hsub_ptr, hsub_vw, hsub_agg, hsub_tup, rsub_sl, rsub_hl, rsub_bx, Nat.reduceEqDiff, reduceIte, List.map_cons, List.map_nil, List.map_append, hlT_sub, strs_len]
  (repeat first | refine HWF_seq ?_ | refine fseqQ_normal ?_ | refine HWF_skip ?_ | refine fblkQ_normal ?_ | refine HWF_block ?_); refine HWF_of ?_
  (repeat first | refine zE ?_ | refine zA ?_ | refine zC ?_ | refine zB ?_ | refine zD ?_); refine zJ (fun K hK => ?_); simp (maxSteps := 2000000) (disch := omega) only [push_cast, ↓Int.cast_ofNat_Int, Nat.reduceBEq, Nat.reduceAdd, Nat.reduceLT, Nat.reduceEqDiff, reduceIte, reduceCtorEq, Nat.reduceLeDiff, Nat.reduceSub, List.reduceReplicate, Nat.reduceMul, Int.reduceToNat, Int.toNat_natCast, Nat.reducePow, reduceIte]; refine hK _ ?_; clear hK K
  (repeat first | refine fseqQ_ret ?_ | refine fseqQ_exit ?_ | refine fblkQ_exit ?_ | refine fblkQ_other rfl ?_ | refine fblkQ_ret ?_ | refine fblkQ_normal ?_ | refine HWF_seq ?_ | refine fseqQ_normal ?_ | refine HWF_skip ?_ | refine HWF_exit ?_ | refine HWF_ret ?_)
  refine ⟨(m + 1, T ++ [(⟨lo, (a.take hi).drop lo, (b.take hi2).drop lo2⟩, (p1, z1), (p2, z2))]), ?_, ?_, ⟨hml, ?_⟩, by dsimp only; omega⟩
  ·simp only [zZ, zR, zP, zQ, zN, zS, zM, zX, zU, Nat.reduceEqDiff, reduceIte, hlT_snoc _ _ ((a.take hi).drop lo) ((b.take hi2).drop lo2)]
   exact rfl
  ·exact lvs_snoc T (⟨lo, (a.take hi).drop lo, (b.take hi2).drop lo2⟩, (p1, z1), (p2, z2))
  ·rw [List.take_succ_eq_append_getElem hml, hs, List.map_append, List.map_append, hT, List.map_singleton, List.map_singleton, hhk]
 ·have hne : m = SP.length := by omega
  subst hne
  (repeat first | refine HWF_seq ?_ | refine fseqQ_normal ?_ | refine HWF_skip ?_ | refine fblkQ_normal ?_ | refine HWF_block ?_); refine HWF_of ?_
  (repeat first | refine zE ?_ | refine zA ?_ | refine zC ?_ | refine zB ?_ | refine zD ?_); refine zJ (fun K hK => ?_); simp (maxSteps := 2000000) (disch := omega) only [push_cast, ↓Int.cast_ofNat_Int, Nat.reduceBEq, Nat.reduceAdd, Nat.reduceLT, Nat.reduceEqDiff, reduceIte, reduceCtorEq, Nat.reduceLeDiff, Nat.reduceSub, List.reduceReplicate, Nat.reduceMul, Int.reduceToNat, Int.toNat_natCast, Nat.reducePow, reduceIte]; refine hK _ ?_; clear hK K
  (repeat first | refine HWF_seq ?_ | refine fseqQ_normal ?_ | refine HWF_skip ?_ | refine fblkQ_normal ?_ | refine HWF_block ?_); refine HWF_of ?_
  refine yC rfl ?_
  (repeat first | refine zK ?_ | refine zG ?_ | refine zH ?_ | refine zF rfl ?_ | refine zL ?_ | refine zB ?_ | refine zE ?_ | refine zA ?_ | refine zC ?_ | refine zT ?_ | refine zW ?_)
  (repeat first | refine fseqQ_ret ?_ | refine fseqQ_exit ?_ | refine fblkQ_exit ?_ | refine fblkQ_other rfl ?_ | refine fblkQ_ret ?_ | refine fblkQ_normal ?_ | refine HWF_seq ?_ | refine fseqQ_normal ?_ | refine HWF_skip ?_ | refine HWF_exit ?_ | refine HWF_ret ?_)
  (repeat first | refine HWF_seq ?_ | refine fseqQ_normal ?_ | refine HWF_skip ?_ | refine fblkQ_normal ?_ | refine HWF_block ?_); refine HWF_of ?_
  (repeat first | refine zE ?_ | refine zA ?_ | refine zC ?_ | refine zB ?_ | refine zD ?_); refine zJ (fun K hK => ?_); simp (maxSteps := 2000000) (disch := omega) only [push_cast, ↓Int.cast_ofNat_Int, Nat.reduceBEq, Nat.reduceAdd, Nat.reduceLT, Nat.reduceEqDiff, reduceIte, reduceCtorEq, Nat.reduceLeDiff, Nat.reduceSub, List.reduceReplicate, Nat.reduceMul, Int.reduceToNat, Int.toNat_natCast, Nat.reducePow, reduceIte]; refine hK _ ?_; clear hK K
  (repeat first | refine HWF_seq ?_ | refine fseqQ_normal ?_ | refine HWF_skip ?_ | refine fblkQ_normal ?_ | refine HWF_block ?_)
  refine HWF_keep [7, 6, 159, 17] [880] (by simp only [zZ, zR, zP, zQ, zN, zS, zM, zX, zU, Nat.reduceEqDiff, reduceIte]; exact rfl) ?_
  (repeat first | refine fseqQ_ret ?_ | refine fseqQ_exit ?_ | refine fblkQ_exit ?_ | refine fblkQ_other rfl ?_ | refine fblkQ_ret ?_ | refine fblkQ_normal ?_ | refine HWF_seq ?_ | refine fseqQ_normal ?_ | refine HWF_skip ?_ | refine HWF_exit ?_ | refine HWF_ret ?_)
  rw [List.take_length] at hT
  exact hQ T hT
set_option maxHeartbeats 16000000 in
theorem between_F (a b : List ByteArray) (around : Int) (w1 : -9223372036854775808 ≤ around) (w2 : around ≤ 9223372036854775807) : HFunF Try.prog 4 [.lst false (strs a), .lst false (strs b), .v (.int .i64 around)] (fun h st F =>
  (around < 0 ∧ h = .tup [.v (.slice none 0 0), .v (.int .i64 1)] ∧ st = [] ∧ F = []) ∨ (0 ≤ around ∧ (400 < a.length ∨ 400 < b.length) ∧ h = .tup [.v (.slice none 0 0), .v (.int .i64 4)] ∧ st = [] ∧ F = []) ∨
  (0 ≤ around ∧ a.length ≤ 400 ∧ b.length ≤ 400 ∧ h = .tup [.own 0, .v (.int .i64 0)] ∧ ∃ T : List HkV, T.map Prod.fst = between a b (min around 400).toNat ∧ st = [(0, rowL T)] ∧ F = lvs T)) := by
 refine hfunF (N := 160) Try.func4 rfl Try.ntmps4 Try.results4 (by simp) ?_
 (repeat first | refine HWF_seq ?_ | refine fseqQ_normal ?_ | refine HWF_skip ?_ | refine fblkQ_normal ?_ | refine HWF_block ?_); refine HWF_of ?_
 (repeat first | refine zE ?_ | refine zA ?_ | refine zC ?_ | refine zB ?_ | refine zD ?_); refine zJ (fun K hK => ?_); simp (maxSteps := 2000000) (disch := omega) only [push_cast, ↓Int.cast_ofNat_Int, Nat.reduceBEq, Nat.reduceAdd, Nat.reduceLT, Nat.reduceEqDiff, reduceIte, reduceCtorEq, Nat.reduceLeDiff, Nat.reduceSub, List.reduceReplicate, Nat.reduceMul, Int.reduceToNat, Int.toNat_natCast, Nat.reducePow, reduceIte]; refine hK _ ?_; clear hK K
 by_cases hneg : around < 0
 ·(repeat first | refine HWF_seq ?_ | refine fseqQ_normal ?_ | refine HWF_skip ?_ | refine fblkQ_normal ?_ | refine HWF_block ?_); refine HWF_of ?_
  (repeat first | refine zE ?_ | refine zA ?_ | refine zC ?_ | refine zB ?_ | refine zD ?_); refine zJ (fun K hK => ?_); simp (maxSteps := 2000000) (disch := omega) only [push_cast, ↓Int.cast_ofNat_Int, Nat.reduceBEq, Nat.reduceAdd, Nat.reduceLT, Nat.reduceEqDiff, reduceIte, reduceCtorEq, Nat.reduceLeDiff, Nat.reduceSub, List.reduceReplicate, Nat.reduceMul, Int.reduceToNat, Int.toNat_natCast, Nat.reducePow, reduceIte]; refine hK _ ?_; clear hK K
  (repeat first | refine HWF_seq ?_ | refine fseqQ_normal ?_ | refine HWF_skip ?_ | refine fblkQ_normal ?_ | refine HWF_block ?_); refine HWF_of ?_
  refine yD rfl ?_
  (repeat first | refine zE ?_ | refine zA ?_ | refine zC ?_ | refine zB ?_ | refine zD ?_); refine zJ (fun K hK => ?_); simp (maxSteps := 2000000) (disch := omega) only [push_cast, ↓Int.cast_ofNat_Int, Nat.reduceBEq, Nat.reduceAdd, Nat.reduceLT, Nat.reduceEqDiff, reduceIte, reduceCtorEq, Nat.reduceLeDiff, Nat.reduceSub, List.reduceReplicate, Nat.reduceMul, Int.reduceToNat, Int.toNat_natCast, Nat.reducePow, reduceIte]; refine hK _ ?_; clear hK K
  (repeat first | refine zK ?_ | refine zG ?_ | refine zH ?_ | refine zF rfl ?_ | refine zL ?_ | refine zB ?_ | refine zE ?_ | refine zA ?_ | refine zC ?_ | refine zT ?_ | refine zW ?_)
  refine fseqQ_ret ?_
  simp only [ffunQ, yH, yE, yK, yJ, zS, zM, Nat.reduceEqDiff, reduceIte, reduceCtorEq]
  exact fres_vv (.inl ⟨hneg, rfl, rfl, rfl⟩)
 (repeat first | refine HWF_seq ?_ | refine fseqQ_normal ?_ | refine HWF_skip ?_ | refine fblkQ_normal ?_ | refine HWF_block ?_); refine HWF_of ?_
 (repeat first | refine zE ?_ | refine zA ?_ | refine zC ?_ | refine zB ?_ | refine zD ?_); refine zJ (fun K hK => ?_); simp (maxSteps := 2000000) (disch := omega) only [push_cast, ↓Int.cast_ofNat_Int, Nat.reduceBEq, Nat.reduceAdd, Nat.reduceLT, Nat.reduceEqDiff, reduceIte, reduceCtorEq, Nat.reduceLeDiff, Nat.reduceSub, List.reduceReplicate, Nat.reduceMul, Int.reduceToNat, Int.toNat_natCast, Nat.reducePow, reduceIte]; refine hK _ ?_; clear hK K
 (repeat first | refine HWF_seq ?_ | refine fseqQ_normal ?_ | refine HWF_skip ?_ | refine fblkQ_normal ?_ | refine HWF_block ?_); refine HWF_of ?_
 refine yC rfl ?_
 (repeat first | refine zK ?_ | refine zG ?_ | refine zH ?_ | refine zF rfl ?_ | refine zL ?_ | refine zB ?_ | refine zE ?_ | refine zA ?_ | refine zC ?_ | refine zT ?_ | refine zW ?_)
 (repeat first | refine HWF_seq ?_ | refine fseqQ_normal ?_ | refine HWF_skip ?_ | refine fblkQ_normal ?_ | refine HWF_block ?_); refine HWF_of ?_
 (repeat first | refine zE ?_ | refine zA ?_ | refine zC ?_ | refine zB ?_ | refine zD ?_); refine zJ (fun K hK => ?_); simp (maxSteps := 2000000) (disch := omega) only [push_cast, ↓Int.cast_ofNat_Int, Nat.reduceBEq, Nat.reduceAdd, Nat.reduceLT, Nat.reduceEqDiff, reduceIte, reduceCtorEq, Nat.reduceLeDiff, Nat.reduceSub, List.reduceReplicate, Nat.reduceMul, Int.reduceToNat, Int.toNat_natCast, Nat.reducePow, reduceIte]
 refine hat 216 cl10 (script_H a b) (.cons (lendL (strs_old _)) (.cons (lendL (strs_old _)) .nil)) ?_
 rintro _ _ (⟨hlim, rfl, rfl⟩ | ⟨hA, hB, rfl, rfl⟩)
 ·with_reducible refine hstop ?_; simp (maxSteps := 2000000) (disch := omega) only [push_cast, ↓Int.cast_ofNat_Int, Nat.reduceBEq, Nat.reduceAdd, Nat.reduceLT, Nat.reduceEqDiff, reduceIte, reduceCtorEq, Nat.reduceLeDiff, Nat.reduceSub, List.reduceReplicate, Nat.reduceMul, Int.reduceToNat, Int.toNat_natCast, Nat.reducePow, reduceIte]
  refine hK _ ?_; clear hK K
  (repeat first | refine HWF_seq ?_ | refine fseqQ_normal ?_ | refine HWF_skip ?_ | refine fblkQ_normal ?_ | refine HWF_block ?_); refine HWF_of ?_
  (repeat first | refine zE ?_ | refine zA ?_ | refine zC ?_ | refine zB ?_ | refine zD ?_); refine zJ (fun K hK => ?_); simp (maxSteps := 2000000) (disch := omega) only [push_cast, ↓Int.cast_ofNat_Int, Nat.reduceBEq, Nat.reduceAdd, Nat.reduceLT, Nat.reduceEqDiff, reduceIte, reduceCtorEq, Nat.reduceLeDiff, Nat.reduceSub, List.reduceReplicate, Nat.reduceMul, Int.reduceToNat, Int.toNat_natCast, Nat.reducePow, reduceIte]; refine hK _ ?_; clear hK K
  (repeat first | refine HWF_seq ?_ | refine fseqQ_normal ?_ | refine HWF_skip ?_ | refine fblkQ_normal ?_ | refine HWF_block ?_); refine HWF_of ?_
  refine yD rfl ?_
  (repeat first | refine zE ?_ | refine zA ?_ | refine zC ?_ | refine zB ?_ | refine zD ?_); refine zJ (fun K hK => ?_); simp (maxSteps := 2000000) (disch := omega) only [push_cast, ↓Int.cast_ofNat_Int, Nat.reduceBEq, Nat.reduceAdd, Nat.reduceLT, Nat.reduceEqDiff, reduceIte, reduceCtorEq, Nat.reduceLeDiff, Nat.reduceSub, List.reduceReplicate, Nat.reduceMul, Int.reduceToNat, Int.toNat_natCast, Nat.reducePow, reduceIte]; refine hK _ ?_; clear hK K
  (repeat first | refine zK ?_ | refine zG ?_ | refine zH ?_ | refine zF rfl ?_ | refine zL ?_ | refine zB ?_ | refine zE ?_ | refine zA ?_ | refine zC ?_ | refine zT ?_ | refine zW ?_)
  refine fseqQ_ret ?_
  simp only [ffunQ, yH, yE, yK, yJ, zS, zM, Nat.reduceEqDiff, reduceIte, reduceCtorEq]
  exact fres_vv (.inr (.inl ⟨by omega, hlim, rfl, rfl, rfl⟩))
 with_reducible refine hstop ?_; simp (maxSteps := 2000000) (disch := omega) only [push_cast, ↓Int.cast_ofNat_Int, Nat.reduceBEq, Nat.reduceAdd, Nat.reduceLT, Nat.reduceEqDiff, reduceIte, reduceCtorEq, Nat.reduceLeDiff, Nat.reduceSub, List.reduceReplicate, Nat.reduceMul, Int.reduceToNat, Int.toNat_natCast, Nat.reducePow, reduceIte]
 refine hK _ ?_; clear hK K
 (repeat first | refine HWF_seq ?_ | refine fseqQ_normal ?_ | refine HWF_skip ?_ | refine fblkQ_normal ?_ | refine HWF_block ?_); refine HWF_of ?_
 (repeat first | refine zE ?_ | refine zA ?_ | refine zC ?_ | refine zB ?_ | refine zD ?_); refine zJ (fun K hK => ?_); simp (maxSteps := 2000000) (disch := omega) only [push_cast, ↓Int.cast_ofNat_Int, Nat.reduceBEq, Nat.reduceAdd, Nat.reduceLT, Nat.reduceEqDiff, reduceIte, reduceCtorEq, Nat.reduceLeDiff, Nat.reduceSub, List.reduceReplicate, Nat.reduceMul, Int.reduceToNat, Int.toNat_natCast, Nat.reducePow, reduceIte]; refine hK _ ?_; clear hK K
 (repeat first | refine HWF_seq ?_ | refine fseqQ_normal ?_ | refine HWF_skip ?_ | refine fblkQ_normal ?_ | refine HWF_block ?_); refine HWF_of ?_
 refine yC rfl ?_
 (repeat first | refine zK ?_ | refine zG ?_ | refine zH ?_ | refine zF rfl ?_ | refine zL ?_ | refine zB ?_ | refine zE ?_ | refine zA ?_ | refine zC ?_ | refine zT ?_ | refine zW ?_)
 (repeat first | refine HWF_seq ?_ | refine fseqQ_normal ?_ | refine HWF_skip ?_ | refine fblkQ_normal ?_ | refine HWF_block ?_)
 refine HWF_keep [0, 1, 2, 8] [216] (by simp only [zZ, zR, zP, zQ, zN, zS, zM, zX, zU, Nat.reduceEqDiff, reduceIte]; exact rfl) ?_
 obtain ⟨r, hr⟩ : ∃ r : Nat, (r : Int) = min around 400 := ⟨(min around 400).toNat, by omega⟩
 have hr4 : r ≤ 400 := by omega
 have hrn : (min around 400).toNat = r := by omega
 have hmin : (if (400 : Int) < around then (400 : Int) else around) = (r : Int) := by split <;> omega
 rw [hrn]
 (repeat first | refine HWF_seq ?_ | refine fseqQ_normal ?_ | refine HWF_skip ?_ | refine fblkQ_normal ?_ | refine HWF_block ?_); refine HWF_of ?_
 (repeat first | refine zE ?_ | refine zA ?_ | refine zC ?_ | refine zB ?_ | refine zD ?_); refine zJ (fun K hK => ?_); simp (maxSteps := 2000000) (disch := omega) only [push_cast, ↓Int.cast_ofNat_Int, Nat.reduceBEq, Nat.reduceAdd, Nat.reduceLT, Nat.reduceEqDiff, reduceIte, reduceCtorEq, Nat.reduceLeDiff, Nat.reduceSub, List.reduceReplicate, Nat.reduceMul, Int.reduceToNat, Int.toNat_natCast, Nat.reducePow, reduceIte]
 rw [hmin]
 refine hK _ ?_; clear hK K
 (repeat first | refine HWF_seq ?_ | refine fseqQ_normal ?_ | refine HWF_skip ?_ | refine fblkQ_normal ?_ | refine HWF_block ?_); refine HWF_of ?_
 (repeat first | refine zE ?_ | refine zA ?_ | refine zC ?_ | refine zB ?_ | refine zD ?_); refine zJ (fun K hK => ?_); simp (maxSteps := 2000000) (disch := omega) only [push_cast, ↓Int.cast_ofNat_Int, Nat.reduceBEq, Nat.reduceAdd, Nat.reduceLT, Nat.reduceEqDiff, reduceIte, reduceCtorEq, Nat.reduceLeDiff, Nat.reduceSub, List.reduceReplicate, Nat.reduceMul, Int.reduceToNat, Int.toNat_natCast, Nat.reducePow, reduceIte]; refine hK _ ?_; clear hK K
 (repeat first | refine HWF_seq ?_ | refine fseqQ_normal ?_ | refine HWF_skip ?_ | refine fblkQ_normal ?_ | refine HWF_block ?_); refine HWF_of ?_
 (repeat first | refine zE ?_ | refine zA ?_ | refine zC ?_ | refine zB ?_ | refine zD ?_); refine zJ (fun K hK => ?_); simp (maxSteps := 2000000) (disch := omega) only [push_cast, ↓Int.cast_ofNat_Int, Nat.reduceBEq, Nat.reduceAdd, Nat.reduceLT, Nat.reduceEqDiff, reduceIte, reduceCtorEq, Nat.reduceLeDiff, Nat.reduceSub, List.reduceReplicate, Nat.reduceMul, Int.reduceToNat, Int.toNat_natCast, Nat.reducePow, reduceIte]; refine hK _ ?_; clear hK K
 (repeat first | refine HWF_seq ?_ | refine fseqQ_normal ?_ | refine HWF_skip ?_ | refine fblkQ_normal ?_ | refine HWF_block ?_); refine HWF_of ?_
 (repeat first | refine zE ?_ | refine zA ?_ | refine zC ?_ | refine zB ?_ | refine zD ?_); refine zJ (fun K hK => ?_); simp (maxSteps := 2000000) (disch := omega) only [push_cast, ↓Int.cast_ofNat_Int, Nat.reduceBEq, Nat.reduceAdd, Nat.reduceLT, Nat.reduceEqDiff, reduceIte, reduceCtorEq, Nat.reduceLeDiff, Nat.reduceSub, List.reduceReplicate, Nat.reduceMul, Int.reduceToNat, Int.toNat_natCast, Nat.reducePow, reduceIte, edits_len]; refine hK _ ?_; clear hK K
 obtain ⟨hfine, hexp⟩ := script_fine a b
 obtain ⟨hlen, hcnt⟩ := script_len a b
 have hbw : between a b r = (spF (2 * r) ((script a b).drop 0) 0 0 []).map (hunkOf a b r) := rfl
 have hin := spans_in r a b
 have hSP0 : spans (2 * r) a b = spF (2 * r) ((script a b).drop 0) 0 0 [] := rfl
 obtain ⟨SP, hSP⟩ : ∃ SP, SP = spF (2 * r) ((script a b).drop 0) 0 0 [] := ⟨_, rfl⟩
 rw [← hSP] at hbw hSP0
 rw [hSP0] at hin
 have hSPl : SP.length ≤ (script a b).length := by
  have : ∀ (l : List (Nat × Nat)) (i j : Nat) (acc : List Sp), (spF (2 * r) l i j acc).length ≤ acc.length + l.length := by
   have ha : ∀ (acc : List Sp) (s : Sp), (addSp (2 * r) acc s).length ≤ acc.length + 1 := fun acc s => by
    rcases List.eq_nil_or_concat acc with rfl | ⟨q, l, rfl⟩
    ·simp [addSp]
    ·rw [List.concat_eq_append, addSp_snoc]; split <;> simp
   intro l
   induction l with
   | nil => intro i j acc; simp [spF]
   | cons x l ih =>
    obtain ⟨op, n⟩ := x
    intro i j acc
    rw [spF]
    split
    ·have := ih (i + n) (j + n) acc; simp only [List.length_cons]; omega
    ·split
     ·have := ih (i + n) j (addSp (2 * r) acc ⟨i, i + n, j, j⟩); have := ha acc ⟨i, i + n, j, j⟩; simp only [List.length_cons]; omega
     ·have := ih i (j + n) (addSp (2 * r) acc ⟨i, i, j, j + n⟩); have := ha acc ⟨i, i, j, j + n⟩; simp only [List.length_cons]; omega
  rw [hSP]
  have := this ((script a b).drop 0) 0 0 []
  simpa using this
 generalize script a b = l at *
 (repeat first | refine HWF_seq ?_ | refine fseqQ_normal ?_ | refine HWF_skip ?_ | refine fblkQ_normal ?_ | refine HWF_block ?_); refine HWF_of ?_
 (repeat first | refine zE ?_ | refine zA ?_ | refine zC ?_ | refine zB ?_ | refine zD ?_)
 refine HW_loop (fun x : Nat × Nat × Nat × List Sp => ⟨[(0, .lst false (strs a)), (1, .lst false (strs b)), (2, .v (.int .i64 r)), (10, .own 280), (11, .v (.int .i64 x.2.1)), (12, .v (.int .i64 x.2.2.1)), (36, .own 216), (37, .v (.int .i64 l.length)), (38, .v (.int .i64 x.1))], [(216, rowE l), (280, rowS x.2.2.2)]⟩)
  (fun x => x.1 ≤ l.length ∧ x.2.1 ≤ a.length ∧ x.2.2.1 ≤ b.length ∧ x.2.2.2.length ≤ x.1 ∧ (∀ s ∈ x.2.2.2, s.a0 ≤ 400 ∧ s.a1 ≤ 400 ∧ s.b0 ≤ 400 ∧ s.b1 ≤ 400) ∧ expand (l.drop x.1) = steps (a.drop x.2.1) (b.drop x.2.2.1) ∧ SP = spF (2 * r) (l.drop x.1) x.2.1 x.2.2.1 x.2.2.2) (fun x => l.length - x.1)
  [0, 1, 2, 10, 11, 12, 36, 37, 38] [216, 280] (0, 0, 0, []) rfl ⟨Nat.zero_le _, Nat.zero_le _, Nat.zero_le _, Nat.zero_le _, by simp, by simpa using hexp, hSP⟩ ?_
 rintro ⟨n, i, j, acc⟩ ⟨hn, hi, hj, hac, hbd, hx, hF⟩
 simp only at hn hi hj hac hbd hx hF
 by_cases hnl : n < l.length
 ·have hfd := hfine.drop n
  rw [List.drop_eq_getElem_cons hnl] at hx hF hfd
  obtain ⟨op, c, ho⟩ : ∃ op c, l[n] = (op, c) := ⟨l[n].1, l[n].2, rfl⟩
  rw [ho] at hx hF hfd
  have hc1 := hfd.head
  dsimp only at hc1
  obtain ⟨hop, -⟩ := op_cases a b hc1 hx
  rw [expand_cons] at hx
  obtain ⟨q0, q1, q2⟩ := run_inv a b c op _ i j hi hj hx
  (repeat first | refine zE ?_ | refine zA ?_ | refine zC ?_ | refine zB ?_ | refine zD ?_); refine zJ (fun K hK => ?_); simp (maxSteps := 2000000) (disch := omega) only [push_cast, ↓Int.cast_ofNat_Int, Nat.reduceBEq, Nat.reduceAdd, Nat.reduceLT, Nat.reduceEqDiff, reduceIte, reduceCtorEq, Nat.reduceLeDiff, Nat.reduceSub, List.reduceReplicate, Nat.reduceMul, Int.reduceToNat, Int.toNat_natCast, Nat.reducePow, reduceIte]; refine hK _ ?_; clear hK K
  (repeat first | refine zE ?_ | refine zA ?_ | refine zC ?_ | refine zB ?_ | refine zD ?_)
  refine yD rfl ?_
  (repeat first | refine zK ?_ | refine zG ?_ | refine zH ?_ | refine zF rfl ?_ | refine zL ?_ | refine zB ?_ | refine zE ?_ | refine zA ?_ | refine zC ?_ | refine zT ?_ | refine zW ?_)
  (repeat first | refine zE ?_ | refine zA ?_ | refine zC ?_ | refine zB ?_ | refine zD ?_); refine zJ (fun K hK => ?_); simp (maxSteps := 2000000) (disch := omega) only [push_cast, ↓Int.cast_ofNat_Int, Nat.reduceBEq, Nat.reduceAdd, Nat.reduceLT, Nat.reduceEqDiff, reduceIte, reduceCtorEq, Nat.reduceLeDiff, Nat.reduceSub, List.reduceReplicate, Nat.reduceMul, Int.reduceToNat, Int.toNat_natCast, Nat.reducePow, reduceIte, edits_len, edits_get hnl, ho]; refine hK _ ?_; clear hK K
  (repeat first | refine zE ?_ | refine zA ?_ | refine zC ?_ | refine zB ?_ | refine zD ?_); refine zJ (fun K hK => ?_); simp (maxSteps := 2000000) (disch := omega) only [push_cast, ↓Int.cast_ofNat_Int, Nat.reduceBEq, Nat.reduceAdd, Nat.reduceLT, Nat.reduceEqDiff, reduceIte, reduceCtorEq, Nat.reduceLeDiff, Nat.reduceSub, List.reduceReplicate, Nat.reduceMul, Int.reduceToNat, Int.toNat_natCast, Nat.reducePow, reduceIte]; refine hK _ ?_; clear hK K
  rcases hop with rfl | rfl | rfl
  ·obtain ⟨p1, p2, -, p4⟩ := q0 rfl
   (repeat first | refine zE ?_ | refine zA ?_ | refine zC ?_ | refine zB ?_ | refine zD ?_); refine zJ (fun K hK => ?_); simp (maxSteps := 2000000) (disch := omega) only [push_cast, ↓Int.cast_ofNat_Int, Nat.reduceBEq, Nat.reduceAdd, Nat.reduceLT, Nat.reduceEqDiff, reduceIte, reduceCtorEq, Nat.reduceLeDiff, Nat.reduceSub, List.reduceReplicate, Nat.reduceMul, Int.reduceToNat, Int.toNat_natCast, Nat.reducePow, reduceIte]; refine hK _ ?_; clear hK K
   (repeat first | refine zE ?_ | refine zA ?_ | refine zC ?_ | refine zB ?_ | refine zD ?_); refine zJ (fun K hK => ?_); simp (maxSteps := 2000000) (disch := omega) only [push_cast, ↓Int.cast_ofNat_Int, Nat.reduceBEq, Nat.reduceAdd, Nat.reduceLT, Nat.reduceEqDiff, reduceIte, reduceCtorEq, Nat.reduceLeDiff, Nat.reduceSub, List.reduceReplicate, Nat.reduceMul, Int.reduceToNat, Int.toNat_natCast, Nat.reducePow, reduceIte]; refine hK _ ?_; clear hK K
   refine yD rfl ?_
   (repeat first | refine zE ?_ | refine zA ?_ | refine zC ?_ | refine zB ?_ | refine zD ?_); refine zJ (fun K hK => ?_); simp (maxSteps := 2000000) (disch := omega) only [push_cast, ↓Int.cast_ofNat_Int, Nat.reduceBEq, Nat.reduceAdd, Nat.reduceLT, Nat.reduceEqDiff, reduceIte, reduceCtorEq, Nat.reduceLeDiff, Nat.reduceSub, List.reduceReplicate, Nat.reduceMul, Int.reduceToNat, Int.toNat_natCast, Nat.reducePow, reduceIte]; refine hK _ ?_; clear hK K
   (repeat first | refine zE ?_ | refine zA ?_ | refine zC ?_ | refine zB ?_ | refine zD ?_); refine zJ (fun K hK => ?_); simp (maxSteps := 2000000) (disch := omega) only [push_cast, ↓Int.cast_ofNat_Int, Nat.reduceBEq, Nat.reduceAdd, Nat.reduceLT, Nat.reduceEqDiff, reduceIte, reduceCtorEq, Nat.reduceLeDiff, Nat.reduceSub, List.reduceReplicate, Nat.reduceMul, Int.reduceToNat, Int.toNat_natCast, Nat.reducePow, reduceIte]; refine hK _ ?_; clear hK K
   (repeat first | refine zK ?_ | refine zG ?_ | refine zH ?_ | refine zF rfl ?_ | refine zL ?_ | refine zB ?_ | refine zE ?_ | refine zA ?_ | refine zC ?_ | refine zT ?_ | refine zW ?_)
   (repeat first | refine zE ?_ | refine zA ?_ | refine zC ?_ | refine zB ?_ | refine zD ?_); refine zJ (fun K hK => ?_); simp (maxSteps := 2000000) (disch := omega) only [push_cast, ↓Int.cast_ofNat_Int, Nat.reduceBEq, Nat.reduceAdd, Nat.reduceLT, Nat.reduceEqDiff, reduceIte, reduceCtorEq, Nat.reduceLeDiff, Nat.reduceSub, List.reduceReplicate, Nat.reduceMul, Int.reduceToNat, Int.toNat_natCast, Nat.reducePow, reduceIte]; refine hK _ ?_; clear hK K
   (repeat first | refine zK ?_ | refine zG ?_ | refine zH ?_ | refine zF rfl ?_ | refine zL ?_ | refine zB ?_ | refine zE ?_ | refine zA ?_ | refine zC ?_ | refine zT ?_ | refine zW ?_)
   exact ⟨(n + 1, i + c, j + c, acc), rfl, ⟨hnl, p1, p2, by dsimp only; omega, hbd, p4, hF⟩, by dsimp only; omega⟩
  ·obtain ⟨p1, p4⟩ := q1 rfl
   rw [spF, if_neg (by omega), if_pos rfl] at hF
   obtain ⟨p, hp⟩ : ∃ p, p = i + c := ⟨_, rfl⟩
   have hpc : (i : Int) + (c : Int) = (p : Int) := by omega
   rw [← hp] at p1 p4 hF
   have hfin : ∀ s ∈ addSp (2 * r) acc ⟨i, p, j, j⟩, s.a0 ≤ 400 ∧ s.a1 ≤ 400 ∧ s.b0 ≤ 400 ∧ s.b1 ≤ 400 := by
    rcases List.eq_nil_or_concat acc with rfl | ⟨q, l', rfl⟩
    ·intro s hs; simp [addSp] at hs; subst hs; exact ⟨by dsimp only; omega, by dsimp only; omega, by dsimp only; omega, by dsimp only; omega⟩
    ·rw [List.concat_eq_append] at hbd ⊢
     rw [addSp_snoc]
     have hl' := hbd l' (by simp)
     intro s hs
     split at hs
     ·rcases List.mem_append.1 hs with h | h
      ·exact hbd s (by simp [h])
      ·simp at h; subst h; exact ⟨by dsimp only; omega, by dsimp only; omega, by dsimp only; omega, by dsimp only; omega⟩
     ·rcases List.mem_append.1 hs with h | h
      ·exact hbd s (by simp [h])
      ·simp at h
       rcases h with rfl | rfl
       ·exact hl'
       ·exact ⟨by dsimp only; omega, by dsimp only; omega, by dsimp only; omega, by dsimp only; omega⟩
   have hfl : (addSp (2 * r) acc ⟨i, p, j, j⟩).length ≤ n + 1 := by
    rcases List.eq_nil_or_concat acc with rfl | ⟨q, l', rfl⟩
    ·simp [addSp]
    ·rw [List.concat_eq_append] at hac ⊢
     rw [addSp_snoc]; simp only [List.length_append, List.length_singleton] at hac; split <;> simp <;> omega
   (repeat first | refine zE ?_ | refine zA ?_ | refine zC ?_ | refine zB ?_ | refine zD ?_); refine zJ (fun K hK => ?_); simp (maxSteps := 2000000) (disch := omega) only [push_cast, ↓Int.cast_ofNat_Int, Nat.reduceBEq, Nat.reduceAdd, Nat.reduceLT, Nat.reduceEqDiff, reduceIte, reduceCtorEq, Nat.reduceLeDiff, Nat.reduceSub, List.reduceReplicate, Nat.reduceMul, Int.reduceToNat, Int.toNat_natCast, Nat.reducePow, reduceIte]; refine hK _ ?_; clear hK K
   (repeat first | refine zE ?_ | refine zA ?_ | refine zC ?_ | refine zB ?_ | refine zD ?_); refine zJ (fun K hK => ?_); simp (maxSteps := 2000000) (disch := omega) only [push_cast, ↓Int.cast_ofNat_Int, Nat.reduceBEq, Nat.reduceAdd, Nat.reduceLT, Nat.reduceEqDiff, reduceIte, reduceCtorEq, Nat.reduceLeDiff, Nat.reduceSub, List.reduceReplicate, Nat.reduceMul, Int.reduceToNat, Int.toNat_natCast, Nat.reducePow, reduceIte]; refine hK _ ?_; clear hK K
   refine yC rfl ?_
   (repeat first | refine zE ?_ | refine zA ?_ | refine zC ?_ | refine zB ?_ | refine zD ?_)
   (repeat first | refine zE ?_ | refine zA ?_ | refine zC ?_ | refine zB ?_ | refine zD ?_); refine zJ (fun K hK => ?_); simp (maxSteps := 2000000) (disch := omega) only [push_cast, ↓Int.cast_ofNat_Int, Nat.reduceBEq, Nat.reduceAdd, Nat.reduceLT, Nat.reduceEqDiff, reduceIte, reduceCtorEq, Nat.reduceLeDiff, Nat.reduceSub, List.reduceReplicate, Nat.reduceMul, Int.reduceToNat, Int.toNat_natCast, Nat.reducePow, reduceIte]; refine hK _ ?_; clear hK K
   refine yD rfl ?_
   (repeat first | refine zE ?_ | refine zA ?_ | refine zC ?_ | refine zB ?_ | refine zD ?_); refine zJ (fun K hK => ?_); simp (maxSteps := 2000000) (disch := omega) only [push_cast, ↓Int.cast_ofNat_Int, Nat.reduceBEq, Nat.reduceAdd, Nat.reduceLT, Nat.reduceEqDiff, reduceIte, reduceCtorEq, Nat.reduceLeDiff, Nat.reduceSub, List.reduceReplicate, Nat.reduceMul, Int.reduceToNat, Int.toNat_natCast, Nat.reducePow, reduceIte, hpc]; refine hK _ ?_; clear hK K
   (repeat first | refine zK ?_ | refine zG ?_ | refine zH ?_ | refine zF rfl ?_ | refine zL ?_ | refine zB ?_ | refine zE ?_ | refine zA ?_ | refine zC ?_ | refine zT ?_ | refine zW ?_)
   refine yB [0, 1, 2, 10, 11, 12, 15, 36, 37, 38] [120, 216, 280] (by simp only [zZ, zR, zP, zQ, zN, zS, zM, zX, zU, Nat.reduceEqDiff, reduceIte]; exact rfl) ?_
   (repeat first | refine zE ?_ | refine zA ?_ | refine zC ?_ | refine zB ?_ | refine zD ?_); refine zJ (fun K hK => ?_); simp (maxSteps := 2000000) (disch := omega) only [push_cast, ↓Int.cast_ofNat_Int, Nat.reduceBEq, Nat.reduceAdd, Nat.reduceLT, Nat.reduceEqDiff, reduceIte, reduceCtorEq, Nat.reduceLeDiff, Nat.reduceSub, List.reduceReplicate, Nat.reduceMul, Int.reduceToNat, Int.toNat_natCast, Nat.reducePow, reduceIte, hpc]; refine hK _ ?_; clear hK K
   (repeat first | refine zE ?_ | refine zA ?_ | refine zC ?_ | refine zB ?_ | refine zD ?_); refine zJ (fun K hK => ?_); simp (maxSteps := 2000000) (disch := omega) only [push_cast, ↓Int.cast_ofNat_Int, Nat.reduceBEq, Nat.reduceAdd, Nat.reduceLT, Nat.reduceEqDiff, reduceIte, reduceCtorEq, Nat.reduceLeDiff, Nat.reduceSub, List.reduceReplicate, Nat.reduceMul, Int.reduceToNat, Int.toNat_natCast, Nat.reducePow, reduceIte, sps_len]; refine hK _ ?_; clear hK K
   refine yB [0, 1, 2, 10, 11, 12, 15, 16, 36, 37, 38] [120, 216, 280] (by simp only [zZ, zR, zP, zQ, zN, zS, zM, zX, zU, Nat.reduceEqDiff, reduceIte]; exact rfl) ?_
   rcases List.eq_nil_or_concat acc with rfl | ⟨q, l', rfl⟩
   ·(repeat first | refine zE ?_ | refine zA ?_ | refine zC ?_ | refine zB ?_ | refine zD ?_); refine HW_drw 15 mixed (by kernel_rfl) (fun K hK => ?_); simp (maxSteps := 2000000) (disch := omega) only [push_cast, ↓Int.cast_ofNat_Int, Nat.reduceBEq, Nat.reduceAdd, Nat.reduceLT, Nat.reduceEqDiff, reduceIte, reduceCtorEq, Nat.reduceLeDiff, Nat.reduceSub, List.reduceReplicate, Nat.reduceMul, Int.reduceToNat, Int.toNat_natCast, Nat.reducePow, reduceIte, sps_len]
    with_reducible refine hstop ?_; simp (maxSteps := 2000000) (disch := omega) only [push_cast, ↓Int.cast_ofNat_Int, Nat.reduceBEq, Nat.reduceAdd, Nat.reduceLT, Nat.reduceEqDiff, reduceIte, reduceCtorEq, Nat.reduceLeDiff, Nat.reduceSub, List.reduceReplicate, Nat.reduceMul, Int.reduceToNat, Int.toNat_natCast, Nat.reducePow, reduceIte]
    refine hK _ ?_; clear hK K
    refine yC rfl ?_
    (repeat first | refine zE ?_ | refine zA ?_ | refine zC ?_ | refine zB ?_ | refine zD ?_); refine zJ (fun K hK => ?_); simp (maxSteps := 2000000) (disch := omega) only [push_cast, ↓Int.cast_ofNat_Int, Nat.reduceBEq, Nat.reduceAdd, Nat.reduceLT, Nat.reduceEqDiff, reduceIte, reduceCtorEq, Nat.reduceLeDiff, Nat.reduceSub, List.reduceReplicate, Nat.reduceMul, Int.reduceToNat, Int.toNat_natCast, Nat.reducePow, reduceIte, sps_len, sps_snoc]; (repeat refine ⟨by first | omega | decide | ((repeat' apply And.intro) <;> first | omega | decide), ?_⟩); refine hK _ ?_; clear hK K
    (repeat first | refine zK ?_ | refine zG ?_ | refine zH ?_ | refine zF rfl ?_ | refine zL ?_ | refine zB ?_ | refine zE ?_ | refine zA ?_ | refine zC ?_ | refine zT ?_ | refine zW ?_)
    (repeat first | refine zE ?_ | refine zA ?_ | refine zC ?_ | refine zB ?_ | refine zD ?_); refine zJ (fun K hK => ?_); simp (maxSteps := 2000000) (disch := omega) only [push_cast, ↓Int.cast_ofNat_Int, Nat.reduceBEq, Nat.reduceAdd, Nat.reduceLT, Nat.reduceEqDiff, reduceIte, reduceCtorEq, Nat.reduceLeDiff, Nat.reduceSub, List.reduceReplicate, Nat.reduceMul, Int.reduceToNat, Int.toNat_natCast, Nat.reducePow, reduceIte]; refine hK _ ?_; clear hK K
    (repeat first | refine zK ?_ | refine zG ?_ | refine zH ?_ | refine zF rfl ?_ | refine zL ?_ | refine zB ?_ | refine zE ?_ | refine zA ?_ | refine zC ?_ | refine zT ?_ | refine zW ?_)
    exact ⟨(n + 1, p, j, addSp (2 * r) [] ⟨i, p, j, j⟩), rfl, ⟨hnl, by dsimp only; omega, by dsimp only; omega, hfl, hfin, p4, hF⟩, by dsimp only; omega⟩
   ·rw [List.concat_eq_append] at hbd hac hF hfin hfl ⊢
    have hl' := hbd l' (by simp)
    have hql : ((((q ++ [l']).length : Nat) : Int) - 1) = (q.length : Int) := by simp
    rw [hql]
    rw [addSp_snoc] at hF hfin hfl
    by_cases hg : i - l'.a1 ≤ 2 * r
    ·rw [if_pos hg] at hF hfin hfl
     have e1 : decide ((i : Int) - (l'.a1 : Int) ≤ 2 * (r : Int)) = true := decide_eq_true (by omega)
     (repeat first | refine zE ?_ | refine zA ?_ | refine zC ?_ | refine zB ?_ | refine zD ?_); refine HW_drw 15 mixed (by kernel_rfl) (fun K hK => ?_); simp (maxSteps := 2000000) (disch := omega) only [push_cast, ↓Int.cast_ofNat_Int, Nat.reduceBEq, Nat.reduceAdd, Nat.reduceLT, Nat.reduceEqDiff, reduceIte, reduceCtorEq, Nat.reduceLeDiff, Nat.reduceSub, List.reduceReplicate, Nat.reduceMul, Int.reduceToNat, Int.toNat_natCast, Nat.reducePow, reduceIte, sps_len, sps_wid, sps_last, e1]
     with_reducible refine hstop ?_; simp (maxSteps := 2000000) (disch := omega) only [push_cast, ↓Int.cast_ofNat_Int, Nat.reduceBEq, Nat.reduceAdd, Nat.reduceLT, Nat.reduceEqDiff, reduceIte, reduceCtorEq, Nat.reduceLeDiff, Nat.reduceSub, List.reduceReplicate, Nat.reduceMul, Int.reduceToNat, Int.toNat_natCast, Nat.reducePow, reduceIte]
     refine hK _ ?_; clear hK K
     refine yD rfl ?_
     refine yB [0, 1, 2, 10, 11, 12, 15, 16, 36, 37, 38] [120, 216, 280] (by simp only [zZ, zR, zP, zQ, zN, zS, zM, zX, zU, Nat.reduceEqDiff, reduceIte]; exact rfl) ?_
     (repeat first | refine zE ?_ | refine zA ?_ | refine zC ?_ | refine zB ?_ | refine zD ?_)
     refine HW_hl 280 rfl (by simp only [sset_nil, sset_cons, List.map_cons, List.map_nil, fh_v, fh_lst, Nat.reduceEqDiff, reduceIte, spsH_eq]; exact rfl) ?_
     (repeat first | refine zE ?_ | refine zA ?_ | refine zC ?_ | refine zB ?_ | refine zD ?_); refine HW_drwP 11 [(280, q.length, 1)] mixed (by kernel_rfl) (by simp only [junkAll_nil, junkAll_cons, rset_bx, rset_hl, zX, zU, sset_nil, sset_cons, List.set_cons_succ, List.set_cons_zero, Nat.reduceEqDiff, reduceIte, spsH_n, spsH_get, spsH_set]; exact rfl) (fun K hK => ?_); simp (maxSteps := 2000000) (disch := omega) only [push_cast, ↓Int.cast_ofNat_Int, Nat.reduceBEq, Nat.reduceAdd, Nat.reduceLT, Nat.reduceEqDiff, reduceIte, reduceCtorEq, Nat.reduceLeDiff, Nat.reduceSub, List.reduceReplicate, Nat.reduceMul, Int.reduceToNat, Int.toNat_natCast, Nat.reducePow, reduceIte, hvp_nil, hvp_cons, hStoreP_eq, hStoreP2_eq, inB, rset_bx, rset_hl, List.set_cons_succ, List.set_cons_zero, storeOf_store, storeOf_move, storeOf_assign, storeOf_pick, storeOf_extract, storeOf_field, storeOf_faddr, storeOf_nilc, storeOf_iaddr, storeOf_slice, storeOf_load, storeOf_build, storeOf_bin, storeOf_un, storeOf_conv, storeOf_index, storeOf_call, storeOf_alloc, storeOf_box, storeOf_make, storeOf_buildS, spsH_n, spsH_get, spsH_set]
     refine ⟨⟨by omega, fun _ h => by cases h⟩, hstop ?_⟩
     simp only [fillAll_nil, fillAll_cons, zX, zU, sset_nil, sset_cons, rset_bx, rset_hl, List.set_cons_succ, List.set_cons_zero, Nat.reduceEqDiff, reduceIte, spsH_get, spsH_set]
     with_reducible refine hstop ?_; simp (maxSteps := 2000000) (disch := omega) only [push_cast, ↓Int.cast_ofNat_Int, Nat.reduceBEq, Nat.reduceAdd, Nat.reduceLT, Nat.reduceEqDiff, reduceIte, reduceCtorEq, Nat.reduceLeDiff, Nat.reduceSub, List.reduceReplicate, Nat.reduceMul, Int.reduceToNat, Int.toNat_natCast, Nat.reducePow, reduceIte, spsH_n, spsH_get, spsH_set]
     refine hK _ ?_; clear hK K
     (repeat first | refine zK ?_ | refine zG ?_ | refine zH ?_ | refine zF rfl ?_ | refine zL ?_ | refine zB ?_ | refine zE ?_ | refine zA ?_ | refine zC ?_ | refine zT ?_ | refine zW ?_)
     (repeat first | refine zE ?_ | refine zA ?_ | refine zC ?_ | refine zB ?_ | refine zD ?_)
     refine HW_sl 280 (sps (q ++ [⟨l'.a0, p, l'.b0, j⟩])) (spsH_eq q ⟨l'.a0, p, l'.b0, j⟩).symm rfl (by simp only [sset_nil, sset_cons, Nat.reduceEqDiff, reduceIte]; exact rfl) ?_
     (repeat first | refine zE ?_ | refine zA ?_ | refine zC ?_ | refine zB ?_ | refine zD ?_); refine zJ (fun K hK => ?_); simp (maxSteps := 2000000) (disch := omega) only [push_cast, ↓Int.cast_ofNat_Int, Nat.reduceBEq, Nat.reduceAdd, Nat.reduceLT, Nat.reduceEqDiff, reduceIte, reduceCtorEq, Nat.reduceLeDiff, Nat.reduceSub, List.reduceReplicate, Nat.reduceMul, Int.reduceToNat, Int.toNat_natCast, Nat.reducePow, reduceIte]; refine hK _ ?_; clear hK K
     (repeat first | refine zK ?_ | refine zG ?_ | refine zH ?_ | refine zF rfl ?_ | refine zL ?_ | refine zB ?_ | refine zE ?_ | refine zA ?_ | refine zC ?_ | refine zT ?_ | refine zW ?_)
     exact ⟨(n + 1, p, j, q ++ [⟨l'.a0, p, l'.b0, j⟩]), rfl, ⟨hnl, by dsimp only; omega, by dsimp only; omega, hfl, hfin, p4, hF⟩, by dsimp only; omega⟩
    ·rw [if_neg hg] at hF hfin hfl
     have e1 : decide ((i : Int) - (l'.a1 : Int) ≤ 2 * (r : Int)) = false := decide_eq_false (by omega)
     (repeat first | refine zE ?_ | refine zA ?_ | refine zC ?_ | refine zB ?_ | refine zD ?_); refine HW_drw 15 mixed (by kernel_rfl) (fun K hK => ?_); simp (maxSteps := 2000000) (disch := omega) only [push_cast, ↓Int.cast_ofNat_Int, Nat.reduceBEq, Nat.reduceAdd, Nat.reduceLT, Nat.reduceEqDiff, reduceIte, reduceCtorEq, Nat.reduceLeDiff, Nat.reduceSub, List.reduceReplicate, Nat.reduceMul, Int.reduceToNat, Int.toNat_natCast, Nat.reducePow, reduceIte, sps_len, sps_wid, sps_last, e1]
     with_reducible refine hstop ?_; simp (maxSteps := 2000000) (disch := omega) only [push_cast, ↓Int.cast_ofNat_Int, Nat.reduceBEq, Nat.reduceAdd, Nat.reduceLT, Nat.reduceEqDiff, reduceIte, reduceCtorEq, Nat.reduceLeDiff, Nat.reduceSub, List.reduceReplicate, Nat.reduceMul, Int.reduceToNat, Int.toNat_natCast, Nat.reducePow, reduceIte]
     refine hK _ ?_; clear hK K
     refine yC rfl ?_
     refine yB [0, 1, 2, 10, 11, 12, 15, 16, 36, 37, 38] [120, 216, 280] (by simp only [zZ, zR, zP, zQ, zN, zS, zM, zX, zU, Nat.reduceEqDiff, reduceIte]; exact rfl) ?_
     (repeat first | refine zE ?_ | refine zA ?_ | refine zC ?_ | refine zB ?_ | refine zD ?_); refine zJ (fun K hK => ?_); simp (maxSteps := 2000000) (disch := omega) only [push_cast, ↓Int.cast_ofNat_Int, Nat.reduceBEq, Nat.reduceAdd, Nat.reduceLT, Nat.reduceEqDiff, reduceIte, reduceCtorEq, Nat.reduceLeDiff, Nat.reduceSub, List.reduceReplicate, Nat.reduceMul, Int.reduceToNat, Int.toNat_natCast, Nat.reducePow, reduceIte, sps_len, sps_snoc]; (repeat refine ⟨by first | omega | decide | ((repeat' apply And.intro) <;> first | omega | decide), ?_⟩); refine hK _ ?_; clear hK K
     (repeat first | refine zK ?_ | refine zG ?_ | refine zH ?_ | refine zF rfl ?_ | refine zL ?_ | refine zB ?_ | refine zE ?_ | refine zA ?_ | refine zC ?_ | refine zT ?_ | refine zW ?_)
     (repeat first | refine zE ?_ | refine zA ?_ | refine zC ?_ | refine zB ?_ | refine zD ?_); refine zJ (fun K hK => ?_); simp (maxSteps := 2000000) (disch := omega) only [push_cast, ↓Int.cast_ofNat_Int, Nat.reduceBEq, Nat.reduceAdd, Nat.reduceLT, Nat.reduceEqDiff, reduceIte, reduceCtorEq, Nat.reduceLeDiff, Nat.reduceSub, List.reduceReplicate, Nat.reduceMul, Int.reduceToNat, Int.toNat_natCast, Nat.reducePow, reduceIte]; refine hK _ ?_; clear hK K
     (repeat first | refine zK ?_ | refine zG ?_ | refine zH ?_ | refine zF rfl ?_ | refine zL ?_ | refine zB ?_ | refine zE ?_ | refine zA ?_ | refine zC ?_ | refine zT ?_ | refine zW ?_)
     exact ⟨(n + 1, p, j, q ++ [l', ⟨i, p, j, j⟩]), by simp only [zZ, zR, zP, zQ, zN, zS, zM, zX, zU, Nat.reduceEqDiff, reduceIte]; rw [show (q ++ [l', ⟨i, p, j, j⟩] : List Sp) = (q ++ [l']) ++ [⟨i, p, j, j⟩] by simp]; try rfl, ⟨hnl, by dsimp only; omega, by dsimp only; omega, hfl, hfin, p4, hF⟩, by dsimp only; omega⟩
  ·obtain ⟨p1, p4⟩ := q2 rfl
   rw [spF, if_neg (by omega), if_neg (by omega)] at hF
   obtain ⟨p, hp⟩ : ∃ p, p = j + c := ⟨_, rfl⟩
   have hpc : (j : Int) + (c : Int) = (p : Int) := by omega
   rw [← hp] at p1 p4 hF
   have hfin : ∀ s ∈ addSp (2 * r) acc ⟨i, i, j, p⟩, s.a0 ≤ 400 ∧ s.a1 ≤ 400 ∧ s.b0 ≤ 400 ∧ s.b1 ≤ 400 := by
    rcases List.eq_nil_or_concat acc with rfl | ⟨q, l', rfl⟩
    ·intro s hs; simp [addSp] at hs; subst hs; exact ⟨by dsimp only; omega, by dsimp only; omega, by dsimp only; omega, by dsimp only; omega⟩
    ·rw [List.concat_eq_append] at hbd ⊢
     rw [addSp_snoc]
     have hl' := hbd l' (by simp)
     intro s hs
     split at hs
     ·rcases List.mem_append.1 hs with h | h
      ·exact hbd s (by simp [h])
      ·simp at h; subst h; exact ⟨by dsimp only; omega, by dsimp only; omega, by dsimp only; omega, by dsimp only; omega⟩
     ·rcases List.mem_append.1 hs with h | h
      ·exact hbd s (by simp [h])
      ·simp at h
       rcases h with rfl | rfl
       ·exact hl'
       ·exact ⟨by dsimp only; omega, by dsimp only; omega, by dsimp only; omega, by dsimp only; omega⟩
   have hfl : (addSp (2 * r) acc ⟨i, i, j, p⟩).length ≤ n + 1 := by
    rcases List.eq_nil_or_concat acc with rfl | ⟨q, l', rfl⟩
    ·simp [addSp]
    ·rw [List.concat_eq_append] at hac ⊢
     rw [addSp_snoc]; simp only [List.length_append, List.length_singleton] at hac; split <;> simp <;> omega
   (repeat first | refine zE ?_ | refine zA ?_ | refine zC ?_ | refine zB ?_ | refine zD ?_); refine zJ (fun K hK => ?_); simp (maxSteps := 2000000) (disch := omega) only [push_cast, ↓Int.cast_ofNat_Int, Nat.reduceBEq, Nat.reduceAdd, Nat.reduceLT, Nat.reduceEqDiff, reduceIte, reduceCtorEq, Nat.reduceLeDiff, Nat.reduceSub, List.reduceReplicate, Nat.reduceMul, Int.reduceToNat, Int.toNat_natCast, Nat.reducePow, reduceIte]; refine hK _ ?_; clear hK K
   (repeat first | refine zE ?_ | refine zA ?_ | refine zC ?_ | refine zB ?_ | refine zD ?_); refine zJ (fun K hK => ?_); simp (maxSteps := 2000000) (disch := omega) only [push_cast, ↓Int.cast_ofNat_Int, Nat.reduceBEq, Nat.reduceAdd, Nat.reduceLT, Nat.reduceEqDiff, reduceIte, reduceCtorEq, Nat.reduceLeDiff, Nat.reduceSub, List.reduceReplicate, Nat.reduceMul, Int.reduceToNat, Int.toNat_natCast, Nat.reducePow, reduceIte]; refine hK _ ?_; clear hK K
   refine yC rfl ?_
   (repeat first | refine zE ?_ | refine zA ?_ | refine zC ?_ | refine zB ?_ | refine zD ?_)
   (repeat first | refine zE ?_ | refine zA ?_ | refine zC ?_ | refine zB ?_ | refine zD ?_); refine zJ (fun K hK => ?_); simp (maxSteps := 2000000) (disch := omega) only [push_cast, ↓Int.cast_ofNat_Int, Nat.reduceBEq, Nat.reduceAdd, Nat.reduceLT, Nat.reduceEqDiff, reduceIte, reduceCtorEq, Nat.reduceLeDiff, Nat.reduceSub, List.reduceReplicate, Nat.reduceMul, Int.reduceToNat, Int.toNat_natCast, Nat.reducePow, reduceIte]; refine hK _ ?_; clear hK K
   refine yC rfl ?_
   (repeat first | refine zE ?_ | refine zA ?_ | refine zC ?_ | refine zB ?_ | refine zD ?_)
   (repeat first | refine zE ?_ | refine zA ?_ | refine zC ?_ | refine zB ?_ | refine zD ?_); refine zJ (fun K hK => ?_); simp (maxSteps := 2000000) (disch := omega) only [push_cast, ↓Int.cast_ofNat_Int, Nat.reduceBEq, Nat.reduceAdd, Nat.reduceLT, Nat.reduceEqDiff, reduceIte, reduceCtorEq, Nat.reduceLeDiff, Nat.reduceSub, List.reduceReplicate, Nat.reduceMul, Int.reduceToNat, Int.toNat_natCast, Nat.reducePow, reduceIte]; refine hK _ ?_; clear hK K
   refine yD rfl ?_
   (repeat first | refine zE ?_ | refine zA ?_ | refine zC ?_ | refine zB ?_ | refine zD ?_); refine zJ (fun K hK => ?_); simp (maxSteps := 2000000) (disch := omega) only [push_cast, ↓Int.cast_ofNat_Int, Nat.reduceBEq, Nat.reduceAdd, Nat.reduceLT, Nat.reduceEqDiff, reduceIte, reduceCtorEq, Nat.reduceLeDiff, Nat.reduceSub, List.reduceReplicate, Nat.reduceMul, Int.reduceToNat, Int.toNat_natCast, Nat.reducePow, reduceIte, hpc]; refine hK _ ?_; clear hK K
   (repeat first | refine zK ?_ | refine zG ?_ | refine zH ?_ | refine zF rfl ?_ | refine zL ?_ | refine zB ?_ | refine zE ?_ | refine zA ?_ | refine zC ?_ | refine zT ?_ | refine zW ?_)
   refine yB [0, 1, 2, 10, 11, 12, 15, 36, 37, 38] [120, 216, 280] (by simp only [zZ, zR, zP, zQ, zN, zS, zM, zX, zU, Nat.reduceEqDiff, reduceIte]; exact rfl) ?_
   (repeat first | refine zE ?_ | refine zA ?_ | refine zC ?_ | refine zB ?_ | refine zD ?_); refine zJ (fun K hK => ?_); simp (maxSteps := 2000000) (disch := omega) only [push_cast, ↓Int.cast_ofNat_Int, Nat.reduceBEq, Nat.reduceAdd, Nat.reduceLT, Nat.reduceEqDiff, reduceIte, reduceCtorEq, Nat.reduceLeDiff, Nat.reduceSub, List.reduceReplicate, Nat.reduceMul, Int.reduceToNat, Int.toNat_natCast, Nat.reducePow, reduceIte, hpc]; refine hK _ ?_; clear hK K
   (repeat first | refine zE ?_ | refine zA ?_ | refine zC ?_ | refine zB ?_ | refine zD ?_); refine zJ (fun K hK => ?_); simp (maxSteps := 2000000) (disch := omega) only [push_cast, ↓Int.cast_ofNat_Int, Nat.reduceBEq, Nat.reduceAdd, Nat.reduceLT, Nat.reduceEqDiff, reduceIte, reduceCtorEq, Nat.reduceLeDiff, Nat.reduceSub, List.reduceReplicate, Nat.reduceMul, Int.reduceToNat, Int.toNat_natCast, Nat.reducePow, reduceIte, sps_len]; refine hK _ ?_; clear hK K
   refine yB [0, 1, 2, 10, 11, 12, 15, 16, 36, 37, 38] [120, 216, 280] (by simp only [zZ, zR, zP, zQ, zN, zS, zM, zX, zU, Nat.reduceEqDiff, reduceIte]; exact rfl) ?_
   rcases List.eq_nil_or_concat acc with rfl | ⟨q, l', rfl⟩
   ·(repeat first | refine zE ?_ | refine zA ?_ | refine zC ?_ | refine zB ?_ | refine zD ?_); refine HW_drw 15 mixed (by kernel_rfl) (fun K hK => ?_); simp (maxSteps := 2000000) (disch := omega) only [push_cast, ↓Int.cast_ofNat_Int, Nat.reduceBEq, Nat.reduceAdd, Nat.reduceLT, Nat.reduceEqDiff, reduceIte, reduceCtorEq, Nat.reduceLeDiff, Nat.reduceSub, List.reduceReplicate, Nat.reduceMul, Int.reduceToNat, Int.toNat_natCast, Nat.reducePow, reduceIte, sps_len]
    with_reducible refine hstop ?_; simp (maxSteps := 2000000) (disch := omega) only [push_cast, ↓Int.cast_ofNat_Int, Nat.reduceBEq, Nat.reduceAdd, Nat.reduceLT, Nat.reduceEqDiff, reduceIte, reduceCtorEq, Nat.reduceLeDiff, Nat.reduceSub, List.reduceReplicate, Nat.reduceMul, Int.reduceToNat, Int.toNat_natCast, Nat.reducePow, reduceIte]
    refine hK _ ?_; clear hK K
    refine yC rfl ?_
    (repeat first | refine zE ?_ | refine zA ?_ | refine zC ?_ | refine zB ?_ | refine zD ?_); refine zJ (fun K hK => ?_); simp (maxSteps := 2000000) (disch := omega) only [push_cast, ↓Int.cast_ofNat_Int, Nat.reduceBEq, Nat.reduceAdd, Nat.reduceLT, Nat.reduceEqDiff, reduceIte, reduceCtorEq, Nat.reduceLeDiff, Nat.reduceSub, List.reduceReplicate, Nat.reduceMul, Int.reduceToNat, Int.toNat_natCast, Nat.reducePow, reduceIte, sps_len, sps_snoc]; (repeat refine ⟨by first | omega | decide | ((repeat' apply And.intro) <;> first | omega | decide), ?_⟩); refine hK _ ?_; clear hK K
    (repeat first | refine zK ?_ | refine zG ?_ | refine zH ?_ | refine zF rfl ?_ | refine zL ?_ | refine zB ?_ | refine zE ?_ | refine zA ?_ | refine zC ?_ | refine zT ?_ | refine zW ?_)
    (repeat first | refine zE ?_ | refine zA ?_ | refine zC ?_ | refine zB ?_ | refine zD ?_); refine zJ (fun K hK => ?_); simp (maxSteps := 2000000) (disch := omega) only [push_cast, ↓Int.cast_ofNat_Int, Nat.reduceBEq, Nat.reduceAdd, Nat.reduceLT, Nat.reduceEqDiff, reduceIte, reduceCtorEq, Nat.reduceLeDiff, Nat.reduceSub, List.reduceReplicate, Nat.reduceMul, Int.reduceToNat, Int.toNat_natCast, Nat.reducePow, reduceIte]; refine hK _ ?_; clear hK K
    (repeat first | refine zK ?_ | refine zG ?_ | refine zH ?_ | refine zF rfl ?_ | refine zL ?_ | refine zB ?_ | refine zE ?_ | refine zA ?_ | refine zC ?_ | refine zT ?_ | refine zW ?_)
    exact ⟨(n + 1, i, p, addSp (2 * r) [] ⟨i, i, j, p⟩), rfl, ⟨hnl, by dsimp only; omega, by dsimp only; omega, hfl, hfin, p4, hF⟩, by dsimp only; omega⟩
   ·rw [List.concat_eq_append] at hbd hac hF hfin hfl ⊢
    have hl' := hbd l' (by simp)
    have hql : ((((q ++ [l']).length : Nat) : Int) - 1) = (q.length : Int) := by simp
    rw [hql]
    rw [addSp_snoc] at hF hfin hfl
    by_cases hg : i - l'.a1 ≤ 2 * r
    ·rw [if_pos hg] at hF hfin hfl
     have e1 : decide ((i : Int) - (l'.a1 : Int) ≤ 2 * (r : Int)) = true := decide_eq_true (by omega)
     (repeat first | refine zE ?_ | refine zA ?_ | refine zC ?_ | refine zB ?_ | refine zD ?_); refine HW_drw 15 mixed (by kernel_rfl) (fun K hK => ?_); simp (maxSteps := 2000000) (disch := omega) only [push_cast, ↓Int.cast_ofNat_Int, Nat.reduceBEq, Nat.reduceAdd, Nat.reduceLT, Nat.reduceEqDiff, reduceIte, reduceCtorEq, Nat.reduceLeDiff, Nat.reduceSub, List.reduceReplicate, Nat.reduceMul, Int.reduceToNat, Int.toNat_natCast, Nat.reducePow, reduceIte, sps_len, sps_wid, sps_last, e1]
     with_reducible refine hstop ?_; simp (maxSteps := 2000000) (disch := omega) only [push_cast, ↓Int.cast_ofNat_Int, Nat.reduceBEq, Nat.reduceAdd, Nat.reduceLT, Nat.reduceEqDiff, reduceIte, reduceCtorEq, Nat.reduceLeDiff, Nat.reduceSub, List.reduceReplicate, Nat.reduceMul, Int.reduceToNat, Int.toNat_natCast, Nat.reducePow, reduceIte]
     refine hK _ ?_; clear hK K
     refine yD rfl ?_
     refine yB [0, 1, 2, 10, 11, 12, 15, 16, 36, 37, 38] [120, 216, 280] (by simp only [zZ, zR, zP, zQ, zN, zS, zM, zX, zU, Nat.reduceEqDiff, reduceIte]; exact rfl) ?_
     (repeat first | refine zE ?_ | refine zA ?_ | refine zC ?_ | refine zB ?_ | refine zD ?_)
     refine HW_hl 280 rfl (by simp only [sset_nil, sset_cons, List.map_cons, List.map_nil, fh_v, fh_lst, Nat.reduceEqDiff, reduceIte, spsH_eq]; exact rfl) ?_
     (repeat first | refine zE ?_ | refine zA ?_ | refine zC ?_ | refine zB ?_ | refine zD ?_); refine HW_drwP 11 [(280, q.length, 1)] mixed (by kernel_rfl) (by simp only [junkAll_nil, junkAll_cons, rset_bx, rset_hl, zX, zU, sset_nil, sset_cons, List.set_cons_succ, List.set_cons_zero, Nat.reduceEqDiff, reduceIte, spsH_n, spsH_get, spsH_set]; exact rfl) (fun K hK => ?_); simp (maxSteps := 2000000) (disch := omega) only [push_cast, ↓Int.cast_ofNat_Int, Nat.reduceBEq, Nat.reduceAdd, Nat.reduceLT, Nat.reduceEqDiff, reduceIte, reduceCtorEq, Nat.reduceLeDiff, Nat.reduceSub, List.reduceReplicate, Nat.reduceMul, Int.reduceToNat, Int.toNat_natCast, Nat.reducePow, reduceIte, hvp_nil, hvp_cons, hStoreP_eq, hStoreP2_eq, inB, rset_bx, rset_hl, List.set_cons_succ, List.set_cons_zero, storeOf_store, storeOf_move, storeOf_assign, storeOf_pick, storeOf_extract, storeOf_field, storeOf_faddr, storeOf_nilc, storeOf_iaddr, storeOf_slice, storeOf_load, storeOf_build, storeOf_bin, storeOf_un, storeOf_conv, storeOf_index, storeOf_call, storeOf_alloc, storeOf_box, storeOf_make, storeOf_buildS, spsH_n, spsH_get, spsH_set]
     refine ⟨⟨by omega, fun _ h => by cases h⟩, hstop ?_⟩
     simp only [fillAll_nil, fillAll_cons, zX, zU, sset_nil, sset_cons, rset_bx, rset_hl, List.set_cons_succ, List.set_cons_zero, Nat.reduceEqDiff, reduceIte, spsH_get, spsH_set]
     with_reducible refine hstop ?_; simp (maxSteps := 2000000) (disch := omega) only [push_cast, ↓Int.cast_ofNat_Int, Nat.reduceBEq, Nat.reduceAdd, Nat.reduceLT, Nat.reduceEqDiff, reduceIte, reduceCtorEq, Nat.reduceLeDiff, Nat.reduceSub, List.reduceReplicate, Nat.reduceMul, Int.reduceToNat, Int.toNat_natCast, Nat.reducePow, reduceIte, spsH_n, spsH_get, spsH_set]
     refine hK _ ?_; clear hK K
     (repeat first | refine zK ?_ | refine zG ?_ | refine zH ?_ | refine zF rfl ?_ | refine zL ?_ | refine zB ?_ | refine zE ?_ | refine zA ?_ | refine zC ?_ | refine zT ?_ | refine zW ?_)
     (repeat first | refine zE ?_ | refine zA ?_ | refine zC ?_ | refine zB ?_ | refine zD ?_)
     refine HW_sl 280 (sps (q ++ [⟨l'.a0, i, l'.b0, p⟩])) (spsH_eq q ⟨l'.a0, i, l'.b0, p⟩).symm rfl (by simp only [sset_nil, sset_cons, Nat.reduceEqDiff, reduceIte]; exact rfl) ?_
     (repeat first | refine zE ?_ | refine zA ?_ | refine zC ?_ | refine zB ?_ | refine zD ?_); refine zJ (fun K hK => ?_); simp (maxSteps := 2000000) (disch := omega) only [push_cast, ↓Int.cast_ofNat_Int, Nat.reduceBEq, Nat.reduceAdd, Nat.reduceLT, Nat.reduceEqDiff, reduceIte, reduceCtorEq, Nat.reduceLeDiff, Nat.reduceSub, List.reduceReplicate, Nat.reduceMul, Int.reduceToNat, Int.toNat_natCast, Nat.reducePow, reduceIte]; refine hK _ ?_; clear hK K
     (repeat first | refine zK ?_ | refine zG ?_ | refine zH ?_ | refine zF rfl ?_ | refine zL ?_ | refine zB ?_ | refine zE ?_ | refine zA ?_ | refine zC ?_ | refine zT ?_ | refine zW ?_)
     exact ⟨(n + 1, i, p, q ++ [⟨l'.a0, i, l'.b0, p⟩]), rfl, ⟨hnl, by dsimp only; omega, by dsimp only; omega, hfl, hfin, p4, hF⟩, by dsimp only; omega⟩
    ·rw [if_neg hg] at hF hfin hfl
     have e1 : decide ((i : Int) - (l'.a1 : Int) ≤ 2 * (r : Int)) = false := decide_eq_false (by omega)
     (repeat first | refine zE ?_ | refine zA ?_ | refine zC ?_ | refine zB ?_ | refine zD ?_); refine HW_drw 15 mixed (by kernel_rfl) (fun K hK => ?_); simp (maxSteps := 2000000) (disch := omega) only [push_cast, ↓Int.cast_ofNat_Int, Nat.reduceBEq, Nat.reduceAdd, Nat.reduceLT, Nat.reduceEqDiff, reduceIte, reduceCtorEq, Nat.reduceLeDiff, Nat.reduceSub, List.reduceReplicate, Nat.reduceMul, Int.reduceToNat, Int.toNat_natCast, Nat.reducePow, reduceIte, sps_len, sps_wid, sps_last, e1]
     with_reducible refine hstop ?_; simp (maxSteps := 2000000) (disch := omega) only [push_cast, ↓Int.cast_ofNat_Int, Nat.reduceBEq, Nat.reduceAdd, Nat.reduceLT, Nat.reduceEqDiff, reduceIte, reduceCtorEq, Nat.reduceLeDiff, Nat.reduceSub, List.reduceReplicate, Nat.reduceMul, Int.reduceToNat, Int.toNat_natCast, Nat.reducePow, reduceIte]
     refine hK _ ?_; clear hK K
     refine yC rfl ?_
     refine yB [0, 1, 2, 10, 11, 12, 15, 16, 36, 37, 38] [120, 216, 280] (by simp only [zZ, zR, zP, zQ, zN, zS, zM, zX, zU, Nat.reduceEqDiff, reduceIte]; exact rfl) ?_
     (repeat first | refine zE ?_ | refine zA ?_ | refine zC ?_ | refine zB ?_ | refine zD ?_); refine zJ (fun K hK => ?_); simp (maxSteps := 2000000) (disch := omega) only [push_cast, ↓Int.cast_ofNat_Int, Nat.reduceBEq, Nat.reduceAdd, Nat.reduceLT, Nat.reduceEqDiff, reduceIte, reduceCtorEq, Nat.reduceLeDiff, Nat.reduceSub, List.reduceReplicate, Nat.reduceMul, Int.reduceToNat, Int.toNat_natCast, Nat.reducePow, reduceIte, sps_len, sps_snoc]; (repeat refine ⟨by first | omega | decide | ((repeat' apply And.intro) <;> first | omega | decide), ?_⟩); refine hK _ ?_; clear hK K
     (repeat first | refine zK ?_ | refine zG ?_ | refine zH ?_ | refine zF rfl ?_ | refine zL ?_ | refine zB ?_ | refine zE ?_ | refine zA ?_ | refine zC ?_ | refine zT ?_ | refine zW ?_)
     (repeat first | refine zE ?_ | refine zA ?_ | refine zC ?_ | refine zB ?_ | refine zD ?_); refine zJ (fun K hK => ?_); simp (maxSteps := 2000000) (disch := omega) only [push_cast, ↓Int.cast_ofNat_Int, Nat.reduceBEq, Nat.reduceAdd, Nat.reduceLT, Nat.reduceEqDiff, reduceIte, reduceCtorEq, Nat.reduceLeDiff, Nat.reduceSub, List.reduceReplicate, Nat.reduceMul, Int.reduceToNat, Int.toNat_natCast, Nat.reducePow, reduceIte]; refine hK _ ?_; clear hK K
     (repeat first | refine zK ?_ | refine zG ?_ | refine zH ?_ | refine zF rfl ?_ | refine zL ?_ | refine zB ?_ | refine zE ?_ | refine zA ?_ | refine zC ?_ | refine zT ?_ | refine zW ?_)
     exact ⟨(n + 1, i, p, q ++ [l', ⟨i, i, j, p⟩]), by simp only [zZ, zR, zP, zQ, zN, zS, zM, zX, zU, Nat.reduceEqDiff, reduceIte]; rw [show (q ++ [l', ⟨i, i, j, p⟩] : List Sp) = (q ++ [l']) ++ [⟨i, i, j, p⟩] by simp]; try rfl, ⟨hnl, by dsimp only; omega, by dsimp only; omega, hfl, hfin, p4, hF⟩, by dsimp only; omega⟩
 ·have hne : n = l.length := by omega
  have hFa : SP = acc := by rw [hne, List.drop_length] at hF; exact hF
  subst hFa
  (repeat first | refine zE ?_ | refine zA ?_ | refine zC ?_ | refine zB ?_ | refine zD ?_); refine zJ (fun K hK => ?_); simp (maxSteps := 2000000) (disch := omega) only [push_cast, ↓Int.cast_ofNat_Int, Nat.reduceBEq, Nat.reduceAdd, Nat.reduceLT, Nat.reduceEqDiff, reduceIte, reduceCtorEq, Nat.reduceLeDiff, Nat.reduceSub, List.reduceReplicate, Nat.reduceMul, Int.reduceToNat, Int.toNat_natCast, Nat.reducePow, reduceIte]; refine hK _ ?_; clear hK K
  (repeat first | refine zE ?_ | refine zA ?_ | refine zC ?_ | refine zB ?_ | refine zD ?_)
  refine yC rfl ?_
  (repeat first | refine zK ?_ | refine zG ?_ | refine zH ?_ | refine zF rfl ?_ | refine zL ?_ | refine zB ?_ | refine zA ?_ | refine zC ?_ | refine zT ?_ | refine zW ?_)
  refine fblkQ_exit ?_
  refine fseqQ_normal ?_
  refine HWF_keep [0, 1, 2, 10] [280] (by simp only [zZ, zR, zP, zQ, zN, zS, zM, zX, zU, Nat.reduceEqDiff, reduceIte]; exact rfl) ?_
  refine between_TF a b r SP _ hA hB hr4 (by omega) hin hbd fun T hT => ?_
  simp only [ffunQ, yH, yE, yK, yJ, zS, zM, Nat.reduceEqDiff, reduceIte, reduceCtorEq]
  exact fres_hv rfl (hlT_plain T) (hlT_ren T) (.inr (.inr ⟨by omega, hA, hB, rfl, T, by rw [hbw, hT], rfl, rfl⟩))
end Go.Proofs.Ytfojmpimnidmkaa
