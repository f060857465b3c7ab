/-
  The document's Held, at a list with room behind it.
-/
import Derived.Test.YtkonlklieacjoaaDoorTrO
set_option linter.unusedSimpArgs false
set_option linter.unusedVariables false
set_option maxRecDepth 20000
namespace Go.Proofs.YtkonlklieacjoaaDoor
open Go Go.Eng Go.RowKit Go.Tr
attribute [local push_cast] lk_nil lk_cons ev_tmp ev_const ev_global ev_func evs_nil evs_cons stp_some stp_none dsts_nil dsts_cons argsE_nil argsE_cons intBin_add intBin_sub intBin_mul intBin_quo intBin_rem intBin_and intBin_or intBin_xor intBin_andNot intBin_eql intBin_neq intBin_lss intBin_leq intBin_gtr intBin_geq intBin_shl intBin_shr strBin_add strBin_eql strBin_neq strBin_lss strBin_leq strBin_gtr strBin_geq pureBin_int pureBin_str pureBin_beq pureBin_bne pureBin_peq pureBin_pne pureBin_seq pureBin_sne pureBin_agg effEq_eql effEq_neq pureUn_not pureUn_neg pureUn_xor pureConv_int pureConv_str pureField_eq pureIndexAddr_s pureIndexAddr_p pureIndex_s oInt_none oInt_some pureSlice_str pureSlice_sl pureB_len pureB_lens pureB_cap pureB_max pureB_min pureB_app pureB_copy po_move po_assign po_pick po_bin po_un po_conv po_field po_extract po_faddr po_iaddr po_index po_slice po_nil po_builtin po_call po_load po_store po_alloc po_box po_build po_buildS po_makeS eo_load eo_store eo_build eo_buildS eo_makeS eo_app eo_call eo_bin eq_load eq_build eq_call eq_bin parts_nil parts_cons outG_none outG_some dstOk_none dstOk_some out_eq outR_eq outOp_eq outQ_eq imm_load immQ_load imm_alloc imm_box imm_store imm_build imm_call imm_bin immQ_build immQ_call immQ_bin imm_buildS imm_makeS v2_nil v2_cons vq_nil vq_cons undef_eq
attribute [local push_cast] List.take_succ_cons List.take_zero List.drop_succ_cons List.drop_zero true_and and_true Option.isSome_some List.getElem?_cons_zero List.getElem?_cons_succ List.length_cons List.length_nil cond_true cond_false Int.toNat_natCast Nat.mul_one Nat.add_zero Nat.zero_add Addr.add_lit bne_self_eq_false beq_self_eq_true Bool.not_true Bool.not_false List.size_toArray Array.getD_eq_getD_getElem? List.getElem?_toArray Option.getD_some decide_true decide_false eq_self Bool.true_beq Bool.false_beq
set_option maxHeartbeats 2000000 in
theorem held_calls (w : World) (g c : Nat) (t : List Ent) (ad : Option Addr) (cd : Nat) (hl : t.length ≤ 1048576) (h1 : RepH w (fun _ => False) w.heap.size (fun _ => undef) (.slice (some ⟨g, 0, none⟩) t.length c) (.lst false (ents t)))
  (h2 : RepH w (fun _ => False) w.heap.size (fun _ => undef) (.slice ad t.length cd) (.lst false (ents t))) (hc : t.length + 1 ≤ c) (hcell : w.cell? ⟨g, t.length * 3, none⟩ = some (.string spare.1)) :
  Calls Tryd.prog 19 #[.slice (some ⟨g, 0, none⟩) t.length c, .slice ad t.length cd] w (Ret fun r w' => r = .bool true ∧ Below w.heap.size w w') := by
 refine calls_W (args := [_, _]) Tryd.func19 rfl Tryd.ntmps19 Tryd.results19 (by simp) ?_
 have c22 := rsame_H t t (by omega)
 rw [decide_eq_true rfl] at c22
 (repeat first | refine W_seq ?_ | refine zV ?_ | refine W_skip ?_ | refine zY ?_); refine W_reg (fun K hK => ?_); simp only [push_cast, Nat.reduceBEq, Nat.reduceAdd, Nat.reduceLT, Nat.reduceEqDiff, reduceIte, reduceCtorEq, Nat.reduceLeDiff, Nat.reduceSub]; refine hK _ _ ?_; clear hK K
 (repeat first | refine W_seq ?_ | refine zV ?_ | refine W_skip ?_ | refine zY ?_); refine W_reg (fun K hK => ?_); simp only [push_cast, Nat.reduceBEq, Nat.reduceAdd, Nat.reduceLT, Nat.reduceEqDiff, reduceIte, reduceCtorEq, Nat.reduceLeDiff, Nat.reduceSub]
 refine ⟨cl22, Ret.mono (c22 w [_, _] ⟨rfl, fun i h1' h2' => ?_⟩) ?_⟩
 ·match i, h1' with
  | 0, _ => exact h1
  | 1, _ => exact h2
 rintro u w1 ⟨B, h, st, h8, rfl, ρ', xs', G', hr⟩
 have hu := repH_v hr
 subst hu
 have hcell1 := below_cell B hcell
 have hw : IntKind.i64.wrap ((t.length : Int) + 1) = (t.length : Int) + 1 := wr64 (by omega) (by omega)
 have hx : ((t.length : Int) + 1).toNat = t.length + 1 := by omega
 have hsub : subAddr (some ⟨g, 0, none⟩) c (Int.toNat 0) 3 = some ⟨g, 0, none⟩ := by
  rw [subAddr, if_neg (show ¬ c = Int.toNat 0 by show ¬ c = 0; omega)]
  rfl
 have e1 : t.length + 1 - Int.toNat 0 = t.length + 1 := rfl
 have e2 : c - Int.toNat 0 = c := rfl
 have e3 : decide (spare.1 = ({ data := #[115, 112, 97, 114, 101] } : ByteArray)) = true := by decide +kernel
 refine v2s ?_; try simp only [push_cast, Nat.reduceBEq, Nat.reduceAdd, Nat.reduceLT, Nat.reduceEqDiff, reduceIte, reduceCtorEq, Nat.reduceLeDiff, Nat.reduceSub, us22, hw, hx, hc, kt9, fo68_0, hsub, e1, e2, hcell1, e3]
 refine ⟨by omega, by omega, ?_⟩
 refine hK _ _ ?_; clear hK K
 (repeat first | refine yN ?_ | refine yP ?_ | refine yQ ?_ | refine yR rfl ?_ | refine yS ?_ | refine zY ?_ | refine W_seq ?_ | refine zV ?_ | refine W_skip ?_ | refine W_exit ?_ | refine W_ret ?_)
 simp only [funQ, resE, tup, lk, Nat.reduceEqDiff, reduceIte, reduceCtorEq]
 exact ⟨by trivial, B⟩
theorem vw_shape {w : World} {A : Nat → Prop} {n0 : Nat} {ρ : Nat → Value} {v : Value} {id g n cap m sz : Nat} (h : RepH w A n0 ρ v (.vw id sz 0 m)) (hg : ρ id = .slice (some ⟨g, 0, none⟩) n cap) (hm : m + 1 ≤ cap) : ∃ c1, v = .slice (some ⟨g, 0, none⟩) m c1 ∧ m + 1 ≤ c1 := by
 cases h with
 | vw _ _ _ hρ h1 hc hn hx ha =>
  rw [hg] at hρ
  simp only [Value.slice.injEq] at hρ
  obtain ⟨rfl, rfl, rfl⟩ := hρ
  obtain ⟨g', eg, rfl⟩ := ha (by omega)
  simp only [Option.some.injEq, Addr.mk.injEq] at eg
  obtain ⟨rfl, -, -⟩ := eg
  exact ⟨cap, by rw [Nat.zero_mul, hc, Nat.sub_zero], hm⟩
theorem lst_shape {w : World} {A : Nat → Prop} {n0 : Nat} {ρ : Nat → Value} {v : Value} {fr : Bool} {t : List Ent} (h : RepH w A n0 ρ v (.lst fr (ents t))) : ∃ ad cd, v = .slice ad t.length cd := by
 generalize hx : ents t = xs at h
 cases h with
 | lst hF =>
  cases hF with
  | lst sz vals hn =>
   subst hx
   rw [yV] at hn
   subst hn
   exact ⟨_, _, rfl⟩
section
variable {S : HS} {id : Nat} {t : List Ent} {h2 : HV}
theorem held_at0 (hl : t.length ≤ 1048576) (hr : rlk S.st id = some (rowE (t ++ [spare]))) (L2 : Lend S.st h2 (.lst false (ents t)))
  {c : Ctx} {look : Nat → Option Value} {w : World} {ρ : Nat → Value} {xs : Nat → List Value} {vs : List Value} (G : Eng.Good c S look w ρ xs) (R : Reps w (c.A ρ S.st) c.n0 ρ vs [.vw id 3 0 t.length, h2]) :
  Calls Tryd.prog 19 vs.toArray w (Ret fun v w' => v = .bool true ∧ Below w.heap.size w w') := by
 obtain ⟨R1, R2⟩ := R
 match vs, R1 with
 | [v0, v1], _ =>
 have r0 := R2 0 (by simp) (by simp)
 have r1 := R2 1 (by simp) (by simp)
 simp only [List.getElem_cons_zero, List.getElem_cons_succ] at r0 r1
 have l0 := lend_rep G r0 (lendV (ys := ents t) (by rw [List.drop_zero, ents_take, List.take_left' rfl, yT]) hr)
 have l1 := lend_rep G r1 L2
 obtain ⟨o1, o2, o3⟩ := rows_sl G hr
 rw [yV, List.length_append] at o1
 obtain ⟨g, cap, hg, hcap, -, hcell⟩ := own_some o1 (by simp)
 have hsp : w.cell? ⟨g, t.length * 3, none⟩ = some (.string spare.1) := by
  obtain ⟨u, u1, -, u3⟩ := o3 t.length 0 (by rw [yV]; simp) (by rw [o2 _ (List.getElem_mem _)]; omega)
  have e : (ents (t ++ [spare]))[t.length]'(by rw [yV]; simp) = entF spare := by simp [ents]
  have e2 : ((ents (t ++ [spare]))[t.length]'(by rw [yV]; simp))[0]'(by rw [e]; simp [entF]) = .v (.string spare.1) := by simp only [e]; rfl
  rw [e2] at u3
  cases u3
  exact hcell _ _ u1
 have hcap' : t.length + 1 ≤ cap := by simpa using hcap
 obtain ⟨c1, rfl, hc1⟩ : ∃ c1, v0 = .slice (some ⟨g, 0, none⟩) t.length c1 ∧ t.length + 1 ≤ c1 := vw_shape r0 hg hcap'
 obtain ⟨ad, cd, rfl⟩ : ∃ ad cd, v1 = .slice ad t.length cd := lst_shape l1
 exact held_calls w g c1 t ad cd hl l0 l1 hc1 hsp
theorem held_atq (hl : t.length ≤ 1048576) {K : Value → Prop} (hr : rlk S.st id = some (rowE (t ++ [spare]))) (L2 : Lend S.st h2 (.lst false (ents t))) (hK : K (.bool true)) : HAtQ Tryd.prog 19 [.vw id 3 0 t.length, h2] S K :=
 ⟨cl19, .bool true, hK, fun c look w ρ xs vs G R => held_at0 hl hr L2 G R⟩
theorem held_at (hl : t.length ≤ 1048576) {K : HV → HS → Prop} (hr : rlk S.st id = some (rowE (t ++ [spare]))) (L2 : Lend S.st h2 (.lst false (ents t))) (hK : K (.v (.bool true)) S) : HAt Tryd.prog 19 [.vw id 3 0 t.length, h2] S K :=
 ⟨cl19, fun c look w ρ xs vs G R => Ret.mono (held_at0 hl hr L2 G R) fun v w' ⟨e, B⟩ => ⟨_, _, hK, ρ, xs, G.below B, by subst e; exact .v _⟩⟩
end
end Go.Proofs.YtkonlklieacjoaaDoor
