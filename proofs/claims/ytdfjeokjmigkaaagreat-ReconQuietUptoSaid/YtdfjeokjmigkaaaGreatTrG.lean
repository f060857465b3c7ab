/-
  path.Name, walked.
-/
import Derived.Test.YtdfjeokjmigkaaaGreatTrF
import Derived.Laws.RangeAny
set_option linter.unusedSimpArgs false
set_option linter.unusedVariables false
set_option maxRecDepth 20000
namespace Go.Tr
open Go
theorem okC_nat (c : UInt8) : okC c = (decide (97 ≤ c.toNat ∧ c.toNat ≤ 122) || decide (48 ≤ c.toNat ∧ c.toNat ≤ 57) || decide (c.toNat = 95)) := by
 have e : ∀ a b : UInt8, decide (a ≤ b) = decide (a.toNat ≤ b.toNat) := fun a b => rfl
 have e2 : decide (c = 95) = decide (c.toNat = 95) := by
  rw [decide_eq_decide]
  exact ⟨fun h => by rw [h]; rfl, fun h => UInt8.toNat_inj.1 h⟩
 rw [okC, e2, Bool.decide_and, Bool.decide_and, e, e, e, e]
 rfl
def badR (r : Int) : Bool := ((decide (r < 97) || decide (122 < r)) && (decide (r < 48) || decide (57 < r))) && !decide (r = 95)
theorem badR_ok (c : UInt8) : badR (c.toNat : Int) = !okC c := by
 rw [okC_nat, badR]
 rw [Bool.eq_iff_iff]
 simp
 omega
end Go.Tr
namespace Go.Proofs.YtdfjeokjmigkaaaGreat
open Go Go.Eng Go.RowKit Go.Tr
attribute [local push_cast] lk_nil lk_cons ev_tmp ev_const ev_global ev_func evs_nil evs_cons stp_some stp_none dsts_nil dsts_cons argsE_nil argsE_cons intBin_add intBin_sub intBin_mul intBin_quo intBin_rem intBin_and intBin_or intBin_xor intBin_andNot intBin_eql intBin_neq intBin_lss intBin_leq intBin_gtr intBin_geq intBin_shl intBin_shr strBin_add strBin_eql strBin_neq strBin_lss strBin_leq strBin_gtr strBin_geq pureBin_int pureBin_str pureBin_beq pureBin_bne pureBin_peq pureBin_pne pureBin_seq pureBin_sne pureBin_agg effEq_eql effEq_neq pureUn_not pureUn_neg pureUn_xor pureConv_int pureConv_str pureField_eq pureIndexAddr_s pureIndexAddr_p pureIndex_s oInt_none oInt_some pureSlice_str pureSlice_sl pureB_len pureB_lens pureB_cap pureB_max pureB_min pureB_app pureB_copy po_move po_assign po_pick po_bin po_un po_conv po_field po_extract po_faddr po_iaddr po_index po_slice po_nil po_builtin po_call po_load po_store po_alloc po_box po_build po_buildS po_makeS eo_load eo_store eo_build eo_buildS eo_makeS eo_app eo_call eo_bin eq_load eq_build eq_call eq_bin parts_nil parts_cons outG_none outG_some dstOk_none dstOk_some out_eq outR_eq outOp_eq outQ_eq imm_load immQ_load imm_alloc imm_box imm_store imm_build imm_call imm_bin immQ_build immQ_call immQ_bin imm_buildS imm_makeS v2_nil v2_cons vq_nil vq_cons undef_eq
attribute [local push_cast] List.take_succ_cons List.take_zero List.drop_succ_cons List.drop_zero true_and and_true Option.isSome_some List.getElem?_cons_zero List.getElem?_cons_succ List.length_cons List.length_nil cond_true cond_false Int.toNat_natCast Nat.mul_one Nat.add_zero Nat.zero_add Addr.add_lit bne_self_eq_false beq_self_eq_true Bool.not_true Bool.not_false List.size_toArray Array.getD_eq_getD_getElem? List.getElem?_toArray Option.getD_some decide_true decide_false eq_self Bool.true_beq Bool.false_beq
end Go.Proofs.YtdfjeokjmigkaaaGreat
