/-
  Lines: what they are; the walks of lines.Split, Count, Text, Closed and of the reference's.
-/
import Derived.Test.YtlfenddhppoflaaSmH
import Derived.Test.YtlfenddhppoflaaJoin
set_option linter.unusedSimpArgs false
set_option linter.unusedVariables false
set_option maxRecDepth 20000
namespace Go.Proofs.Ytlfenddhppoflaa
open Go Go.Eng Go.RowKit
/-- a text as lines, each with its end -/
def spl : List UInt8 → List (List UInt8)
  | [] => []
  | b :: l => if b = 10 then [b] :: spl l else match spl l with
    | [] => [[b]]
    | x :: r => (b :: x) :: r
def bs (l : List UInt8) : ByteArray := ⟨l.toArray⟩
def splS (s : ByteArray) : List ByteArray := (spl s.data.toList).map bs
theorem bs_list (s : ByteArray) : bs s.data.toList = s := by
  apply ByteArray.ext; apply Array.toList_inj.1; simp [bs]
theorem bs_data (l : List UInt8) : (bs l).data.toList = l := by simp [bs]
theorem bs_size (l : List UInt8) : (bs l).size = l.length := by show (bs l).data.size = _; simp [bs]
theorem spl_cut (p q : List UInt8) (h : ∀ b ∈ p, b ≠ 10) : spl (p ++ 10 :: q) = (p ++ [10]) :: spl q := by
  induction p with
  | nil => simp [spl]
  | cons b p ih =>
    rw [List.cons_append, spl, if_neg (h b (by simp)), ih (fun x hx => h x (by simp [hx]))]
    rfl
theorem spl_one (p : List UInt8) (h : ∀ b ∈ p, b ≠ 10) (hne : p ≠ []) : spl p = [p] := by
  induction p with
  | nil => exact absurd rfl hne
  | cons b p ih =>
    rw [spl, if_neg (h b (by simp))]
    cases p with
    | nil => rfl
    | cons c r => rw [ih (fun x hx => h x (by simp [hx])) (by simp)]
theorem index_ten (l : List UInt8) : (Lib.indexByte l 10 = -1 ∧ ∀ b ∈ l, b ≠ 10) ∨ ∃ p q, l = p ++ 10 :: q ∧ (∀ b ∈ p, b ≠ 10) ∧ Lib.indexByte l 10 = p.length := by
  induction l with
  | nil => exact .inl ⟨rfl, by simp⟩
  | cons b l ih =>
    rw [Lib.indexByte]
    by_cases e : b = 10
    · subst e; exact .inr ⟨[], l, rfl, by simp, by simp⟩
    · rw [if_neg (by simpa using e)]
      rcases ih with ⟨h1, h2⟩ | ⟨p, q, rfl, h2, h3⟩
      · left
        rw [h1]
        exact ⟨rfl, fun x hx => by rcases List.mem_cons.1 hx with rfl | hx; exact e; exact h2 x hx⟩
      · right
        refine ⟨b :: p, q, rfl, fun x hx => by rcases List.mem_cons.1 hx with rfl | hx; exact e; exact h2 x hx, ?_⟩
        rw [h3, if_neg (by simp)]
        simp
theorem ext_data (s : ByteArray) (a b : Nat) : (s.extract a b).data.toList = (s.data.toList.take b).drop a := by
  rw [ByteArray.data_extract, Array.toList_extract, List.extract_eq_take_drop, List.drop_take]
theorem size_data (s : ByteArray) : s.data.toList.length = s.size := by rw [Array.length_toList]; rfl
/-- the first line is cut off -/
theorem splS_step (u : ByteArray) (h : u ≠ ⟨#[]⟩) : ∃ n : Nat, 1 ≤ n ∧ n ≤ u.size ∧ (Lib.indexByte u.data.toList 10 + 1 = 0 ∧ n = u.size ∨ Lib.indexByte u.data.toList 10 + 1 = (n : Int)) ∧ splS u = u.extract 0 n :: splS (u.extract n u.size) := by
  have hs := size_data u
  rcases index_ten u.data.toList with ⟨h1, h2⟩ | ⟨p, q, h1, h2, h3⟩
  · have hne : u.data.toList ≠ [] := fun e => h (by rw [← bs_list u, e]; rfl)
    have hpos : 0 < u.data.toList.length := List.length_pos_iff.2 hne
    refine ⟨u.size, by omega, Nat.le_refl _, .inl ⟨by omega, rfl⟩, ?_⟩
    have e1 : u.extract 0 u.size = u := by rw [← bs_list (u.extract 0 u.size), ext_data, List.take_of_length_le (by omega), List.drop_zero, bs_list]
    have e2 : splS (u.extract u.size u.size) = [] := by unfold splS; rw [ext_data, List.drop_eq_nil_of_le (by simp)]; rfl
    rw [e1, e2]
    unfold splS
    rw [spl_one _ h2 hne, List.map_cons, List.map_nil, bs_list]
  · have hl : u.size = p.length + 1 + q.length := by rw [← hs, h1]; simp; omega
    refine ⟨p.length + 1, by omega, by omega, .inr (by omega), ?_⟩
    unfold splS
    rw [ext_data, h1, spl_cut p q h2, List.map_cons]
    congr 1
    · rw [← bs_list (u.extract 0 (p.length + 1)), ext_data, h1, List.drop_zero]
      congr 1
      rw [List.take_append, List.take_of_length_le (by omega)]; simp
    · congr 2
      rw [List.take_of_length_le (by simp; omega), List.drop_append, List.drop_eq_nil_of_le (by omega)]; simp
theorem spl_len (l : List UInt8) : (spl l).length ≤ l.length := by
  induction l with
  | nil => simp [spl]
  | cons b l ih =>
    rw [spl]
    split
    · simpa using ih
    · split
      · simp
      · rename_i x r e; rw [e] at ih; simp at ih ⊢; omega
theorem splS_len (s : ByteArray) : (splS s).length ≤ s.size := by
  unfold splS; rw [List.length_map, ← size_data]; exact spl_len _
/-! ### the library's -/
theorem indexTen_H (s : ByteArray) : HFun Try.prog 64 [.v (.string s), .v (.int .u8 10)] (fun h st => h = .v (.int .i64 (Lib.indexByte s.data.toList 10))) := by
  refine (hfun_low fun w vs R => ?_).mono fun h st q => q.1
  obtain ⟨r1, r2⟩ := R
  match vs, r1 with
  | [a, b], _ =>
  have ha := repH_v (r2 0 (by simp) (by simp))
  have hb := repH_v (r2 1 (by simp) (by simp))
  simp only [List.getElem_cons_zero, List.getElem_cons_succ] at ha hb
  subst ha; subst hb
  refine (Try.strings_IndexByte s 10 w).mono ?_
  rintro e w' ⟨rfl, rfl⟩
  exact ret_of ⟨rfl, Below.refl _ _⟩
theorem countTen_H (s : ByteArray) : HFun Try.prog 65 [.v (.string s), .v (.string ⟨#[10]⟩)] (fun h st => h = .v (.int .i64 (s.data.toList.count 10 : Nat))) := by
  refine (hfun_low fun w vs R => ?_).mono fun h st q => q.1
  obtain ⟨r1, r2⟩ := R
  match vs, r1 with
  | [a, b], _ =>
  have ha := repH_v (r2 0 (by simp) (by simp))
  have hb := repH_v (r2 1 (by simp) (by simp))
  simp only [List.getElem_cons_zero, List.getElem_cons_succ] at ha hb
  subst ha; subst hb
  refine (Try.strings_Count_one s 10 w).mono ?_
  rintro e w' ⟨rfl, rfl⟩
  exact ret_of ⟨rfl, Below.refl _ _⟩
/-- ends it with a line's end? -/
def endsTen (l : List UInt8) : Bool := l.getLast? == some 10
theorem suffix_ten (l : List UInt8) : Lib.hasSuffix l [10] = endsTen l := by
  unfold Lib.hasSuffix endsTen
  rcases List.eq_nil_or_concat l with rfl | ⟨p, b, rfl⟩
  · rfl
  · rw [Bool.eq_iff_iff, List.isSuffixOf_iff_suffix]
    simp only [List.concat_eq_append, List.getLast?_concat, List.getLast?_append, List.getLast?_singleton, Option.some_or, beq_iff_eq, Option.some.injEq]
    constructor
    · rintro ⟨t, h⟩
      have := congrArg List.getLast? h
      simpa using this.symm
    · rintro rfl
      exact ⟨p, rfl⟩
theorem suffixTen_H (s : ByteArray) (hs : s.size ≤ 9223372036854775807) : HFun Try.prog 66 [.v (.string s), .v (.string ⟨#[10]⟩)] (fun h st => h = .v (.bool (endsTen s.data.toList))) := by
  refine (hfun_low fun w vs R => ?_).mono fun h st q => q.1
  obtain ⟨r1, r2⟩ := R
  match vs, r1 with
  | [a, b], _ =>
  have ha := repH_v (r2 0 (by simp) (by simp))
  have hb := repH_v (r2 1 (by simp) (by simp))
  simp only [List.getElem_cons_zero, List.getElem_cons_succ] at ha hb
  subst ha; subst hb
  refine (Try.strings_HasSuffix s ⟨#[10]⟩ w hs).mono ?_
  rintro e w' ⟨rfl, rfl⟩
  refine ret_of ⟨?_, Below.refl _ _⟩
  show Value.bool (Lib.hasSuffix s.data.toList [10]) = _
  rw [suffix_ten]
/-! ### the reference's way -/
theorem at_data (s : ByteArray) (i : Nat) (h : i < s.size) : ∃ b : UInt8, s.data.toList[i]? = some b ∧ byteAt s i = (b.toNat : Int) := by
  have h' : i < s.data.size := h
  refine ⟨s.data[i], by rw [Array.getElem?_toList, Array.getElem?_eq_getElem h'], ?_⟩
  unfold byteAt
  rw [Array.getD_eq_getD_getElem?, Array.getElem?_eq_getElem h']; rfl
theorem ten_iff (b : UInt8) : (b.toNat : Int) = 10 ↔ b = 10 := by
  constructor
  · intro h; apply UInt8.toNat_inj.1; have e : (10 : UInt8).toNat = 10 := rfl; omega
  · rintro rfl; rfl
theorem splS_at (s : ByteArray) (a i : Nat) (ha : a ≤ i) (hi : i < s.size) (hno : ∀ j, a ≤ j → j < i → byteAt s j ≠ 10) (hb : byteAt s i = 10 ∨ i + 1 = s.size) :
    splS (s.extract a s.size) = s.extract a (i + 1) :: splS (s.extract (i + 1) s.size) := by
  have hs := size_data s
  obtain ⟨b, b1, b2⟩ := at_data s i hi
  have hl : s.data.toList.drop a = (s.data.toList.drop a).take (i - a) ++ b :: s.data.toList.drop (i + 1) := by
    conv => lhs; rw [← List.take_append_drop (i - a) (s.data.toList.drop a)]
    congr 1
    rw [List.drop_drop, show a + (i - a) = i by omega]
    obtain ⟨h1, h2⟩ := List.getElem?_eq_some_iff.1 b1
    rw [List.drop_eq_getElem_cons h1, h2]
  have hp : ∀ x ∈ (s.data.toList.drop a).take (i - a), x ≠ 10 := fun x hx e => by
    obtain ⟨j, hj, rfl⟩ := List.getElem_of_mem hx
    simp only [List.length_take, List.length_drop] at hj
    simp only [List.getElem_take, List.getElem_drop] at e
    obtain ⟨c, c1, c2⟩ := at_data s (a + j) (by omega)
    refine hno (a + j) (by omega) (by omega) ?_
    rw [c2, ten_iff, ← e]
    rw [List.getElem?_eq_getElem (by omega)] at c1
    exact (Option.some.inj c1).symm
  have hx : ((s.data.toList.drop a).take (i - a) ++ [b]) = (s.data.toList.take (i + 1)).drop a := by
    have : (s.data.toList.drop a).take (i + 1 - a) = (s.data.toList.take (i + 1)).drop a := by rw [List.drop_take]
    rw [← this, show i + 1 - a = (i - a) + 1 by omega]
    obtain ⟨h1, h2⟩ := List.getElem?_eq_some_iff.1 b1
    rw [List.take_succ_eq_append_getElem (by simp; omega)]
    congr 2
    rw [List.getElem_drop, ← h2]
    congr 1
    omega
  unfold splS
  rw [ext_data, ext_data, List.take_of_length_le (by omega), hl]
  rw [b2, ten_iff] at hb
  by_cases hten : b = 10
  · subst hten
    rw [spl_cut _ _ hp, List.map_cons]
    congr 1
    rw [hx, ← ext_data, bs_list]
  · have he : i + 1 = s.size := hb.resolve_left hten
    have hd : s.data.toList.drop (i + 1) = [] := List.drop_eq_nil_of_le (by omega)
    rw [hd, spl_one _ (fun x hx => by rcases List.mem_append.1 hx with h | h; exact hp x h; simp at h; rw [h]; exact hten) (by simp), List.map_cons, hx, ← ext_data, bs_list]
    simp [spl]
theorem spl_count (l : List UInt8) : (spl l).length = l.count 10 + (if l ≠ [] ∧ endsTen l = false then 1 else 0) := by
  induction l with
  | nil => rfl
  | cons b l ih =>
    have hend : ∀ c r, endsTen (b :: c :: r) = endsTen (c :: r) := fun c r => by simp [endsTen]
    rw [spl]
    by_cases e : b = 10
    · subst e
      rw [if_pos rfl, List.length_cons, ih]
      cases l with
      | nil => rfl
      | cons c r => rw [hend, List.count_cons_self]; simp; omega
    · rw [if_neg e, List.count_cons_of_ne (Ne.symm (Ne.symm e))]
      cases l with
      | nil => simp [spl, endsTen, e]
      | cons c r =>
        rw [hend]
        have : ∃ x y, spl (c :: r) = x :: y := by
          rw [spl]; split
          · exact ⟨_, _, rfl⟩
          · split <;> exact ⟨_, _, rfl⟩
        obtain ⟨x, y, hxy⟩ := this
        rw [hxy] at ih ⊢
        simp only [List.length_cons] at ih ⊢
        rw [ih]; simp
theorem ends_at (s : ByteArray) (h : 0 < s.size) : endsTen s.data.toList = decide (byteAt s (s.size - 1) = 10) := by
  obtain ⟨b, b1, b2⟩ := at_data s (s.size - 1) (by omega)
  have hs := size_data s
  rw [b2, endsTen, List.getLast?_eq_getElem?, hs, b1, Bool.eq_iff_iff, decide_eq_true_iff, ten_iff]
  simp
theorem splS_count (s : ByteArray) : (splS s).length = s.data.toList.count 10 + (if s ≠ ⟨#[]⟩ ∧ byteAt s (s.size - 1) ≠ 10 then 1 else 0) := by
  unfold splS
  rw [List.length_map, spl_count]
  congr 1
  by_cases h : s = ⟨#[]⟩
  · subst h; rfl
  · have hne : s.data.toList ≠ [] := fun e => h (by rw [← bs_list s, e]; rfl)
    have hp : 0 < s.size := by rw [← size_data]; exact List.length_pos_iff.2 hne
    rw [ends_at s hp]
    simp [h, hne]
/-! ### an end for the last line -/
def nl : ByteArray := ⟨#[10]⟩
def closeS (x : ByteArray) : ByteArray := if endsTen x.data.toList then x else x ++ nl
def closedS (l : List ByteArray) : List ByteArray := match l.getLast? with
  | none => []
  | some x => l.set (l.length - 1) (closeS x)
theorem closedS_len (l : List ByteArray) : (closedS l).length = l.length := by
  unfold closedS
  split
  · rename_i h; rw [List.getLast?_eq_none_iff.1 h]
  · simp
theorem closedS_get (l : List ByteArray) (i : Nat) (h : i < l.length) : (closedS l)[i]'(by rw [closedS_len]; exact h) = if i = l.length - 1 then closeS l[i] else l[i] := by
  have hl : l.getLast? = some l[l.length - 1] := by rw [List.getLast?_eq_getElem?, List.getElem?_eq_getElem (by omega)]
  unfold closedS
  simp only [hl, List.getElem_set]
  by_cases e : i = l.length - 1
  · subst e; simp
  · rw [if_neg (by omega), if_neg e]
def textS (s : ByteArray) : Int := if (∃ i, i < s.size ∧ byteAt s i = 0) then 21 else if 400 < (splS s).length then 4 else 0
theorem byteE_len (s : ByteArray) : (byteE s).length = s.size := by simp [byteE]
theorem byteE_wid (s : ByteArray) : Wid 1 (byteE s) = True := eq_true fun x hx => by
  simp only [byteE, List.mem_map] at hx; obtain ⟨b, -, rfl⟩ := hx; rfl
theorem byteE_get {s : ByteArray} {i : Nat} {d : List FV} (h : i < s.size) : (byteE s).getD i d = [.v (.int .u8 (byteAt s i))] := by
  obtain ⟨b, b1, b2⟩ := at_data s i h
  rw [b2, List.getD_eq_getElem?_getD, byteE, List.getElem?_map, b1]; rfl
attribute [local push_cast] ev_tmp ev_const ev_global ev_func evs_nil evs_cons stp_some stp_none dsts_nil dsts_cons argsE_nil argsE_cons intBin_add intBin_sub intBin_mul intBin_quo intBin_rem intBin_and intBin_or intBin_xor intBin_andNot intBin_eql intBin_neq intBin_lss intBin_leq intBin_gtr intBin_geq intBin_shl intBin_shr strBin_add strBin_eql strBin_neq strBin_lss strBin_leq strBin_gtr strBin_geq pureBin_int pureBin_str pureBin_beq pureBin_bne pureBin_peq pureBin_pne pureBin_seq pureBin_sne pureBin_agg effEq_eql effEq_neq pureUn_not pureUn_neg pureUn_xor pureConv_int pureConv_str pureField_eq pureIndexAddr_s pureIndexAddr_p pureIndex_s oInt_none oInt_some pureSlice_str pureSlice_sl pureB_len pureB_lens pureB_cap pureB_max pureB_min pureB_app pureB_copy po_move po_assign po_pick po_bin po_un po_conv po_field po_extract po_faddr po_iaddr po_index po_slice po_nil po_builtin po_call po_load po_store po_alloc po_box po_build po_buildS po_makeS eo_load eo_store eo_build eo_buildS eo_makeS eo_app eo_call eo_bin eq_load eq_build eq_call eq_bin parts_nil parts_cons outG_none outG_some dstOk_none dstOk_some out_eq outR_eq outOp_eq outQ_eq imm_load immQ_load imm_alloc imm_box imm_store imm_build imm_call imm_bin immQ_build immQ_call immQ_bin imm_buildS imm_makeS v2_nil v2_cons vq_nil vq_cons undef_eq
attribute [local push_cast] List.take_succ_cons List.take_zero List.drop_succ_cons List.drop_zero true_and and_true Option.isSome_some List.getElem?_cons_zero List.getElem?_cons_succ List.length_cons List.length_nil cond_true cond_false Int.toNat_natCast Nat.mul_one Nat.add_zero Nat.zero_add Addr.add_lit bne_self_eq_false beq_self_eq_true Bool.not_true Bool.not_false List.size_toArray Array.getD_eq_getD_getElem? List.getElem?_toArray Option.getD_some decide_true decide_false eq_self Bool.true_beq Bool.false_beq List.getD_cons_zero List.getD_cons_succ List.map_cons List.map_nil List.set_cons_zero List.set_cons_succ List.replicate_zero List.toList_toArray List.all_toArray List.all_cons List.all_nil Bool.and_self Bool.and_true Bool.true_and Bool.and_false Bool.false_and List.length_map List.length_append List.length_replicate List.length_set List.cons_append List.nil_append cond_triv Option.isSome_some Option.isSome_none beq_true beq_false Bool.not_false Option.map_some Bool.true_or Bool.false_or Bool.or_true Bool.or_false Bool.false_xor Bool.true_xor and_self beq_self_eq_true fv_default List.flatMap_cons List.flatMap_nil List.append_nil
attribute [local push_cast] lk_lo hlk_nil hlk_cons rlk_nil rlk_cons hev_tmp hev_const hev_global hev_func hevs_nil hevs_cons leaf_v leaf_none leaf_lst leaf_own leaf_ptr leaf_elt leaf_agg leaf_tup leaf_vw leaf_junk hPure_some hPure_none hop_eq heff_move heff_assign heff_pick heff_extract heff_field heff_faddr heff_nilc heff_iaddr heff_slice heff_load heff_store heff_alloc heff_box heff_build heff_buildS heff_makeS heff_len heff_app heff_callf heff_eql heff_neq heff_conv hMove_eq hPick_eq hExtract_eq hField_one hField_sub hFAddr_ptr hFAddr_elt hNil_ptr hNil_elt hIAddr_own hIAddr_lst hIAddr_ptr hIAddr_elt hIAddrR_eq hIAddrL_eq hIAddrP_eq hIAddrE_eq hLen_vw hSlice_own hSlice_vw hSliceR_eq hSliceV_eq rlen_sl hIAddr_vw hIAddrV_eq newsOf_vw hcells_vw hone_vw hkill_vw hren_vw hsub_vw ownIds_vw ownCell_vw hLen_own hLen_lst hLenR_hl hIAddrR_hl hLenR_eq hSlice_eq hSliceL_eq hLoad_ptr hLoad_elt hLoadR_sl hLoadR_sla hLoadR_bx hLoadR_bxa hLoadR_hl hLoadR_hla hStoreR_hl hStoreH_one hStoreH_agg hLoadE_one hLoadE_agg hStore_eq hStoreR_sl hStoreR_bx hStoreS_one hStoreS_agg hStoreB_one hStoreB_agg hAlloc_eq hBox_eq hBoxC_eq partsH_nil partsH_cons hfill_nil hfill_cons hBuild_eq hBuildF_eq hlit_nil hlit_cons hBuildS_eq allF_nil allF_cons hlitH_nil hlitH_cons hkl_eq hBuildSE_t hBuildSE_f hBuildSH_eq hBuildSF_eq hMake_eq newsOf_own newsOf_lst newsOf_nil hAppend_own newsH_own newsH_lst newsH_nil arr2_eq newsA_t newsA_f newsS_str hAppend_nil hAppR_hl hAppH_eq hAppR_eq hAppN_eq leafs_nil leafs_cons hEq_eq hEq_ptr hEq_elt hConv_str hConv_own hConv_lst hConvR_eq hConvL_eq bytesH_nil bytesH_cons hEqL_eq hCall_eq ats0_eq oneAll_eq hf_v hf_own hf_vw hf_ptr hf_lst hfs_nil hfs_cons fone_v fone_lst hone_v hone_lst hone_own hone_ptr fh_v fh_lst one_int hcellv_int one_bool hcellv_bool one_str hcellv_str one_slice hcellv_slice one_ptr hcellv_ptr hcells_agg hcells_lst hcells_own hcells_ptr splice_eq kill_eq row_eq set_some set_none rep_eq hrep_nil hrep_cons ekill_nil ekill_cons skill_nil skill_cons rkill_sl rkill_hl rkill_bx hkill_v hren_v hsub_v hkill_lst hren_lst hsub_lst hkill_elt hren_elt hsub_elt hkill_junk hren_junk hsub_junk hkill_own hkill_ptr hkill_agg hkill_tup hren_own hren_ptr hren_agg hren_tup hsub_own hsub_ptr hsub_agg hsub_tup rren_sl rren_hl rren_bx rsub_sl rsub_hl rsub_bx only_eq eight_eq sh_eq adds_eq radds_nil radds_cons rest_eq esub_nil esub_cons ssub_nil ssub_cons sset_nil sset_cons hG_none hG_some hGv_bool hGv_tup hgo_go hgo_call hgo_eqn hgo_bytes hgo_eq hgo1_eq hpre_move hpre_assign hpre_pick hpre_extract hpre_field hpre_faddr hpre_nilc hpre_iaddr hpre_slice hpre_load hpre_build hpre_bin hpre_un hpre_conv hpre_index hpre_call hpre_alloc hpre_box hpre_make hpre_store hpre_buildS ownsS_eq ownsR_sl ownsR_bx ownsP_eq ownIds_own ownIds_v ownIds_lst ownIds_agg ownCell_own ownCell_v ownCell_lst restAll_nil restAll_cons restOne_eq ownsR_hl hskip_eq hstep_yes hstep_no hstep_ask hv2_nil hv2_cons hgoq_go hgoq_call hgoq_eqn hgoq_eq hstepq_yes hstepq_no hstepq_ask hvq_nil hvq_cons slotX_tmp slotX_const slotX_global slotX_func slotsL_nil slotsL_cons slotsP_nil slotsP_cons slotO_some slotO_none slotsOf_move slotsOf_assign slotsOf_nilc slotsOf_pick slotsOf_extract slotsOf_field slotsOf_faddr slotsOf_load slotsOf_un slotsOf_conv slotsOf_iaddr slotsOf_index slotsOf_slice slotsOf_bin slotsOf_build slotsOf_buildS slotsOf_makeS slotsOf_call slotG_none slotG_some pickE_nil pickE_cons plainE_nil plainE_v hmade_eq made_buildS made_makeS quiet_buildS quiet_makeS hgor_go hgor_call hgor_eqn hgor_eq hstepr_yes hstepr_no hstepr_ask hvr_nil hvr_cons idOf_some idOf_none quiet_move quiet_assign quiet_pick quiet_extract quiet_field quiet_faddr quiet_nilc quiet_iaddr quiet_slice quiet_load quiet_build quiet_bin quiet_un quiet_conv quiet_index quiet_len argsH_nil argsH_cons
attribute [local push_cast] cb9_102 kt5 kt9 se22 sf102 st9 ui9 us102 us22
structure LI where
  u : ByteArray
  l : List ByteArray
def lsE (k : LI) : HS := ⟨[(0, .v (.string k.u)), (3, .own 40)], [(40, .sl true 9 1 (strs k.l))]⟩
def lsI (s : ByteArray) (k : LI) : Prop := k.l.length + k.u.size ≤ s.size ∧ splS s = k.l ++ splS k.u
abbrev lsQ (s : ByteArray) (h : HV) (st : Store) : Prop := h = .own 0 ∧ st = [(0, .sl true 9 1 (strs (splS s)))]
set_option maxHeartbeats 4000000 in
theorem split_H (s : ByteArray) (hs : s.size ≤ 4294967296) : HFun Try.prog 37 [.v (.string s)] (lsQ s) := by
  refine hfun (N := 25) Try.func37 rfl Try.ntmps37 Try.results37 (by simp) ?_
  (repeat first | refine HW_seq ?_ | refine hseqQ_normal ?_ | refine HW_skip ?_ | refine hblkQ_normal ?_ | refine HW_block ?_); refine HW_reg (fun K hK => ?_); simp (maxSteps := 2000000) (disch := omega) only [push_cast, ↓Int.cast_ofNat_Int, Nat.reduceBEq, Nat.reduceAdd, Nat.reduceLT, Nat.reduceEqDiff, reduceIte, reduceCtorEq, Nat.reduceLeDiff, Nat.reduceSub, List.reduceReplicate, Nat.reduceMul, Int.reduceToNat, Int.toNat_natCast, Nat.reducePow, reduceIte, cond_true', ltT, ltF, leT, leF, eqT, eqF, getD_map, wr64, toNat_succ, toNat_add]; refine hK _ ?_; clear hK K
  (repeat first | refine HW_seq ?_ | refine hseqQ_normal ?_ | refine HW_skip ?_ | refine hblkQ_normal ?_ | refine HW_block ?_); refine HW_reg (fun K hK => ?_); simp (maxSteps := 2000000) (disch := omega) only [push_cast, ↓Int.cast_ofNat_Int, Nat.reduceBEq, Nat.reduceAdd, Nat.reduceLT, Nat.reduceEqDiff, reduceIte, reduceCtorEq, Nat.reduceLeDiff, Nat.reduceSub, List.reduceReplicate, Nat.reduceMul, Int.reduceToNat, Int.toNat_natCast, Nat.reducePow, reduceIte, cond_true', ltT, ltF, leT, leF, eqT, eqF, getD_map, wr64, toNat_succ, toNat_add]; refine hK _ ?_; clear hK K
  (repeat first | refine HW_seq ?_ | refine hseqQ_normal ?_ | refine HW_skip ?_ | refine hblkQ_normal ?_ | refine HW_block ?_)
  refine HW_loop lsE (lsI s) (fun k => k.u.size) [0, 3] [40] ⟨s, []⟩ (by simp only [keep_eq, hkeep_nil, hkeep_cons, rkeep_nil, rkeep_cons, hlk_nil, hlk_cons, rlk_nil, rlk_cons, Nat.reduceEqDiff, reduceIte, lsE]; rfl) ⟨by simp, by simp⟩ ?_
  rintro ⟨u, l⟩ ⟨hl, hsp⟩
  dsimp only at hl hsp
  simp only [lsE]
  by_cases hu : u = ⟨#[]⟩
  · have hd : decide (u = ⟨#[]⟩) = true := decide_eq_true hu
    (repeat first | refine HW_seq ?_ | refine hseqQ_normal ?_ | refine HW_skip ?_ | refine hblkQ_normal ?_ | refine HW_block ?_); refine HW_reg (fun K hK => ?_); simp (maxSteps := 2000000) (disch := omega) only [push_cast, ↓Int.cast_ofNat_Int, Nat.reduceBEq, Nat.reduceAdd, Nat.reduceLT, Nat.reduceEqDiff, reduceIte, reduceCtorEq, Nat.reduceLeDiff, Nat.reduceSub, List.reduceReplicate, Nat.reduceMul, Int.reduceToNat, Int.toNat_natCast, Nat.reducePow, reduceIte, cond_true', ltT, ltF, leT, leF, eqT, eqF, getD_map, wr64, toNat_succ, toNat_add, hd]; refine hK _ ?_; clear hK K
    refine HW_false rfl ?_
    (repeat first | refine hseqQ_ret ?_ | refine hseqQ_exit ?_ | refine hblkQ_exit ?_ | refine hblkQ_other rfl ?_ | refine hblkQ_ret ?_ | refine hblkQ_normal ?_ | refine HW_seq ?_ | refine hseqQ_normal ?_ | refine HW_skip ?_ | refine HW_exit ?_ | refine HW_ret ?_)
    (repeat first | refine HW_seq ?_ | refine hseqQ_normal ?_ | refine HW_skip ?_ | refine hblkQ_normal ?_ | refine HW_block ?_); refine HW_reg (fun K hK => ?_); simp (maxSteps := 2000000) (disch := omega) only [push_cast, ↓Int.cast_ofNat_Int, Nat.reduceBEq, Nat.reduceAdd, Nat.reduceLT, Nat.reduceEqDiff, reduceIte, reduceCtorEq, Nat.reduceLeDiff, Nat.reduceSub, List.reduceReplicate, Nat.reduceMul, Int.reduceToNat, Int.toNat_natCast, Nat.reducePow, reduceIte, cond_true', ltT, ltF, leT, leF, eqT, eqF, getD_map, wr64, toNat_succ, toNat_add]; refine hK _ ?_; clear hK K
    (repeat first | refine hseqQ_ret ?_ | refine hseqQ_exit ?_ | refine hblkQ_exit ?_ | refine hblkQ_other rfl ?_ | refine hblkQ_ret ?_ | refine hblkQ_normal ?_ | refine HW_seq ?_ | refine hseqQ_normal ?_ | refine HW_skip ?_ | refine HW_exit ?_ | refine HW_ret ?_)
    simp only [hfunQ_normal, hfunQ_ret, resH_nil, resH_cons, htup_one, htup_two, hlk_nil, hlk_cons, Nat.reduceEqDiff, reduceIte, reduceCtorEq]
    have e : splS s = l := by rw [hsp, hu]; simp [splS, spl]
    exact hres_o rfl (strs_fresh _) ⟨rfl, by rw [e]⟩
  · have hd : decide (u = ⟨#[]⟩) = false := decide_eq_false hu
    obtain ⟨n, n1, n2, n3, n4⟩ := splS_step u hu
    have hi := indexTen_H u
    obtain ⟨k, hk⟩ : ∃ k, k = Lib.indexByte u.data.toList 10 := ⟨_, rfl⟩
    rw [← hk] at hi n3
    (repeat first | refine HW_seq ?_ | refine hseqQ_normal ?_ | refine HW_skip ?_ | refine hblkQ_normal ?_ | refine HW_block ?_); refine HW_reg (fun K hK => ?_); simp (maxSteps := 2000000) (disch := omega) only [push_cast, ↓Int.cast_ofNat_Int, Nat.reduceBEq, Nat.reduceAdd, Nat.reduceLT, Nat.reduceEqDiff, reduceIte, reduceCtorEq, Nat.reduceLeDiff, Nat.reduceSub, List.reduceReplicate, Nat.reduceMul, Int.reduceToNat, Int.toNat_natCast, Nat.reducePow, reduceIte, cond_true', ltT, ltF, leT, leF, eqT, eqF, getD_map, wr64, toNat_succ, toNat_add, hd]; refine hK _ ?_; clear hK K
    refine HW_true rfl ?_
    (repeat first | refine HW_seq ?_ | refine hseqQ_normal ?_ | refine HW_skip ?_ | refine hblkQ_normal ?_ | refine HW_block ?_)
    (repeat first | refine HW_seq ?_ | refine hseqQ_normal ?_ | refine HW_skip ?_ | refine hblkQ_normal ?_ | refine HW_block ?_); refine HW_reg (fun K hK => ?_); simp (maxSteps := 2000000) (disch := omega) only [push_cast, ↓Int.cast_ofNat_Int, Nat.reduceBEq, Nat.reduceAdd, Nat.reduceLT, Nat.reduceEqDiff, reduceIte, reduceCtorEq, Nat.reduceLeDiff, Nat.reduceSub, List.reduceReplicate, Nat.reduceMul, Int.reduceToNat, Int.toNat_natCast, Nat.reducePow, reduceIte, cond_true', ltT, ltF, leT, leF, eqT, eqF, getD_map, wr64, toNat_succ, toNat_add]
    refine hatv cl64 hi (.cons (.v _) (.cons (.v _) .nil)) ?_
    refine hstop ?_; simp (maxSteps := 2000000) (disch := omega) only [push_cast, ↓Int.cast_ofNat_Int, Nat.reduceBEq, Nat.reduceAdd, Nat.reduceLT, Nat.reduceEqDiff, reduceIte, reduceCtorEq, Nat.reduceLeDiff, Nat.reduceSub, List.reduceReplicate, Nat.reduceMul, Int.reduceToNat, Int.toNat_natCast, Nat.reducePow, reduceIte, cond_true', ltT, ltF, leT, leF, eqT, eqF, getD_map, wr64, toNat_succ, toNat_add]
    refine hK _ ?_; clear hK K
    refine HW_keep [0, 3, 4] [40] (by simp only [keep_eq, hkeep_nil, hkeep_cons, rkeep_nil, rkeep_cons, hlk_nil, hlk_cons, rlk_nil, rlk_cons, Nat.reduceEqDiff, reduceIte]; exact rfl) ?_
    have hz : (u.extract n u.size).size = u.size - n := by rw [ByteArray.size_extract]; omega
    have fin : (l ++ [u.extract 0 n]).length + (u.extract n u.size).size ≤ s.size ∧ splS s = (l ++ [u.extract 0 n]) ++ splS (u.extract n u.size) := ⟨by rw [List.length_append, hz]; simp; omega, by rw [hsp, n4]; simp⟩
    rcases n3 with ⟨e1, e2⟩ | e1
    · (repeat first | refine HW_seq ?_ | refine hseqQ_normal ?_ | refine HW_skip ?_ | refine hblkQ_normal ?_ | refine HW_block ?_); refine HW_reg (fun K hK => ?_); simp (maxSteps := 2000000) (disch := omega) only [push_cast, ↓Int.cast_ofNat_Int, Nat.reduceBEq, Nat.reduceAdd, Nat.reduceLT, Nat.reduceEqDiff, reduceIte, reduceCtorEq, Nat.reduceLeDiff, Nat.reduceSub, List.reduceReplicate, Nat.reduceMul, Int.reduceToNat, Int.toNat_natCast, Nat.reducePow, reduceIte, cond_true', ltT, ltF, leT, leF, eqT, eqF, getD_map, wr64, toNat_succ, toNat_add, e1]; refine hK _ ?_; clear hK K
      refine HW_true rfl ?_
      (repeat first | refine HW_seq ?_ | refine hseqQ_normal ?_ | refine HW_skip ?_ | refine hblkQ_normal ?_ | refine HW_block ?_); refine HW_reg (fun K hK => ?_); simp (maxSteps := 2000000) (disch := omega) only [push_cast, ↓Int.cast_ofNat_Int, Nat.reduceBEq, Nat.reduceAdd, Nat.reduceLT, Nat.reduceEqDiff, reduceIte, reduceCtorEq, Nat.reduceLeDiff, Nat.reduceSub, List.reduceReplicate, Nat.reduceMul, Int.reduceToNat, Int.toNat_natCast, Nat.reducePow, reduceIte, cond_true', ltT, ltF, leT, leF, eqT, eqF, getD_map, wr64, toNat_succ, toNat_add]; refine hK _ ?_; clear hK K
      rw [← e2]
      (repeat first | refine hseqQ_ret ?_ | refine hseqQ_exit ?_ | refine hblkQ_exit ?_ | refine hblkQ_other rfl ?_ | refine hblkQ_ret ?_ | refine hblkQ_normal ?_ | refine HW_seq ?_ | refine hseqQ_normal ?_ | refine HW_skip ?_ | refine HW_exit ?_ | refine HW_ret ?_)
      (repeat first | refine HW_seq ?_ | refine hseqQ_normal ?_ | refine HW_skip ?_ | refine hblkQ_normal ?_ | refine HW_block ?_); refine HW_reg (fun K hK => ?_); simp (maxSteps := 2000000) (disch := omega) only [push_cast, ↓Int.cast_ofNat_Int, Nat.reduceBEq, Nat.reduceAdd, Nat.reduceLT, Nat.reduceEqDiff, reduceIte, reduceCtorEq, Nat.reduceLeDiff, Nat.reduceSub, List.reduceReplicate, Nat.reduceMul, Int.reduceToNat, Int.toNat_natCast, Nat.reducePow, reduceIte, cond_true', ltT, ltF, leT, leF, eqT, eqF, getD_map, wr64, toNat_succ, toNat_add, strs_len]; (repeat refine ⟨by first | omega | decide | ((repeat' apply And.intro) <;> first | omega | decide), ?_⟩); refine hK _ ?_; clear hK K
      (repeat first | refine HW_seq ?_ | refine hseqQ_normal ?_ | refine HW_skip ?_ | refine hblkQ_normal ?_ | refine HW_block ?_); refine HW_reg (fun K hK => ?_); simp (maxSteps := 2000000) (disch := omega) only [push_cast, ↓Int.cast_ofNat_Int, Nat.reduceBEq, Nat.reduceAdd, Nat.reduceLT, Nat.reduceEqDiff, reduceIte, reduceCtorEq, Nat.reduceLeDiff, Nat.reduceSub, List.reduceReplicate, Nat.reduceMul, Int.reduceToNat, Int.toNat_natCast, Nat.reducePow, reduceIte, cond_true', ltT, ltF, leT, leF, eqT, eqF, getD_map, wr64, toNat_succ, toNat_add]; (repeat refine ⟨by first | omega | decide | ((repeat' apply And.intro) <;> first | omega | decide), ?_⟩); refine hK _ ?_; clear hK K
      (repeat first | refine hseqQ_ret ?_ | refine hseqQ_exit ?_ | refine hblkQ_exit ?_ | refine hblkQ_other rfl ?_ | refine hblkQ_ret ?_ | refine hblkQ_normal ?_ | refine HW_seq ?_ | refine hseqQ_normal ?_ | refine HW_skip ?_ | refine HW_exit ?_ | refine HW_ret ?_)
      exact ⟨⟨u.extract n u.size, l ++ [u.extract 0 n]⟩, by simp only [keep_eq, hkeep_nil, hkeep_cons, rkeep_nil, rkeep_cons, hlk_nil, hlk_cons, rlk_nil, rlk_cons, Nat.reduceEqDiff, reduceIte, lsE, strs_snoc]; try rfl, fin, by dsimp only; omega⟩
    · rw [e1]
      (repeat first | refine HW_seq ?_ | refine hseqQ_normal ?_ | refine HW_skip ?_ | refine hblkQ_normal ?_ | refine HW_block ?_); refine HW_reg (fun K hK => ?_); simp (maxSteps := 2000000) (disch := omega) only [push_cast, ↓Int.cast_ofNat_Int, Nat.reduceBEq, Nat.reduceAdd, Nat.reduceLT, Nat.reduceEqDiff, reduceIte, reduceCtorEq, Nat.reduceLeDiff, Nat.reduceSub, List.reduceReplicate, Nat.reduceMul, Int.reduceToNat, Int.toNat_natCast, Nat.reducePow, reduceIte, cond_true', ltT, ltF, leT, leF, eqT, eqF, getD_map, wr64, toNat_succ, toNat_add]; refine hK _ ?_; clear hK K
      refine HW_false rfl ?_
      (repeat first | refine hseqQ_ret ?_ | refine hseqQ_exit ?_ | refine hblkQ_exit ?_ | refine hblkQ_other rfl ?_ | refine hblkQ_ret ?_ | refine hblkQ_normal ?_ | refine HW_seq ?_ | refine hseqQ_normal ?_ | refine HW_skip ?_ | refine HW_exit ?_ | refine HW_ret ?_)
      (repeat first | refine HW_seq ?_ | refine hseqQ_normal ?_ | refine HW_skip ?_ | refine hblkQ_normal ?_ | refine HW_block ?_); refine HW_reg (fun K hK => ?_); simp (maxSteps := 2000000) (disch := omega) only [push_cast, ↓Int.cast_ofNat_Int, Nat.reduceBEq, Nat.reduceAdd, Nat.reduceLT, Nat.reduceEqDiff, reduceIte, reduceCtorEq, Nat.reduceLeDiff, Nat.reduceSub, List.reduceReplicate, Nat.reduceMul, Int.reduceToNat, Int.toNat_natCast, Nat.reducePow, reduceIte, cond_true', ltT, ltF, leT, leF, eqT, eqF, getD_map, wr64, toNat_succ, toNat_add, strs_len]; (repeat refine ⟨by first | omega | decide | ((repeat' apply And.intro) <;> first | omega | decide), ?_⟩); refine hK _ ?_; clear hK K
      (repeat first | refine HW_seq ?_ | refine hseqQ_normal ?_ | refine HW_skip ?_ | refine hblkQ_normal ?_ | refine HW_block ?_); refine HW_reg (fun K hK => ?_); simp (maxSteps := 2000000) (disch := omega) only [push_cast, ↓Int.cast_ofNat_Int, Nat.reduceBEq, Nat.reduceAdd, Nat.reduceLT, Nat.reduceEqDiff, reduceIte, reduceCtorEq, Nat.reduceLeDiff, Nat.reduceSub, List.reduceReplicate, Nat.reduceMul, Int.reduceToNat, Int.toNat_natCast, Nat.reducePow, reduceIte, cond_true', ltT, ltF, leT, leF, eqT, eqF, getD_map, wr64, toNat_succ, toNat_add]; (repeat refine ⟨by first | omega | decide | ((repeat' apply And.intro) <;> first | omega | decide), ?_⟩); refine hK _ ?_; clear hK K
      (repeat first | refine hseqQ_ret ?_ | refine hseqQ_exit ?_ | refine hblkQ_exit ?_ | refine hblkQ_other rfl ?_ | refine hblkQ_ret ?_ | refine hblkQ_normal ?_ | refine HW_seq ?_ | refine hseqQ_normal ?_ | refine HW_skip ?_ | refine HW_exit ?_ | refine HW_ret ?_)
      exact ⟨⟨u.extract n u.size, l ++ [u.extract 0 n]⟩, by simp only [keep_eq, hkeep_nil, hkeep_cons, rkeep_nil, rkeep_cons, hlk_nil, hlk_cons, rlk_nil, rlk_cons, Nat.reduceEqDiff, reduceIte, lsE, strs_snoc]; try rfl, fin, by dsimp only; omega⟩
structure RI where
  a : Nat
  i : Nat
  l : List ByteArray
def lrE (s : ByteArray) (k : RI) : HS := ⟨[(0, .v (.string s)), (3, .own 9000), (4, .v (.int .i64 k.a)), (5, .v (.int .i64 k.i))], [(9000, .sl true 9 1 (strs k.l))]⟩
def lrI (s : ByteArray) (k : RI) : Prop := k.a ≤ k.i ∧ k.i ≤ s.size ∧ k.l.length ≤ k.a ∧ (k.i = s.size → k.a = k.i) ∧ (∀ j, k.a ≤ j → j < k.i → byteAt s j ≠ 10) ∧ splS s = k.l ++ splS (s.extract k.a s.size)
set_option maxHeartbeats 4000000 in
theorem refSplit_H (s : ByteArray) (hs : s.size ≤ 4294967296) : HFun Try.prog 39 [.v (.string s)] (lsQ s) := by
  refine hfun (N := 34) Try.func39 rfl Try.ntmps39 Try.results39 (by simp) ?_
  (repeat first | refine HW_seq ?_ | refine hseqQ_normal ?_ | refine HW_skip ?_ | refine hblkQ_normal ?_ | refine HW_block ?_); refine HW_reg (fun K hK => ?_); simp (maxSteps := 2000000) (disch := omega) only [push_cast, ↓Int.cast_ofNat_Int, Nat.reduceBEq, Nat.reduceAdd, Nat.reduceLT, Nat.reduceEqDiff, reduceIte, reduceCtorEq, Nat.reduceLeDiff, Nat.reduceSub, List.reduceReplicate, Nat.reduceMul, Int.reduceToNat, Int.toNat_natCast, Nat.reducePow, reduceIte, cond_true', ltT, ltF, leT, leF, eqT, eqF, getD_map, wr64, toNat_succ, toNat_add]; refine hK _ ?_; clear hK K
  (repeat first | refine HW_seq ?_ | refine hseqQ_normal ?_ | refine HW_skip ?_ | refine hblkQ_normal ?_ | refine HW_block ?_); refine HW_reg (fun K hK => ?_); simp (maxSteps := 2000000) (disch := omega) only [push_cast, ↓Int.cast_ofNat_Int, Nat.reduceBEq, Nat.reduceAdd, Nat.reduceLT, Nat.reduceEqDiff, reduceIte, reduceCtorEq, Nat.reduceLeDiff, Nat.reduceSub, List.reduceReplicate, Nat.reduceMul, Int.reduceToNat, Int.toNat_natCast, Nat.reducePow, reduceIte, cond_true', ltT, ltF, leT, leF, eqT, eqF, getD_map, wr64, toNat_succ, toNat_add]; refine hK _ ?_; clear hK K
  refine HW_ownS 3 9000 9 1 rfl (by simp only [kill_eq, row_eq, rep_eq, ekill_nil, ekill_cons, skill_nil, skill_cons, hkill_v, hkill_lst, hkill_own, hkill_ptr, hkill_vw, hkill_agg, hkill_tup, hkill_junk, rkill_sl, rkill_bx, rkill_hl, only_eq, hrep_nil, hrep_cons, Nat.reduceBEq, Nat.reduceEqDiff, reduceIte, cond_true, cond_false, List.map_cons, List.map_nil]; exact rfl) ?_
  (repeat first | refine HW_seq ?_ | refine hseqQ_normal ?_ | refine HW_skip ?_ | refine hblkQ_normal ?_ | refine HW_block ?_); refine HW_reg (fun K hK => ?_); simp (maxSteps := 2000000) (disch := omega) only [push_cast, ↓Int.cast_ofNat_Int, Nat.reduceBEq, Nat.reduceAdd, Nat.reduceLT, Nat.reduceEqDiff, reduceIte, reduceCtorEq, Nat.reduceLeDiff, Nat.reduceSub, List.reduceReplicate, Nat.reduceMul, Int.reduceToNat, Int.toNat_natCast, Nat.reducePow, reduceIte, cond_true', ltT, ltF, leT, leF, eqT, eqF, getD_map, wr64, toNat_succ, toNat_add]; refine hK _ ?_; clear hK K
  (repeat first | refine HW_seq ?_ | refine hseqQ_normal ?_ | refine HW_skip ?_ | refine hblkQ_normal ?_ | refine HW_block ?_); refine HW_reg (fun K hK => ?_); simp (maxSteps := 2000000) (disch := omega) only [push_cast, ↓Int.cast_ofNat_Int, Nat.reduceBEq, Nat.reduceAdd, Nat.reduceLT, Nat.reduceEqDiff, reduceIte, reduceCtorEq, Nat.reduceLeDiff, Nat.reduceSub, List.reduceReplicate, Nat.reduceMul, Int.reduceToNat, Int.toNat_natCast, Nat.reducePow, reduceIte, cond_true', ltT, ltF, leT, leF, eqT, eqF, getD_map, wr64, toNat_succ, toNat_add]; refine hK _ ?_; clear hK K
  (repeat first | refine HW_seq ?_ | refine hseqQ_normal ?_ | refine HW_skip ?_ | refine hblkQ_normal ?_ | refine HW_block ?_)
  refine HW_loop (lrE s) (lrI s) (fun k => s.size - k.i) [0, 3, 4, 5] [9000] ⟨0, 0, []⟩ (by simp only [keep_eq, hkeep_nil, hkeep_cons, rkeep_nil, rkeep_cons, hlk_nil, hlk_cons, rlk_nil, rlk_cons, Nat.reduceEqDiff, reduceIte, lrE]; rfl) ⟨Nat.le_refl _, Nat.zero_le _, Nat.le_refl _, fun _ => rfl, fun j _ h => absurd h (Nat.not_lt_zero _), by rw [show (⟨0, 0, []⟩ : RI).l = [] from rfl, show (⟨0, 0, []⟩ : RI).a = 0 from rfl, List.nil_append, ← bs_list (s.extract 0 s.size), ext_data, List.take_of_length_le (Nat.le_of_eq (size_data s)), List.drop_zero, bs_list]⟩ ?_
  rintro ⟨a, i, l⟩ ⟨h1, h2, h3, h4, h5, h6⟩
  dsimp only at h1 h2 h3 h4 h5 h6
  simp only [lrE]
  by_cases hlt : i < s.size
  · (repeat first | refine HW_seq ?_ | refine hseqQ_normal ?_ | refine HW_skip ?_ | refine hblkQ_normal ?_ | refine HW_block ?_); refine HW_reg (fun K hK => ?_); simp (maxSteps := 2000000) (disch := omega) only [push_cast, ↓Int.cast_ofNat_Int, Nat.reduceBEq, Nat.reduceAdd, Nat.reduceLT, Nat.reduceEqDiff, reduceIte, reduceCtorEq, Nat.reduceLeDiff, Nat.reduceSub, List.reduceReplicate, Nat.reduceMul, Int.reduceToNat, Int.toNat_natCast, Nat.reducePow, reduceIte, cond_true', ltT, ltF, leT, leF, eqT, eqF, getD_map, wr64, toNat_succ, toNat_add]; refine hK _ ?_; clear hK K
    refine HW_true rfl ?_
    (repeat first | refine hseqQ_ret ?_ | refine hseqQ_exit ?_ | refine hblkQ_exit ?_ | refine hblkQ_other rfl ?_ | refine hblkQ_ret ?_ | refine hblkQ_normal ?_ | refine HW_seq ?_ | refine hseqQ_normal ?_ | refine HW_skip ?_ | refine HW_exit ?_ | refine HW_ret ?_)
    by_cases hb : byteAt s i = 10
    · (repeat first | refine HW_seq ?_ | refine hseqQ_normal ?_ | refine HW_skip ?_ | refine hblkQ_normal ?_ | refine HW_block ?_); refine HW_reg (fun K hK => ?_); simp (maxSteps := 2000000) (disch := omega) only [push_cast, ↓Int.cast_ofNat_Int, Nat.reduceBEq, Nat.reduceAdd, Nat.reduceLT, Nat.reduceEqDiff, reduceIte, reduceCtorEq, Nat.reduceLeDiff, Nat.reduceSub, List.reduceReplicate, Nat.reduceMul, Int.reduceToNat, Int.toNat_natCast, Nat.reducePow, reduceIte, cond_true', ltT, ltF, leT, leF, eqT, eqF, getD_map, wr64, toNat_succ, toNat_add, hb]; (repeat refine ⟨by first | omega | decide | ((repeat' apply And.intro) <;> first | omega | decide), ?_⟩); refine hK _ ?_; clear hK K
      refine HW_true rfl ?_
      (repeat first | refine HW_seq ?_ | refine hseqQ_normal ?_ | refine HW_skip ?_ | refine hblkQ_normal ?_ | refine HW_block ?_); refine HW_reg (fun K hK => ?_); simp (maxSteps := 2000000) (disch := omega) only [push_cast, ↓Int.cast_ofNat_Int, Nat.reduceBEq, Nat.reduceAdd, Nat.reduceLT, Nat.reduceEqDiff, reduceIte, reduceCtorEq, Nat.reduceLeDiff, Nat.reduceSub, List.reduceReplicate, Nat.reduceMul, Int.reduceToNat, Int.toNat_natCast, Nat.reducePow, reduceIte, cond_true', ltT, ltF, leT, leF, eqT, eqF, getD_map, wr64, toNat_succ, toNat_add, strs_len]; (repeat refine ⟨by first | omega | decide | ((repeat' apply And.intro) <;> first | omega | decide), ?_⟩); refine hK _ ?_; clear hK K
      (repeat first | refine HW_seq ?_ | refine hseqQ_normal ?_ | refine HW_skip ?_ | refine hblkQ_normal ?_ | refine HW_block ?_); refine HW_reg (fun K hK => ?_); simp (maxSteps := 2000000) (disch := omega) only [push_cast, ↓Int.cast_ofNat_Int, Nat.reduceBEq, Nat.reduceAdd, Nat.reduceLT, Nat.reduceEqDiff, reduceIte, reduceCtorEq, Nat.reduceLeDiff, Nat.reduceSub, List.reduceReplicate, Nat.reduceMul, Int.reduceToNat, Int.toNat_natCast, Nat.reducePow, reduceIte, cond_true', ltT, ltF, leT, leF, eqT, eqF, getD_map, wr64, toNat_succ, toNat_add]; refine hK _ ?_; clear hK K
      (repeat first | refine hseqQ_ret ?_ | refine hseqQ_exit ?_ | refine hblkQ_exit ?_ | refine hblkQ_other rfl ?_ | refine hblkQ_ret ?_ | refine hblkQ_normal ?_ | refine HW_seq ?_ | refine hseqQ_normal ?_ | refine HW_skip ?_ | refine HW_exit ?_ | refine HW_ret ?_)
      (repeat first | refine HW_seq ?_ | refine hseqQ_normal ?_ | refine HW_skip ?_ | refine hblkQ_normal ?_ | refine HW_block ?_); refine HW_reg (fun K hK => ?_); simp (maxSteps := 2000000) (disch := omega) only [push_cast, ↓Int.cast_ofNat_Int, Nat.reduceBEq, Nat.reduceAdd, Nat.reduceLT, Nat.reduceEqDiff, reduceIte, reduceCtorEq, Nat.reduceLeDiff, Nat.reduceSub, List.reduceReplicate, Nat.reduceMul, Int.reduceToNat, Int.toNat_natCast, Nat.reducePow, reduceIte, cond_true', ltT, ltF, leT, leF, eqT, eqF, getD_map, wr64, toNat_succ, toNat_add]; refine hK _ ?_; clear hK K
      (repeat first | refine hseqQ_ret ?_ | refine hseqQ_exit ?_ | refine hblkQ_exit ?_ | refine hblkQ_other rfl ?_ | refine hblkQ_ret ?_ | refine hblkQ_normal ?_ | refine HW_seq ?_ | refine hseqQ_normal ?_ | refine HW_skip ?_ | refine HW_exit ?_ | refine HW_ret ?_)
      refine ⟨⟨i + 1, i + 1, l ++ [s.extract a (i + 1)]⟩, by simp only [keep_eq, hkeep_nil, hkeep_cons, rkeep_nil, rkeep_cons, hlk_nil, hlk_cons, rlk_nil, rlk_cons, Nat.reduceEqDiff, reduceIte, lrE, strs_snoc]; try rfl, ⟨Nat.le_refl _, hlt, by simp; omega, fun _ => rfl, fun j p q => by dsimp only at p q; omega, ?_⟩, by dsimp only; omega⟩
      rw [h6, splS_at s a i h1 hlt h5 (.inl hb)]; simp
    · by_cases hz : i + 1 = s.size
      · have e1 : decide ((i : Int) = (s.size : Int) - 1) = true := decide_eq_true (by omega)
        have e2 : decide (byteAt s i = 10) = false := decide_eq_false hb
        (repeat first | refine HW_seq ?_ | refine hseqQ_normal ?_ | refine HW_skip ?_ | refine hblkQ_normal ?_ | refine HW_block ?_); refine HW_reg (fun K hK => ?_); simp (maxSteps := 2000000) (disch := omega) only [push_cast, ↓Int.cast_ofNat_Int, Nat.reduceBEq, Nat.reduceAdd, Nat.reduceLT, Nat.reduceEqDiff, reduceIte, reduceCtorEq, Nat.reduceLeDiff, Nat.reduceSub, List.reduceReplicate, Nat.reduceMul, Int.reduceToNat, Int.toNat_natCast, Nat.reducePow, reduceIte, cond_true', ltT, ltF, leT, leF, eqT, eqF, getD_map, wr64, toNat_succ, toNat_add, e1, e2]; (repeat refine ⟨by first | omega | decide | ((repeat' apply And.intro) <;> first | omega | decide), ?_⟩); refine hK _ ?_; clear hK K
        refine HW_true rfl ?_
        (repeat first | refine HW_seq ?_ | refine hseqQ_normal ?_ | refine HW_skip ?_ | refine hblkQ_normal ?_ | refine HW_block ?_); refine HW_reg (fun K hK => ?_); simp (maxSteps := 2000000) (disch := omega) only [push_cast, ↓Int.cast_ofNat_Int, Nat.reduceBEq, Nat.reduceAdd, Nat.reduceLT, Nat.reduceEqDiff, reduceIte, reduceCtorEq, Nat.reduceLeDiff, Nat.reduceSub, List.reduceReplicate, Nat.reduceMul, Int.reduceToNat, Int.toNat_natCast, Nat.reducePow, reduceIte, cond_true', ltT, ltF, leT, leF, eqT, eqF, getD_map, wr64, toNat_succ, toNat_add, strs_len]; (repeat refine ⟨by first | omega | decide | ((repeat' apply And.intro) <;> first | omega | decide), ?_⟩); refine hK _ ?_; clear hK K
        (repeat first | refine HW_seq ?_ | refine hseqQ_normal ?_ | refine HW_skip ?_ | refine hblkQ_normal ?_ | refine HW_block ?_); refine HW_reg (fun K hK => ?_); simp (maxSteps := 2000000) (disch := omega) only [push_cast, ↓Int.cast_ofNat_Int, Nat.reduceBEq, Nat.reduceAdd, Nat.reduceLT, Nat.reduceEqDiff, reduceIte, reduceCtorEq, Nat.reduceLeDiff, Nat.reduceSub, List.reduceReplicate, Nat.reduceMul, Int.reduceToNat, Int.toNat_natCast, Nat.reducePow, reduceIte, cond_true', ltT, ltF, leT, leF, eqT, eqF, getD_map, wr64, toNat_succ, toNat_add]; refine hK _ ?_; clear hK K
        (repeat first | refine hseqQ_ret ?_ | refine hseqQ_exit ?_ | refine hblkQ_exit ?_ | refine hblkQ_other rfl ?_ | refine hblkQ_ret ?_ | refine hblkQ_normal ?_ | refine HW_seq ?_ | refine hseqQ_normal ?_ | refine HW_skip ?_ | refine HW_exit ?_ | refine HW_ret ?_)
        (repeat first | refine HW_seq ?_ | refine hseqQ_normal ?_ | refine HW_skip ?_ | refine hblkQ_normal ?_ | refine HW_block ?_); refine HW_reg (fun K hK => ?_); simp (maxSteps := 2000000) (disch := omega) only [push_cast, ↓Int.cast_ofNat_Int, Nat.reduceBEq, Nat.reduceAdd, Nat.reduceLT, Nat.reduceEqDiff, reduceIte, reduceCtorEq, Nat.reduceLeDiff, Nat.reduceSub, List.reduceReplicate, Nat.reduceMul, Int.reduceToNat, Int.toNat_natCast, Nat.reducePow, reduceIte, cond_true', ltT, ltF, leT, leF, eqT, eqF, getD_map, wr64, toNat_succ, toNat_add]; refine hK _ ?_; clear hK K
        (repeat first | refine hseqQ_ret ?_ | refine hseqQ_exit ?_ | refine hblkQ_exit ?_ | refine hblkQ_other rfl ?_ | refine hblkQ_ret ?_ | refine hblkQ_normal ?_ | refine HW_seq ?_ | refine hseqQ_normal ?_ | refine HW_skip ?_ | refine HW_exit ?_ | refine HW_ret ?_)
        refine ⟨⟨i + 1, i + 1, l ++ [s.extract a (i + 1)]⟩, by simp only [keep_eq, hkeep_nil, hkeep_cons, rkeep_nil, rkeep_cons, hlk_nil, hlk_cons, rlk_nil, rlk_cons, Nat.reduceEqDiff, reduceIte, lrE, strs_snoc]; try rfl, ⟨Nat.le_refl _, hlt, by simp; omega, fun _ => rfl, fun j p q => by dsimp only at p q; omega, ?_⟩, by dsimp only; omega⟩
        rw [h6, splS_at s a i h1 hlt h5 (.inr hz)]; simp
      · have e1 : decide ((i : Int) = (s.size : Int) - 1) = false := decide_eq_false (by omega)
        have e2 : decide (byteAt s i = 10) = false := decide_eq_false hb
        (repeat first | refine HW_seq ?_ | refine hseqQ_normal ?_ | refine HW_skip ?_ | refine hblkQ_normal ?_ | refine HW_block ?_); refine HW_reg (fun K hK => ?_); simp (maxSteps := 2000000) (disch := omega) only [push_cast, ↓Int.cast_ofNat_Int, Nat.reduceBEq, Nat.reduceAdd, Nat.reduceLT, Nat.reduceEqDiff, reduceIte, reduceCtorEq, Nat.reduceLeDiff, Nat.reduceSub, List.reduceReplicate, Nat.reduceMul, Int.reduceToNat, Int.toNat_natCast, Nat.reducePow, reduceIte, cond_true', ltT, ltF, leT, leF, eqT, eqF, getD_map, wr64, toNat_succ, toNat_add, e1, e2]; (repeat refine ⟨by first | omega | decide | ((repeat' apply And.intro) <;> first | omega | decide), ?_⟩); refine hK _ ?_; clear hK K
        refine HW_false rfl ?_
        (repeat first | refine hseqQ_ret ?_ | refine hseqQ_exit ?_ | refine hblkQ_exit ?_ | refine hblkQ_other rfl ?_ | refine hblkQ_ret ?_ | refine hblkQ_normal ?_ | refine HW_seq ?_ | refine hseqQ_normal ?_ | refine HW_skip ?_ | refine HW_exit ?_ | refine HW_ret ?_)
        (repeat first | refine HW_seq ?_ | refine hseqQ_normal ?_ | refine HW_skip ?_ | refine hblkQ_normal ?_ | refine HW_block ?_); refine HW_reg (fun K hK => ?_); simp (maxSteps := 2000000) (disch := omega) only [push_cast, ↓Int.cast_ofNat_Int, Nat.reduceBEq, Nat.reduceAdd, Nat.reduceLT, Nat.reduceEqDiff, reduceIte, reduceCtorEq, Nat.reduceLeDiff, Nat.reduceSub, List.reduceReplicate, Nat.reduceMul, Int.reduceToNat, Int.toNat_natCast, Nat.reducePow, reduceIte, cond_true', ltT, ltF, leT, leF, eqT, eqF, getD_map, wr64, toNat_succ, toNat_add]; refine hK _ ?_; clear hK K
        (repeat first | refine hseqQ_ret ?_ | refine hseqQ_exit ?_ | refine hblkQ_exit ?_ | refine hblkQ_other rfl ?_ | refine hblkQ_ret ?_ | refine hblkQ_normal ?_ | refine HW_seq ?_ | refine hseqQ_normal ?_ | refine HW_skip ?_ | refine HW_exit ?_ | refine HW_ret ?_)
        refine ⟨⟨a, i + 1, l⟩, by simp only [keep_eq, hkeep_nil, hkeep_cons, rkeep_nil, rkeep_cons, hlk_nil, hlk_cons, rlk_nil, rlk_cons, Nat.reduceEqDiff, reduceIte, lrE]; try rfl, ⟨by dsimp only; omega, hlt, h3, fun h => absurd h hz, fun j p q => ?_, h6⟩, by dsimp only; omega⟩
        dsimp only at p q
        by_cases e : j = i
        · subst e; exact hb
        · exact h5 j p (by omega)
  · have hi : i = s.size := by omega
    have ha := h4 hi
    (repeat first | refine HW_seq ?_ | refine hseqQ_normal ?_ | refine HW_skip ?_ | refine hblkQ_normal ?_ | refine HW_block ?_); refine HW_reg (fun K hK => ?_); simp (maxSteps := 2000000) (disch := omega) only [push_cast, ↓Int.cast_ofNat_Int, Nat.reduceBEq, Nat.reduceAdd, Nat.reduceLT, Nat.reduceEqDiff, reduceIte, reduceCtorEq, Nat.reduceLeDiff, Nat.reduceSub, List.reduceReplicate, Nat.reduceMul, Int.reduceToNat, Int.toNat_natCast, Nat.reducePow, reduceIte, cond_true', ltT, ltF, leT, leF, eqT, eqF, getD_map, wr64, toNat_succ, toNat_add]; refine hK _ ?_; clear hK K
    refine HW_false rfl ?_
    (repeat first | refine hseqQ_ret ?_ | refine hseqQ_exit ?_ | refine hblkQ_exit ?_ | refine hblkQ_other rfl ?_ | refine hblkQ_ret ?_ | refine hblkQ_normal ?_ | refine HW_seq ?_ | refine hseqQ_normal ?_ | refine HW_skip ?_ | refine HW_exit ?_ | refine HW_ret ?_)
    (repeat first | refine HW_seq ?_ | refine hseqQ_normal ?_ | refine HW_skip ?_ | refine hblkQ_normal ?_ | refine HW_block ?_); refine HW_reg (fun K hK => ?_); simp (maxSteps := 2000000) (disch := omega) only [push_cast, ↓Int.cast_ofNat_Int, Nat.reduceBEq, Nat.reduceAdd, Nat.reduceLT, Nat.reduceEqDiff, reduceIte, reduceCtorEq, Nat.reduceLeDiff, Nat.reduceSub, List.reduceReplicate, Nat.reduceMul, Int.reduceToNat, Int.toNat_natCast, Nat.reducePow, reduceIte, cond_true', ltT, ltF, leT, leF, eqT, eqF, getD_map, wr64, toNat_succ, toNat_add]; refine hK _ ?_; clear hK K
    (repeat first | refine hseqQ_ret ?_ | refine hseqQ_exit ?_ | refine hblkQ_exit ?_ | refine hblkQ_other rfl ?_ | refine hblkQ_ret ?_ | refine hblkQ_normal ?_ | refine HW_seq ?_ | refine hseqQ_normal ?_ | refine HW_skip ?_ | refine HW_exit ?_ | refine HW_ret ?_)
    simp only [hfunQ_normal, hfunQ_ret, resH_nil, resH_cons, htup_one, htup_two, hlk_nil, hlk_cons, Nat.reduceEqDiff, reduceIte, reduceCtorEq]
    have e : splS s = l := by
      rw [h6, ha, hi]
      unfold splS
      rw [ext_data, List.drop_eq_nil_of_le (by simp)]; simp [spl]
    exact hres_o rfl (strs_fresh _) ⟨rfl, by rw [e]⟩
set_option maxHeartbeats 4000000 in
theorem count_H (s : ByteArray) (hs : s.size ≤ 4294967296) : HFun Try.prog 40 [.v (.string s)] (fun h st => h = .v (.int .i64 ((splS s).length : Nat))) := by
  have hc := splS_count s
  have hct := countTen_H s
  have hle : s.data.toList.count 10 ≤ s.size := by rw [← size_data]; exact List.count_le_length
  obtain ⟨c, hcc⟩ : ∃ c, c = s.data.toList.count 10 := ⟨_, rfl⟩
  rw [← hcc] at hc hct hle
  obtain ⟨n, hn⟩ : ∃ n, n = (splS s).length := ⟨_, rfl⟩
  rw [← hn] at hc ⊢
  refine hfun (N := 19) Try.func40 rfl Try.ntmps40 Try.results40 (by simp) ?_
  (repeat first | refine HW_seq ?_ | refine hseqQ_normal ?_ | refine HW_skip ?_ | refine hblkQ_normal ?_ | refine HW_block ?_); refine HW_reg (fun K hK => ?_); simp (maxSteps := 2000000) (disch := omega) only [push_cast, ↓Int.cast_ofNat_Int, Nat.reduceBEq, Nat.reduceAdd, Nat.reduceLT, Nat.reduceEqDiff, reduceIte, reduceCtorEq, Nat.reduceLeDiff, Nat.reduceSub, List.reduceReplicate, Nat.reduceMul, Int.reduceToNat, Int.toNat_natCast, Nat.reducePow, reduceIte, cond_true', ltT, ltF, leT, leF, eqT, eqF, getD_map, wr64, toNat_succ, toNat_add]; refine hK _ ?_; clear hK K
  (repeat first | refine HW_seq ?_ | refine hseqQ_normal ?_ | refine HW_skip ?_ | refine hblkQ_normal ?_ | refine HW_block ?_); refine HW_reg (fun K hK => ?_); simp (maxSteps := 2000000) (disch := omega) only [push_cast, ↓Int.cast_ofNat_Int, Nat.reduceBEq, Nat.reduceAdd, Nat.reduceLT, Nat.reduceEqDiff, reduceIte, reduceCtorEq, Nat.reduceLeDiff, Nat.reduceSub, List.reduceReplicate, Nat.reduceMul, Int.reduceToNat, Int.toNat_natCast, Nat.reducePow, reduceIte, cond_true', ltT, ltF, leT, leF, eqT, eqF, getD_map, wr64, toNat_succ, toNat_add]
  refine hatv cl65 hct (.cons (.v _) (.cons (.v _) .nil)) ?_
  refine hstop ?_; simp (maxSteps := 2000000) (disch := omega) only [push_cast, ↓Int.cast_ofNat_Int, Nat.reduceBEq, Nat.reduceAdd, Nat.reduceLT, Nat.reduceEqDiff, reduceIte, reduceCtorEq, Nat.reduceLeDiff, Nat.reduceSub, List.reduceReplicate, Nat.reduceMul, Int.reduceToNat, Int.toNat_natCast, Nat.reducePow, reduceIte, cond_true', ltT, ltF, leT, leF, eqT, eqF, getD_map, wr64, toNat_succ, toNat_add]
  refine hK _ ?_; clear hK K
  by_cases h : s = ⟨#[]⟩
  · have hd : decide (s = ⟨#[]⟩) = true := decide_eq_true h
    rw [if_neg (by simp [h])] at hc
    (repeat first | refine HW_seq ?_ | refine hseqQ_normal ?_ | refine HW_skip ?_ | refine hblkQ_normal ?_ | refine HW_block ?_); refine HW_reg (fun K hK => ?_); simp (maxSteps := 2000000) (disch := omega) only [push_cast, ↓Int.cast_ofNat_Int, Nat.reduceBEq, Nat.reduceAdd, Nat.reduceLT, Nat.reduceEqDiff, reduceIte, reduceCtorEq, Nat.reduceLeDiff, Nat.reduceSub, List.reduceReplicate, Nat.reduceMul, Int.reduceToNat, Int.toNat_natCast, Nat.reducePow, reduceIte, cond_true', ltT, ltF, leT, leF, eqT, eqF, getD_map, wr64, toNat_succ, toNat_add, hd]; refine hK _ ?_; clear hK K
    refine HW_false rfl ?_
    (repeat first | refine hseqQ_ret ?_ | refine hseqQ_exit ?_ | refine hblkQ_exit ?_ | refine hblkQ_other rfl ?_ | refine hblkQ_ret ?_ | refine hblkQ_normal ?_ | refine HW_seq ?_ | refine hseqQ_normal ?_ | refine HW_skip ?_ | refine HW_exit ?_ | refine HW_ret ?_)
    (repeat first | refine HW_seq ?_ | refine hseqQ_normal ?_ | refine HW_skip ?_ | refine hblkQ_normal ?_ | refine HW_block ?_); refine HW_reg (fun K hK => ?_); simp (maxSteps := 2000000) (disch := omega) only [push_cast, ↓Int.cast_ofNat_Int, Nat.reduceBEq, Nat.reduceAdd, Nat.reduceLT, Nat.reduceEqDiff, reduceIte, reduceCtorEq, Nat.reduceLeDiff, Nat.reduceSub, List.reduceReplicate, Nat.reduceMul, Int.reduceToNat, Int.toNat_natCast, Nat.reducePow, reduceIte, cond_true', ltT, ltF, leT, leF, eqT, eqF, getD_map, wr64, toNat_succ, toNat_add]; refine hK _ ?_; clear hK K
    (repeat first | refine hseqQ_ret ?_ | refine hseqQ_exit ?_ | refine hblkQ_exit ?_ | refine hblkQ_other rfl ?_ | refine hblkQ_ret ?_ | refine hblkQ_normal ?_ | refine HW_seq ?_ | refine hseqQ_normal ?_ | refine HW_skip ?_ | refine HW_exit ?_ | refine HW_ret ?_)
    simp only [hfunQ_normal, hfunQ_ret, resH_nil, resH_cons, htup_one, htup_two, hlk_nil, hlk_cons, Nat.reduceEqDiff, reduceIte, reduceCtorEq]
    subst hc
    exact hres_v rfl
  · have hd : decide (s = ⟨#[]⟩) = false := decide_eq_false h
    have hp : 0 < s.size := by
      rcases Nat.eq_zero_or_pos s.size with e | e
      · exact absurd (by rw [← bs_list s, List.eq_nil_of_length_eq_zero ((size_data s).trans e)]; rfl) h
      · exact e
    have e1 : ((s.size : Int) - 1).toNat = s.size - 1 := by omega
    by_cases hb : byteAt s (s.size - 1) = 10
    · rw [if_neg (by simp [hb])] at hc
      (repeat first | refine HW_seq ?_ | refine hseqQ_normal ?_ | refine HW_skip ?_ | refine hblkQ_normal ?_ | refine HW_block ?_); refine HW_reg (fun K hK => ?_); simp (maxSteps := 2000000) (disch := omega) only [push_cast, ↓Int.cast_ofNat_Int, Nat.reduceBEq, Nat.reduceAdd, Nat.reduceLT, Nat.reduceEqDiff, reduceIte, reduceCtorEq, Nat.reduceLeDiff, Nat.reduceSub, List.reduceReplicate, Nat.reduceMul, Int.reduceToNat, Int.toNat_natCast, Nat.reducePow, reduceIte, cond_true', ltT, ltF, leT, leF, eqT, eqF, getD_map, wr64, toNat_succ, toNat_add, hd, e1, hb]; (repeat refine ⟨by first | omega | decide | ((repeat' apply And.intro) <;> first | omega | decide), ?_⟩); refine hK _ ?_; clear hK K
      refine HW_false rfl ?_
      (repeat first | refine hseqQ_ret ?_ | refine hseqQ_exit ?_ | refine hblkQ_exit ?_ | refine hblkQ_other rfl ?_ | refine hblkQ_ret ?_ | refine hblkQ_normal ?_ | refine HW_seq ?_ | refine hseqQ_normal ?_ | refine HW_skip ?_ | refine HW_exit ?_ | refine HW_ret ?_)
      (repeat first | refine HW_seq ?_ | refine hseqQ_normal ?_ | refine HW_skip ?_ | refine hblkQ_normal ?_ | refine HW_block ?_); refine HW_reg (fun K hK => ?_); simp (maxSteps := 2000000) (disch := omega) only [push_cast, ↓Int.cast_ofNat_Int, Nat.reduceBEq, Nat.reduceAdd, Nat.reduceLT, Nat.reduceEqDiff, reduceIte, reduceCtorEq, Nat.reduceLeDiff, Nat.reduceSub, List.reduceReplicate, Nat.reduceMul, Int.reduceToNat, Int.toNat_natCast, Nat.reducePow, reduceIte, cond_true', ltT, ltF, leT, leF, eqT, eqF, getD_map, wr64, toNat_succ, toNat_add]; refine hK _ ?_; clear hK K
      (repeat first | refine hseqQ_ret ?_ | refine hseqQ_exit ?_ | refine hblkQ_exit ?_ | refine hblkQ_other rfl ?_ | refine hblkQ_ret ?_ | refine hblkQ_normal ?_ | refine HW_seq ?_ | refine hseqQ_normal ?_ | refine HW_skip ?_ | refine HW_exit ?_ | refine HW_ret ?_)
      simp only [hfunQ_normal, hfunQ_ret, resH_nil, resH_cons, htup_one, htup_two, hlk_nil, hlk_cons, Nat.reduceEqDiff, reduceIte, reduceCtorEq]
      subst hc
      exact hres_v rfl
    · rw [if_pos ⟨h, hb⟩] at hc
      have e2 : decide (byteAt s (s.size - 1) = 10) = false := decide_eq_false hb
      (repeat first | refine HW_seq ?_ | refine hseqQ_normal ?_ | refine HW_skip ?_ | refine hblkQ_normal ?_ | refine HW_block ?_); refine HW_reg (fun K hK => ?_); simp (maxSteps := 2000000) (disch := omega) only [push_cast, ↓Int.cast_ofNat_Int, Nat.reduceBEq, Nat.reduceAdd, Nat.reduceLT, Nat.reduceEqDiff, reduceIte, reduceCtorEq, Nat.reduceLeDiff, Nat.reduceSub, List.reduceReplicate, Nat.reduceMul, Int.reduceToNat, Int.toNat_natCast, Nat.reducePow, reduceIte, cond_true', ltT, ltF, leT, leF, eqT, eqF, getD_map, wr64, toNat_succ, toNat_add, hd, e1, e2]; (repeat refine ⟨by first | omega | decide | ((repeat' apply And.intro) <;> first | omega | decide), ?_⟩); refine hK _ ?_; clear hK K
      refine HW_true rfl ?_
      (repeat first | refine HW_seq ?_ | refine hseqQ_normal ?_ | refine HW_skip ?_ | refine hblkQ_normal ?_ | refine HW_block ?_); refine HW_reg (fun K hK => ?_); simp (maxSteps := 2000000) (disch := omega) only [push_cast, ↓Int.cast_ofNat_Int, Nat.reduceBEq, Nat.reduceAdd, Nat.reduceLT, Nat.reduceEqDiff, reduceIte, reduceCtorEq, Nat.reduceLeDiff, Nat.reduceSub, List.reduceReplicate, Nat.reduceMul, Int.reduceToNat, Int.toNat_natCast, Nat.reducePow, reduceIte, cond_true', ltT, ltF, leT, leF, eqT, eqF, getD_map, wr64, toNat_succ, toNat_add]; refine hK _ ?_; clear hK K
      (repeat first | refine hseqQ_ret ?_ | refine hseqQ_exit ?_ | refine hblkQ_exit ?_ | refine hblkQ_other rfl ?_ | refine hblkQ_ret ?_ | refine hblkQ_normal ?_ | refine HW_seq ?_ | refine hseqQ_normal ?_ | refine HW_skip ?_ | refine HW_exit ?_ | refine HW_ret ?_)
      (repeat first | refine HW_seq ?_ | refine hseqQ_normal ?_ | refine HW_skip ?_ | refine hblkQ_normal ?_ | refine HW_block ?_); refine HW_reg (fun K hK => ?_); simp (maxSteps := 2000000) (disch := omega) only [push_cast, ↓Int.cast_ofNat_Int, Nat.reduceBEq, Nat.reduceAdd, Nat.reduceLT, Nat.reduceEqDiff, reduceIte, reduceCtorEq, Nat.reduceLeDiff, Nat.reduceSub, List.reduceReplicate, Nat.reduceMul, Int.reduceToNat, Int.toNat_natCast, Nat.reducePow, reduceIte, cond_true', ltT, ltF, leT, leF, eqT, eqF, getD_map, wr64, toNat_succ, toNat_add]; refine hK _ ?_; clear hK K
      (repeat first | refine hseqQ_ret ?_ | refine hseqQ_exit ?_ | refine hblkQ_exit ?_ | refine hblkQ_other rfl ?_ | refine hblkQ_ret ?_ | refine hblkQ_normal ?_ | refine HW_seq ?_ | refine hseqQ_normal ?_ | refine HW_skip ?_ | refine HW_exit ?_ | refine HW_ret ?_)
      simp only [hfunQ_normal, hfunQ_ret, resH_nil, resH_cons, htup_one, htup_two, hlk_nil, hlk_cons, Nat.reduceEqDiff, reduceIte, reduceCtorEq]
      subst hc
      exact hres_v rfl
end Go.Proofs.Ytlfenddhppoflaa
