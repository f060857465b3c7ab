/- What the walk of the law stands on. -/
import Derived.Test.YtlfenddhppoflaaGa
import Derived.Test.YtlfenddhppoflaaDiffM
import Derived.Test.YtlfenddhppoflaaProg
set_option linter.unusedSimpArgs false
set_option linter.unusedVariables false
set_option maxRecDepth 20000
namespace Go.Proofs.Ytlfenddhppoflaa
open Go Go.Eng Go.RowKit Go.DiffM
attribute [local push_cast] lk_nil lk_cons ev_tmp ev_const ev_global ev_func evs_nil evs_cons stp_some stp_none dsts_nil dsts_cons argsE_nil argsE_cons intBin_add intBin_sub intBin_mul intBin_quo intBin_rem intBin_and intBin_or intBin_xor intBin_andNot intBin_eql intBin_neq intBin_lss intBin_leq intBin_gtr intBin_geq intBin_shl intBin_shr strBin_add strBin_eql strBin_neq strBin_lss strBin_leq strBin_gtr strBin_geq pureBin_int pureBin_str pureBin_beq pureBin_bne pureBin_peq pureBin_pne pureBin_seq pureBin_sne pureBin_agg effEq_eql effEq_neq pureUn_not pureUn_neg pureUn_xor pureConv_int pureConv_str pureField_eq pureIndexAddr_s pureIndexAddr_p pureIndex_s oInt_none oInt_some pureSlice_str pureSlice_sl pureB_len pureB_lens pureB_cap pureB_max pureB_min pureB_app pureB_copy po_move po_assign po_pick po_bin po_un po_conv po_field po_extract po_faddr po_iaddr po_index po_slice po_nil po_builtin po_call po_load po_store po_alloc po_box po_build po_buildS po_makeS eo_load eo_store eo_build eo_buildS eo_makeS eo_app eo_call eo_bin eq_load eq_build eq_call eq_bin parts_nil parts_cons outG_none outG_some dstOk_none dstOk_some out_eq outR_eq outOp_eq outQ_eq imm_load immQ_load imm_alloc imm_box imm_store imm_build imm_call imm_bin immQ_build immQ_call immQ_bin imm_buildS imm_makeS v2_nil v2_cons vq_nil vq_cons undef_eq
attribute [local push_cast] List.take_succ_cons List.take_zero List.drop_succ_cons List.drop_zero true_and and_true Option.isSome_some List.getElem?_cons_zero List.getElem?_cons_succ List.length_cons List.length_nil cond_true cond_false Int.toNat_natCast Nat.mul_one Nat.add_zero Nat.zero_add Addr.add_lit bne_self_eq_false beq_self_eq_true Bool.not_true Bool.not_false List.size_toArray Array.getD_eq_getD_getElem? List.getElem?_toArray Option.getD_some decide_true decide_false eq_self Bool.true_beq Bool.false_beq
theorem mixed : Try.prog.follows .mixedOrders = true := by kernel_rfl
theorem kt87 : kindT Try.prog 87 = some (some 2) := by kernel_rfl
theorem kt85 : kindT Try.prog 85 = some none := by kernel_rfl
theorem kt89 : kindT Try.prog 89 = some none := by kernel_rfl
theorem kt3 : kindT Try.prog 3 = some none := by kernel_rfl
theorem kt9 : kindT Try.prog 9 = some none := by kernel_rfl
theorem fo870 : fOff Try.prog 87 0 = some 0 := by kernel_rfl
theorem fo871 : fOff Try.prog 87 1 = some 1 := by kernel_rfl
theorem us85 : uSlice Try.prog 85 = some (89, 1) := by kernel_rfl
theorem us22 : uSlice Try.prog 22 = some (9, 1) := by kernel_rfl

theorem wrap63 {x : Int} (h1 : -4000000000000000000 ≤ x) (h2 : x ≤ 4000000000000000000) : IntKind.i64.wrap x = x := wrapI (fits_small (by omega) (by omega))

theorem wrap16 {n : Nat} (h : n ≤ 30000) : IntKind.i16.wrap (n : Int) = (n : Int) := by
 have e1 : IntKind.i16.bits = 16 := rfl
 have e2 : IntKind.i16.signed = true := rfl
 unfold IntKind.wrap
 simp only [e1, e2]
 simp
 omega
set_option maxHeartbeats 400000 in
theorem at_calls (w : World) (g n wide i j : Nat) (x : Value) (hn : n ≤ 1000000) (hw : wide ≤ 401) (hi : i ≤ 401) (hj : j ≤ 401) (hij : i * wide + j < n) (hx : w.cell? ⟨g, i * wide + j, none⟩ = some x) :
  Calls Try.prog 56 #[.agg #[.int .i64 wide, .slice (some ⟨g, 0, none⟩) n n], .int .i64 i, .int .i64 j] w (Ret fun r w' => r = x ∧ Below w.heap.size w w') := by
 refine calls_W (args := [_, _, _]) Try.func56 rfl Try.ntmps56 Try.results56 (by simp) ?_
 (repeat first | refine W_seq ?_ | refine qV ?_ | refine W_skip ?_ | refine qY ?_); refine W_reg (fun K hK => ?_); simp only [push_cast, Nat.reduceBEq, Nat.reduceAdd, Nat.reduceLT, Nat.reduceEqDiff, reduceIte, reduceCtorEq, Nat.reduceLeDiff, Nat.reduceSub, Value.cells]; refine hK _ _ ?_; clear hK K
 have hs := Blk.new w #[.int .i64 wide, .slice (some ⟨g, 0, none⟩) n n] 87
 have hbel := (Below.refl w.heap.size w).alloc (Nat.le_refl _) (.cells #[.int .i64 wide, .slice (some ⟨g, 0, none⟩) n n] 87)
 have hx := below_cell hbel hx
 generalize hw0 : w.alloc (.cells #[.int .i64 wide, .slice (some ⟨g, 0, none⟩) n n] 87) = w0 at *
 clear hw0
 have c0 := hs.cell 0
 have c1 := hs.cell 1
 simp only [List.getElem?_toArray, List.getElem?_cons_zero, List.getElem?_cons_succ] at c0 c1
 have hm : i * wide ≤ 401 * 401 := Nat.mul_le_mul hi hw
 have e1 : IntKind.i64.wrap ((i : Int) * (wide : Int)) = (i : Int) * (wide : Int) := wrap63 (by rw [← Int.natCast_mul]; omega) (by rw [← Int.natCast_mul]; omega)
 obtain ⟨k, hk⟩ : ∃ k, k = i * wide + j := ⟨_, rfl⟩
 have e2 : IntKind.i64.wrap ((i : Int) * (wide : Int) + (j : Int)) = (k : Int) := by rw [hk, Int.natCast_add, Int.natCast_mul]; exact wrap63 (by rw [← Int.natCast_mul]; omega) (by rw [← Int.natCast_mul]; omega)
 rw [← hk] at hx
 (repeat first | refine W_seq ?_ | refine qV ?_ | refine W_skip ?_ | refine qY ?_); refine W_reg (fun K hK => ?_); simp only [push_cast, Nat.reduceBEq, Nat.reduceAdd, Nat.reduceLT, Nat.reduceEqDiff, reduceIte, reduceCtorEq, Nat.reduceLeDiff, Nat.reduceSub, kt3, kt85, kt89, fo870, fo871, c0, c1, us85, e1, e2, hx]
 refine ⟨by omega, ?_⟩
 refine hK _ _ ?_; clear hK K
 (repeat first | refine seqQ_ret ?_ | refine seqQ_exit ?_ | refine blkQ_exit ?_ | refine blkQ_other rfl ?_ | refine blkQ_ret ?_ | refine qY ?_ | refine W_seq ?_ | refine qV ?_ | refine W_skip ?_ | refine W_exit ?_ | refine W_ret ?_)
 simp only [funQ, resE, tup, lk, Nat.reduceEqDiff, reduceIte, reduceCtorEq]
 exact ⟨trivial, hbel⟩

abbrev SlS (w : World) (v : Value) (a : List ByteArray) : Prop := SlAt w v 1 a.length (fun j => .string (a.getD j ByteArray.empty))
def TabD (a b : List ByteArray) (cs : Array Value) (wd i j : Nat) : Prop := cs.size = (a.length + 1) * wd ∧
 ∀ p q, p ≤ a.length → q < wd → (i + 1 ≤ p ∨ p = i ∧ j ≤ q ∨ q + 1 = wd ∨ p = a.length) → cs[p * wd + q]? = some (.int .i16 (at2 a b p q))
theorem idx_inj {wd i j m q : Nat} (hj : j < wd) (hq : q < wd) (h : i * wd + j = m * wd + q) : i = m ∧ j = q := by
 have h1 : (i * wd + j) / wd = i := by rw [Nat.mul_comm, Nat.mul_add_div (by omega), Nat.div_eq_of_lt hj, Nat.add_zero]
 have h2 : (m * wd + q) / wd = m := by rw [Nat.mul_comm, Nat.mul_add_div (by omega), Nat.div_eq_of_lt hq, Nat.add_zero]
 have : i = m := by rw [← h1, h, h2]
 subst this
 exact ⟨rfl, by omega⟩
theorem idx_lt {wd i j n : Nat} (hj : j < wd) (hi : i < n) : i * wd + j < n * wd := by
 have := Nat.mul_le_mul_right wd (show i + 1 ≤ n from hi)
 rw [Nat.add_mul] at this
 omega
theorem TabD.put {a b : List ByteArray} {cs : Array Value} {wd m q : Nat} (h : TabD a b cs wd m (q + 1)) (hm : m < a.length) (hq : q < wd) (v : Value) (hv : v = .int .i16 (at2 a b m q)) : TabD a b (cs.setIfInBounds (m * wd + q) v) wd m q := by
 refine ⟨by rw [Array.size_setIfInBounds]; exact h.1, fun i j hi hj hd => ?_⟩
 by_cases he : i = m ∧ j = q
 ·obtain ⟨rfl, rfl⟩ := he
  rw [Array.getElem?_setIfInBounds_self_of_lt (by rw [h.1]; exact idx_lt hq (by omega)), hv]
 ·rw [Array.getElem?_setIfInBounds_ne (fun e => he (idx_inj hj hq e.symm))]
  refine h.2 i j hi hj ?_
  rcases hd with h1 | ⟨h1, h2⟩ | h1 | h1
  ·exact .inl h1
  ·refine .inr (.inl ⟨h1, ?_⟩); omega
  ·exact .inr (.inr (.inl h1))
  ·exact .inr (.inr (.inr h1))
theorem cl56 : callable Try.prog 56 = true := by kernel_rfl
theorem cl55 : callable Try.prog 55 = true := by kernel_rfl
theorem zt87 : zeroT Try.prog 87 = some #[.int .i64 0, .slice none 0 0] := by kernel_rfl
theorem build87 (x : Int) (a : Option Addr) (n c : Nat) (w : World) : (Instr.build 87 #[(0, .int .i64 x), (1, .slice a n c)]).run Try.prog w = .ok (.agg #[.int .i64 x, .slice a n c]) w := by kernel_rfl
theorem se85 : seOf Try.prog 85 = some (89, 1, 2, #[.int .i16 0]) := by kernel_rfl
set_option maxHeartbeats 1000000 in
theorem measure_calls (w0 : World) (va vb : Value) (a b : List ByteArray) (hla : a.length ≤ 400) (hlb : b.length ≤ 400) (ha : SlS w0 va a) (hb : SlS w0 vb b) :
  Calls Try.prog 55 #[va, vb] w0 (Ret fun r w' => ∃ g n cs, r = .agg #[.int .i64 (b.length + 1 : Nat), .slice (some ⟨g, 0, none⟩) n n] ∧ n = (a.length + 1) * (b.length + 1) ∧ w0.heap.size ≤ g ∧ Blk w' g cs 89 ∧ TabD a b cs (b.length + 1) 0 0 ∧ Below w0.heap.size w0 w') := by
 refine calls_W (args := [_, _]) Try.func55 rfl Try.ntmps55 Try.results55 (by simp) ?_
 obtain ⟨aa, ca, rfl, ha1, ha2, ha3⟩ := ha
 obtain ⟨ab, cb, rfl, hb1, hb2, hb3⟩ := hb
 generalize hla' : a.length = la at *
 generalize hlb' : b.length = lb at *
 obtain ⟨wd, hwd⟩ : ∃ wd, wd = lb + 1 := ⟨_, rfl⟩
 rw [← hwd]
 obtain ⟨n, hn⟩ : ∃ n, n = (la + 1) * wd := ⟨_, rfl⟩
 have hn' : n ≤ 401 * 401 := by rw [hn]; exact Nat.mul_le_mul (by omega) (by omega)
 have e1 : IntKind.i64.wrap ((lb : Int) + 1) = (wd : Int) := by rw [wrap63 (by omega) (by omega)]; omega
 have e2 : IntKind.i64.wrap ((la : Int) + 1) = (la : Int) + 1 := by rw [wrap63 (by omega) (by omega)]
 have e3 : IntKind.i64.wrap (((la : Int) + 1) * (wd : Int)) = (n : Int) := by
  have : ((la : Int) + 1) * (wd : Int) = (n : Int) := by rw [hn]; simp
  rw [this, wrap63 (by omega) (by omega)]
 have hm : maxLen ≥ 1000000 := by decide
 (repeat first | refine W_seq ?_ | refine qV ?_ | refine W_skip ?_ | refine qY ?_); refine W_reg (fun K hK => ?_); simp only [push_cast, Nat.reduceBEq, Nat.reduceAdd, Nat.reduceLT, Nat.reduceEqDiff, reduceIte, reduceCtorEq, Nat.reduceLeDiff, Nat.reduceSub, zt87]; refine hK _ _ ?_; clear hK K
 have hr0 := Blk.new w0 #[.int .i64 0, .slice none 0 0] 87
 have hB0 := (Below.refl w0.heap.size w0).alloc (Nat.le_refl _) (.cells #[.int .i64 0, .slice none 0 0] 87)
 generalize hw1 : w0.alloc (.cells #[.int .i64 0, .slice none 0 0] 87) = w1 at *
 clear hw1
 generalize hR : w0.heap.size = R at *
 (repeat first | refine W_seq ?_ | refine qV ?_ | refine W_skip ?_ | refine qY ?_); refine W_reg (fun K hK => ?_); simp only [push_cast, Nat.reduceBEq, Nat.reduceAdd, Nat.reduceLT, Nat.reduceEqDiff, reduceIte, reduceCtorEq, Nat.reduceLeDiff, Nat.reduceSub, e1, e2, e3, us22]
 obtain ⟨w2, hr, ho, hb2, hlt⟩ := own_make (P := Try.prog) (w := w1) se85 n (by omega) (by omega)
 refine ⟨_, w2, hr, ?_⟩
 clear hr
 have hRg : R < w1.heap.size := hr0.lt
 have hr0 := hr0.up hb2
 have hB0 := hB0.trans (hb2.mono (Nat.le_of_lt hRg))
 obtain ⟨hg, -, hlen⟩ := ho.blk
 rw [madeCells_one] at hg
 generalize hG : w1.heap.size = g at *
 refine v2s ?_; try simp only [push_cast, Nat.reduceBEq, Nat.reduceAdd, Nat.reduceLT, Nat.reduceEqDiff, reduceIte, reduceCtorEq, Nat.reduceLeDiff, Nat.reduceSub, zt87]
 refine ⟨_, build87 _ _ _ _, ?_⟩
 refine v2s ?_; try simp only [push_cast, Nat.reduceBEq, Nat.reduceAdd, Nat.reduceLT, Nat.reduceEqDiff, reduceIte, reduceCtorEq, Nat.reduceLeDiff, Nat.reduceSub, zt87]
 have hs0 := Blk.new w2 #[.int .i64 0, .slice none 0 0] 87
 have hRs := hg.lt
 have hB0 := hB0.alloc (Nat.le_of_lt hr0.lt) (.cells #[.int .i64 0, .slice none 0 0] 87)
 have hr0 := hr0.alloc (.cells #[.int .i64 0, .slice none 0 0] 87)
 have hg := hg.alloc (.cells #[.int .i64 0, .slice none 0 0] 87)
 generalize hw3 : w2.alloc (.cells #[.int .i64 0, .slice none 0 0] 87) = w3 at *
 generalize hS : w2.heap.size = s at *
 obtain ⟨w4, hr, hs, ho⟩ := storeAll (P := Try.prog) (ty := 87) (vs := #[.int .i64 wd, .slice (some ⟨g, 0, none⟩) n n]) hs0 kt87 (by simp [Value.oneCell']) rfl
 refine ⟨w4, hr, ?_⟩
 have hr0 := hr0.only ho (by omega)
 have hg := hg.only ho (by omega)
 have hB0 := ho.below hB0 (by omega)
 refine v2s ?_; try simp only [push_cast, Nat.reduceBEq, Nat.reduceAdd, Nat.reduceLT, Nat.reduceEqDiff, reduceIte, reduceCtorEq, Nat.reduceLeDiff, Nat.reduceSub]
 refine hK _ _ ?_; clear hK K
 clear hr
 have e4 : IntKind.i64.wrap ((la : Int) - 1) = (la : Int) - 1 := wrap63 (by omega) (by omega)
 have e5 : IntKind.i64.wrap ((lb : Int) - 1) = (lb : Int) - 1 := wrap63 (by omega) (by omega)
 (repeat first | refine W_seq ?_ | refine qV ?_ | refine W_skip ?_ | refine qY ?_); refine W_reg (fun K hK => ?_); simp only [push_cast, Nat.reduceBEq, Nat.reduceAdd, Nat.reduceLT, Nat.reduceEqDiff, reduceIte, reduceCtorEq, Nat.reduceLeDiff, Nat.reduceSub, us22, e4]; refine hK _ _ ?_; clear hK K
 have hT0 : TabD a b (Array.replicate n (Value.int .i16 0)) wd la 0 := by
  refine ⟨by rw [Array.size_replicate, hla', hn], fun p q hp hq hd => ?_⟩
  rw [hla'] at hp
  have : p * wd + q < n := by rw [hn]; exact idx_lt hq (by omega)
  rw [Array.getElem?_replicate, if_pos this, at2_end _ _ _ _ (by omega)]
  rfl
 (repeat first | refine W_seq ?_ | refine qV ?_ | refine W_skip ?_ | refine qY ?_)
 refine W_block ?_
 refine W_loop (fun i : Nat => [(0, .slice aa la ca), (1, .slice ab lb cb), (4, .pointer (some ⟨R, 0, none⟩)), (5, .pointer (some ⟨s, 0, none⟩)), (6, .int .i64 ((i : Int) - 1))])
  (fun i w => i ≤ la ∧ ∃ cs, Blk w g cs 89 ∧ TabD a b cs wd i 0 ∧ Blk w s #[.int .i64 wd, .slice (some ⟨g, 0, none⟩) n n] 87 ∧ Blk w R #[.int .i64 0, .slice none 0 0] 87 ∧ Below R w0 w) (fun i => i) [0, 1, 4, 5, 6] la rfl
  ⟨Nat.le_refl _, _, hg, hT0, hs, hr0, hB0⟩ ?_
 clear hg hT0 hs hr0 hB0 hw3 hs0 hb2 ho hS hG
 rintro i w ⟨hi, cs, hg, hT, hs, hr0, hB0⟩
 (repeat first | refine W_seq ?_ | refine qV ?_ | refine W_skip ?_ | refine qY ?_); refine W_reg (fun K hK => ?_); simp only [push_cast, Nat.reduceBEq, Nat.reduceAdd, Nat.reduceLT, Nat.reduceEqDiff, reduceIte, reduceCtorEq, Nat.reduceLeDiff, Nat.reduceSub]; refine hK _ _ ?_; clear hK K
 (repeat first | refine W_seq ?_ | refine qV ?_ | refine W_skip ?_ | refine qY ?_)
 refine W_cond rfl (fun hlt => ?_) (fun hge => ?_)
 ·have hlt : 0 < i := by simp at hlt; omega
  obtain ⟨m, rfl⟩ : ∃ m, i = m + 1 := ⟨i - 1, by omega⟩
  have em : (((m + 1 : Nat) : Int)) - 1 = (m : Int) := by omega
  rw [em]
  refine W_kept (l' := _) [0, 1, 4, 5, 6] (by simp only [keep, lk, Nat.reduceEqDiff, reduceIte]; exact rfl) ?_
  (repeat first | refine W_seq ?_ | refine qV ?_ | refine W_skip ?_ | refine qY ?_)
  refine W_block ?_
  (repeat first | refine W_seq ?_ | refine qV ?_ | refine W_skip ?_ | refine qY ?_); refine W_reg (fun K hK => ?_); simp only [push_cast, Nat.reduceBEq, Nat.reduceAdd, Nat.reduceLT, Nat.reduceEqDiff, reduceIte, reduceCtorEq, Nat.reduceLeDiff, Nat.reduceSub, us22, e5]; refine hK _ _ ?_; clear hK K
  (repeat first | refine W_seq ?_ | refine qV ?_ | refine W_skip ?_ | refine qY ?_)
  refine W_block ?_
  refine W_loop (fun j : Nat => [(0, .slice aa la ca), (1, .slice ab lb cb), (4, .pointer (some ⟨R, 0, none⟩)), (5, .pointer (some ⟨s, 0, none⟩)), (6, .int .i64 (m : Int)), (7, .int .i64 ((j : Int) - 1))])
   (fun j w => j ≤ lb ∧ ∃ cs, Blk w g cs 89 ∧ TabD a b cs wd m j ∧ Blk w s #[.int .i64 wd, .slice (some ⟨g, 0, none⟩) n n] 87 ∧ Blk w R #[.int .i64 0, .slice none 0 0] 87 ∧ Below R w0 w) (fun j => j) [0, 1, 4, 5, 6, 7] lb rfl
   ⟨Nat.le_refl _, cs, hg, ?_, hs, hr0, hB0⟩ ?_
  ·refine ⟨hT.1, fun p q hp hq hd => hT.2 p q hp hq ?_⟩
   rw [hla'] at hd ⊢
   omega
  clear hg hT hs hr0 hB0 cs
  rintro j w ⟨hj, cs, hg, hT, hs, hr0, hB0⟩
  (repeat first | refine W_seq ?_ | refine qV ?_ | refine W_skip ?_ | refine qY ?_); refine W_reg (fun K hK => ?_); simp only [push_cast, Nat.reduceBEq, Nat.reduceAdd, Nat.reduceLT, Nat.reduceEqDiff, reduceIte, reduceCtorEq, Nat.reduceLeDiff, Nat.reduceSub]; refine hK _ _ ?_; clear hK K
  (repeat first | refine W_seq ?_ | refine qV ?_ | refine W_skip ?_ | refine qY ?_)
  refine W_cond rfl (fun hltj => ?_) (fun hgej => ?_)
  ·have hltj : 0 < j := by simp at hltj; omega
   obtain ⟨q, rfl⟩ : ∃ q, j = q + 1 := ⟨j - 1, by omega⟩
   have eq : (((q + 1 : Nat) : Int)) - 1 = (q : Int) := by omega
   rw [eq]
   refine W_kept (l' := _) [0, 1, 4, 5, 6, 7] (by simp only [keep, lk, Nat.reduceEqDiff, reduceIte]; exact rfl) ?_
   (repeat first | refine W_seq ?_ | refine qV ?_ | refine W_skip ?_ | refine qY ?_)
   refine W_block ?_
   obtain ⟨ba, oa, rfl, ca3⟩ := ha3 (by omega)
   obtain ⟨bb, ob, rfl, cb3⟩ := hb3 (by omega)
   have cA := below_cell (w' := w) (by rw [hR]; exact hB0) (ca3 m (by omega))
   have cB := below_cell (w' := w) (by rw [hR]; exact hB0) (cb3 q (by omega))
   have hA : (0 : Int) ≤ m ∧ (m : Int) < la := by omega
   have hB : (0 : Int) ≤ q ∧ (q : Int) < lb := by omega
   (repeat first | refine W_seq ?_ | refine qV ?_ | refine W_skip ?_ | refine qY ?_); refine W_drw [0, 1, 4, 5, 6, 7] 9 mixed rfl (by kernel_rfl) (fun K hK => ?_); simp only [push_cast, Nat.reduceBEq, Nat.reduceAdd, Nat.reduceLT, Nat.reduceEqDiff, reduceIte, reduceCtorEq, Nat.reduceLeDiff, Nat.reduceSub, us22, kt9, cA, cB, hA, hB]
   intro w5 hw5
   refine v2s ?_; try simp only [push_cast, Nat.reduceBEq, Nat.reduceAdd, Nat.reduceLT, Nat.reduceEqDiff, reduceIte, reduceCtorEq, Nat.reduceLeDiff, Nat.reduceSub]
   refine hK _ _ ?_; clear hK K
   refine W_kept (l' := _) [42, 0, 1, 4, 5, 6, 7] (by simp only [keep, lk, Nat.reduceEqDiff, reduceIte]; exact rfl) ?_
   have hg := hg.up hw5
   have hs := hs.up hw5
   have hr0 := hr0.up hw5
   have hB0 := hB0.trans (hw5.mono (by rw [← hR]; exact hB0.size))
   obtain ⟨m1, hm1⟩ : ∃ m1, m1 = m + 1 := ⟨_, rfl⟩
   obtain ⟨q1, hq1⟩ : ∃ q1, q1 = q + 1 := ⟨_, rfl⟩
   have hmw : m * wd ≤ 400 * 401 := Nat.mul_le_mul (by omega) (by omega)
   have f1 : IntKind.i64.wrap ((m : Int) * (wd : Int)) = (m : Int) * (wd : Int) := wrap63 (by rw [← Int.natCast_mul]; omega) (by rw [← Int.natCast_mul]; omega)
   obtain ⟨k, hk⟩ : ∃ k, k = m * wd + q := ⟨_, rfl⟩
   have f2 : IntKind.i64.wrap ((m : Int) * (wd : Int) + (q : Int)) = (k : Int) := by rw [hk, Int.natCast_add, Int.natCast_mul]; exact wrap63 (by rw [← Int.natCast_mul]; omega) (by rw [← Int.natCast_mul]; omega)
   have f3 : IntKind.i64.wrap ((m : Int) + 1) = (m1 : Int) := by rw [wrap63 (by omega) (by omega)]; omega
   have f4 : IntKind.i64.wrap ((q : Int) + 1) = (q1 : Int) := by rw [wrap63 (by omega) (by omega)]; omega
   have hkn : k < n := by rw [hk, hn]; exact idx_lt (by omega) (by omega)
   have hkk : (0 : Int) ≤ k ∧ (k : Int) < n := by omega
   have g0 := hs.cell 0
   have g1 := hs.cell 1
   simp only [List.getElem?_toArray, List.getElem?_cons_zero, List.getElem?_cons_succ] at g0 g1
   have hcs : cs.size = n := by rw [hT.1, hla', hn]
   have hstep := at2_step a b m q (by omega) (by omega)
   have ga : a.getD m ByteArray.empty = a[m]'(by omega) := by simp [List.getD_eq_getElem?_getD, List.getElem?_eq_getElem (show m < a.length by omega)]
   have gb : b.getD q ByteArray.empty = b[q]'(by omega) := by simp [List.getD_eq_getElem?_getD, List.getElem?_eq_getElem (show q < b.length by omega)]
   have near : ∀ x y, x ≤ la → y < wd → (x = m1 ∨ y = q1 ∧ x = m) → w5.cell? ⟨g, x * wd + y, none⟩ = some (.int .i16 (at2 a b x y)) := fun x y hx hy hd => by
    rw [hg.cell]
    refine hT.2 x y (by omega) hy ?_
    omega
   have f6 : IntKind.i64.wrap ((q : Int) - 1) = (q : Int) - 1 := wrap63 (by omega) (by omega)
   have s1 : at2 a b m1 q1 ≤ la := hla' ▸ at2_le a b m1 q1
   have s2 : at2 a b m1 q ≤ la := hla' ▸ at2_le a b m1 q
   have s3 : at2 a b m q1 ≤ la := hla' ▸ at2_le a b m q1
   have bound : ∀ x y, x ≤ la → y < wd → x * wd + y < n := fun x y hx hy => by rw [hn]; exact idx_lt hy (by omega)
   refine W_cond rfl (fun he => ?_) (fun he => ?_)
   ·have he : a.getD m ByteArray.empty = b.getD q ByteArray.empty := of_decide_eq_true he
    rw [ga, gb] at he
    rw [if_pos he] at hstep
    have f5 : IntKind.i16.wrap ((at2 a b m1 q1 : Int) + 1) = ((at2 a b m q : Nat) : Int) := by
     rw [← Int.natCast_one, ← Int.natCast_add, wrap16 (by omega)]; subst hm1; subst hq1; omega
    (repeat first | refine W_seq ?_ | refine qV ?_ | refine W_skip ?_ | refine qY ?_); refine W_drw [42, 0, 1, 4, 5, 6, 7] 16 mixed rfl (by kernel_rfl) (fun K hK => ?_); simp only [push_cast, Nat.reduceBEq, Nat.reduceAdd, Nat.reduceLT, Nat.reduceEqDiff, reduceIte, reduceCtorEq, Nat.reduceLeDiff, Nat.reduceSub, kt3, kt85, kt87, kt89, fo870, fo871, g0, g1, us85, f1, f2, f3, f4, hkk]
    refine ⟨_, hs.cells rfl, ?_⟩
    refine vqs ?_; try simp only [push_cast, Nat.reduceBEq, Nat.reduceAdd, Nat.reduceLT, Nat.reduceEqDiff, reduceIte, reduceCtorEq, Nat.reduceLeDiff, Nat.reduceSub, f3, f4]
    refine ⟨cl56, _, drawn_calls (fun w' hw' => at_calls w' g n wd m1 q1 _ (by omega) (by omega) (by omega) (by omega) (bound m1 q1 (by omega) (by omega)) (below_cell hw' (near m1 q1 (by omega) (by omega) (.inl rfl)))), ?_⟩
    refine vqs ?_; try simp only [push_cast, Nat.reduceBEq, Nat.reduceAdd, Nat.reduceLT, Nat.reduceEqDiff, reduceIte, reduceCtorEq, Nat.reduceLeDiff, Nat.reduceSub, f5, us85, hkk]
    intro w6 hw6
    obtain ⟨w7, hr, hg7, ho⟩ := store1 (P := Try.prog) (ty := 89) (i := k) (v := .int .i16 (at2 a b m q : Nat)) (hg.up hw6) kt89 rfl (by omega)
    refine v2s ?_; try simp only [push_cast, Nat.reduceBEq, Nat.reduceAdd, Nat.reduceLT, Nat.reduceEqDiff, reduceIte, reduceCtorEq, Nat.reduceLeDiff, Nat.reduceSub]
    refine ⟨w7, hr, ?_⟩
    refine v2s ?_; try simp only [push_cast, Nat.reduceBEq, Nat.reduceAdd, Nat.reduceLT, Nat.reduceEqDiff, reduceIte, reduceCtorEq, Nat.reduceLeDiff, Nat.reduceSub]
    refine hK _ _ ?_; clear hK K
    clear hr
    (repeat first | refine seqQ_ret ?_ | refine seqQ_exit ?_ | refine blkQ_exit ?_ | refine blkQ_other rfl ?_ | refine blkQ_ret ?_ | refine qY ?_ | refine W_seq ?_ | refine qV ?_ | refine W_skip ?_ | refine W_exit ?_ | refine W_ret ?_)
    refine W_kept (l' := _) [0, 1, 4, 5, 6, 7] (by simp only [keep, lk, Nat.reduceEqDiff, reduceIte]; exact rfl) ?_
    (repeat first | refine W_seq ?_ | refine qV ?_ | refine W_skip ?_ | refine qY ?_); refine W_reg (fun K hK => ?_); simp only [push_cast, Nat.reduceBEq, Nat.reduceAdd, Nat.reduceLT, Nat.reduceEqDiff, reduceIte, reduceCtorEq, Nat.reduceLeDiff, Nat.reduceSub, f6]; refine hK _ _ ?_; clear hK K
    refine qV ⟨q, rfl, ⟨by omega, _, hg7, ?_, (hs.up hw6).only ho (by omega), (hr0.up hw6).only ho (by omega), ho.below (hB0.trans (hw6.mono (by rw [← hR]; exact hB0.size))) (by omega)⟩, by omega⟩
    rw [hk]
    exact hT.put (by omega) (by omega) _ rfl
   ·have he : ¬ a.getD m ByteArray.empty = b.getD q ByteArray.empty := of_decide_eq_false he
    rw [ga, gb] at he
    rw [if_neg he] at hstep
    (repeat first | refine W_seq ?_ | refine qV ?_ | refine W_skip ?_ | refine qY ?_); refine W_drw [42, 0, 1, 4, 5, 6, 7] 20 mixed rfl (by kernel_rfl) (fun K hK => ?_); simp only [push_cast, Nat.reduceBEq, Nat.reduceAdd, Nat.reduceLT, Nat.reduceEqDiff, reduceIte, reduceCtorEq, Nat.reduceLeDiff, Nat.reduceSub, kt3, kt85, kt87, kt89, fo870, fo871, g0, g1, us85, f1, f2, f3, f4, hkk]
    refine ⟨_, hs.cells rfl, ?_⟩
    refine vqs ?_; try simp only [push_cast, Nat.reduceBEq, Nat.reduceAdd, Nat.reduceLT, Nat.reduceEqDiff, reduceIte, reduceCtorEq, Nat.reduceLeDiff, Nat.reduceSub, f3, f4]
    refine ⟨cl56, _, drawn_calls (fun w' hw' => at_calls w' g n wd m1 q _ (by omega) (by omega) (by omega) (by omega) (bound m1 q (by omega) (by omega)) (below_cell hw' (near m1 q (by omega) (by omega) (.inl rfl)))), ?_⟩
    refine vqs ?_; try simp only [push_cast, Nat.reduceBEq, Nat.reduceAdd, Nat.reduceLT, Nat.reduceEqDiff, reduceIte, reduceCtorEq, Nat.reduceLeDiff, Nat.reduceSub]
    refine ⟨_, hs.cells rfl, ?_⟩
    refine vqs ?_; try simp only [push_cast, Nat.reduceBEq, Nat.reduceAdd, Nat.reduceLT, Nat.reduceEqDiff, reduceIte, reduceCtorEq, Nat.reduceLeDiff, Nat.reduceSub, f3, f4]
    refine ⟨cl56, _, drawn_calls (fun w' hw' => at_calls w' g n wd m q1 _ (by omega) (by omega) (by omega) (by omega) (bound m q1 (by omega) (by omega)) (below_cell hw' (near m q1 (by omega) (by omega) (.inr ⟨rfl, rfl⟩)))), ?_⟩
    refine vqs ?_; try simp only [push_cast, Nat.reduceBEq, Nat.reduceAdd, Nat.reduceLT, Nat.reduceEqDiff, reduceIte, reduceCtorEq, Nat.reduceLeDiff, Nat.reduceSub, us85, hkk]
    intro w6 hw6
    have f7 : (if (at2 a b m1 q : Int) < (at2 a b m q1 : Int) then (at2 a b m q1 : Int) else (at2 a b m1 q : Int)) = ((at2 a b m q : Nat) : Int) := by
     subst hm1; subst hq1
     split <;> omega
    rw [f7]
    obtain ⟨w7, hr, hg7, ho⟩ := store1 (P := Try.prog) (ty := 89) (i := k) (v := .int .i16 (at2 a b m q : Nat)) (hg.up hw6) kt89 rfl (by omega)
    refine v2s ?_; try simp only [push_cast, Nat.reduceBEq, Nat.reduceAdd, Nat.reduceLT, Nat.reduceEqDiff, reduceIte, reduceCtorEq, Nat.reduceLeDiff, Nat.reduceSub]
    refine ⟨w7, hr, ?_⟩
    refine v2s ?_; try simp only [push_cast, Nat.reduceBEq, Nat.reduceAdd, Nat.reduceLT, Nat.reduceEqDiff, reduceIte, reduceCtorEq, Nat.reduceLeDiff, Nat.reduceSub]
    refine hK _ _ ?_; clear hK K
    clear hr
    (repeat first | refine seqQ_ret ?_ | refine seqQ_exit ?_ | refine blkQ_exit ?_ | refine blkQ_other rfl ?_ | refine blkQ_ret ?_ | refine qY ?_ | refine W_seq ?_ | refine qV ?_ | refine W_skip ?_ | refine W_exit ?_ | refine W_ret ?_)
    refine W_kept (l' := _) [0, 1, 4, 5, 6, 7] (by simp only [keep, lk, Nat.reduceEqDiff, reduceIte]; exact rfl) ?_
    (repeat first | refine W_seq ?_ | refine qV ?_ | refine W_skip ?_ | refine qY ?_); refine W_reg (fun K hK => ?_); simp only [push_cast, Nat.reduceBEq, Nat.reduceAdd, Nat.reduceLT, Nat.reduceEqDiff, reduceIte, reduceCtorEq, Nat.reduceLeDiff, Nat.reduceSub, f6]; refine hK _ _ ?_; clear hK K
    refine qV ⟨q, rfl, ⟨by omega, _, hg7, ?_, (hs.up hw6).only ho (by omega), (hr0.up hw6).only ho (by omega), ho.below (hB0.trans (hw6.mono (by rw [← hR]; exact hB0.size))) (by omega)⟩, by omega⟩
    rw [hk]
    exact hT.put (by omega) (by omega) _ rfl
  ·have hz : j = 0 := by simp at hgej; omega
   subst hz
   (repeat first | refine seqQ_ret ?_ | refine seqQ_exit ?_ | refine blkQ_exit ?_ | refine blkQ_other rfl ?_ | refine blkQ_ret ?_ | refine qY ?_ | refine W_seq ?_ | refine qV ?_ | refine W_skip ?_ | refine W_exit ?_ | refine W_ret ?_)
   refine W_kept (l' := _) [0, 1, 4, 5, 6] (by simp only [keep, lk, Nat.reduceEqDiff, reduceIte]; exact rfl) ?_
   have f8 : IntKind.i64.wrap ((m : Int) - 1) = (m : Int) - 1 := wrap63 (by omega) (by omega)
   (repeat first | refine W_seq ?_ | refine qV ?_ | refine W_skip ?_ | refine qY ?_); refine W_reg (fun K hK => ?_); simp only [push_cast, Nat.reduceBEq, Nat.reduceAdd, Nat.reduceLT, Nat.reduceEqDiff, reduceIte, reduceCtorEq, Nat.reduceLeDiff, Nat.reduceSub, f8]; refine hK _ _ ?_; clear hK K
   exact qV ⟨m, rfl, ⟨by omega, cs, hg, hT, hs, hr0, hB0⟩, by omega⟩
 ·have hz : i = 0 := by simp at hge; omega
  subst hz
  (repeat first | refine seqQ_ret ?_ | refine seqQ_exit ?_ | refine blkQ_exit ?_ | refine blkQ_other rfl ?_ | refine blkQ_ret ?_ | refine qY ?_ | refine W_seq ?_ | refine qV ?_ | refine W_skip ?_ | refine W_exit ?_ | refine W_ret ?_)
  refine W_kept (l' := _) [0, 1, 4, 5, 6] (by simp only [keep, lk, Nat.reduceEqDiff, reduceIte]; exact rfl) ?_
  (repeat first | refine W_seq ?_ | refine qV ?_ | refine W_skip ?_ | refine qY ?_); refine W_reg (fun K hK => ?_); simp only [push_cast, Nat.reduceBEq, Nat.reduceAdd, Nat.reduceLT, Nat.reduceEqDiff, reduceIte, reduceCtorEq, Nat.reduceLeDiff, Nat.reduceSub, kt87]
  refine ⟨_, hs.cells rfl, ?_⟩
  refine v2s ?_; try simp only [push_cast, Nat.reduceBEq, Nat.reduceAdd, Nat.reduceLT, Nat.reduceEqDiff, reduceIte, reduceCtorEq, Nat.reduceLeDiff, Nat.reduceSub, kt87]
  obtain ⟨w5, hr, hr5, ho⟩ := storeAll (P := Try.prog) (ty := 87) (vs := #[.int .i64 wd, .slice (some ⟨g, 0, none⟩) n n]) hr0 kt87 (by simp [Value.oneCell']) rfl
  refine ⟨w5, hr, ?_⟩
  refine v2s ?_; try simp only [push_cast, Nat.reduceBEq, Nat.reduceAdd, Nat.reduceLT, Nat.reduceEqDiff, reduceIte, reduceCtorEq, Nat.reduceLeDiff, Nat.reduceSub]
  refine hK _ _ ?_; clear hK K
  clear hr
  (repeat first | refine seqQ_ret ?_ | refine seqQ_exit ?_ | refine blkQ_exit ?_ | refine blkQ_other rfl ?_ | refine blkQ_ret ?_ | refine qY ?_ | refine W_seq ?_ | refine qV ?_ | refine W_skip ?_ | refine W_exit ?_ | refine W_ret ?_)
  simp only [funQ, resE, tup, lk, Nat.reduceEqDiff, reduceIte, reduceCtorEq, kt87]
  exact ⟨_, hr5.cells rfl, g, n, cs, rfl, hn, by omega, hg.only ho (by omega), hT, ho.below hB0 (by omega)⟩
end Go.Proofs.Ytlfenddhppoflaa
