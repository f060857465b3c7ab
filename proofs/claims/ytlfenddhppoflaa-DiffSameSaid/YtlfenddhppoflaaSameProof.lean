/-
  DiffSame: for every input. No condition.
-/
import Derived.Test.YtlfenddhppoflaaRows
import Derived.Test.YtlfenddhppoflaaDistH
import Derived.Test.YtlfenddhppoflaaOpenS
import Derived.Test.YtlfenddhppoflaaLift
set_option linter.unusedVariables false
namespace Go.Proofs.Ytlfenddhppoflaa
open Go Go.Eng Go.RowKit Go.ChangeShapes Go.WideShapes Go.ChangeAt

theorem own : ownKnob Try.prog.godebug = none := by kernel_rfl
theorem laidOut : laidOutB Try.prog = true := by kernel_rfl
theorem cells9 : Try.prog.cellsOf 9 = 1 := by kernel_rfl
theorem bytes9 : Try.prog.bytesOf 9 = 16 := by kernel_rfl
set_option maxRecDepth 100000 in
theorem liftedDiffSame (os : Os) (started : os.Started) (H : Type) (enc : TypeId × Value → H) :
    ReturnsInHanded {} Try.checked os 4 .any (Rows.diffSameSpec.pre6 enc Try.prog Try.f4 Rows.diffSameRow.domain false) (Rows.diffSameSpec.post enc Try.prog Try.f4 false true false false) := by
  refine returnsInHanded_of_change_sized (C := Try.checked) own started (by kernel_rfl) Try.func4
    (ChangeSpec.witness6 (enc := enc) (C := Try.checked) false ⟨#[], #[.slice none 0 0, .slice none 0 0, .slice none 0 0], []⟩ 8 (by kernel_rfl) (by kernel_rfl) (by kernel_rfl) (by kernel_rfl)) ?_
  intro W base args ds gs before hval0 hW hcnd hsz _
  have hval : ∀ (j : Nat) t v, Try.f4.params[j]? = some t → args[j]? = some v → Value.okWide Try.prog W .any base t v := hval0
  have hW' := hW
  obtain ⟨p, q, hA0, hV, rfl, hfz, hnd⟩ := hW
  have hA : DataW.TrodAll enc Try.prog W 0 (fun _ => true) true Try.f4.params.toList args.toList ds p := hA0
  rw [Try.params4] at hA hval
  have hsz1 : (DataW.weightsEach Try.prog (Try.f4.params.toList ++ Rows.diffSameSpec.plain.varTypes Try.prog) (ds ++ gs)).all (· ≤ reachBytes) = true := hsz
  rw [Try.params4] at hsz1
  have hA1 := hA
  obtain ⟨v0, vs0, d0, ds0, p0, q0, hargs, rfl, rfl, h0, r0⟩ := trodAll_cons hA
  obtain ⟨v1, vs1, d1, ds1, p1, q1, rfl, rfl, rfl, h1, r1⟩ := trodAll_cons r0
  obtain ⟨v2, vs2, d2, ds2, p2, q2, rfl, rfl, rfl, h2, r2⟩ := trodAll_cons r1
  obtain ⟨rfl, rfl, rfl⟩ := trodAll_nil r2
  obtain rfl : args = #[v0, v1, v2] := by cases args; simp_all
  obtain ⟨rfl, rfl⟩ := trodVars_none hV
  obtain ⟨a0, ha0, hn0, hs0⟩ := open_strs Try.underlying22 Try.underlying9 cells9 (hval 0 22 v0 rfl rfl) h0 (fun el sp e => by subst e; exact sized_slice hsz1 (j := 0) (t := 22) (e := 9) rfl rfl Try.underlying22)
  rw [bytes9] at hs0
  have hs0 : a0.length * 16 ≤ 140737488355328 := by have := reachBytes_lt; omega
  obtain ⟨a1, ha1, hn1, hs1⟩ := open_strs Try.underlying22 Try.underlying9 cells9 (hval 1 22 v1 rfl rfl) h1 (fun el sp e => by subst e; exact sized_slice hsz1 (j := 1) (t := 22) (e := 9) rfl rfl Try.underlying22)
  rw [bytes9] at hs1
  have hs1 : a1.length * 16 ≤ 140737488355328 := by have := reachBytes_lt; omega
  obtain ⟨a2, ha2, hn2, hs2⟩ := open_strs Try.underlying22 Try.underlying9 cells9 (hval 2 22 v2 rfl rfl) h2 (fun el sp e => by subst e; exact sized_slice hsz1 (j := 2) (t := 22) (e := 9) rfl rfl Try.underlying22)
  rw [bytes9] at hs2
  have hs2 : a2.length * 16 ≤ 140737488355328 := by have := reachBytes_lt; omega
  refine (ret_calls (law_calls (diffSame_H a0 a1 a2 hs0 hs1 hs2) (reps_cons (slAt_rep ha0 hn0) (reps_cons (slAt_rep ha1 hn1) (reps_cons (slAt_rep ha2 hn2) reps_nil))))).mono fun e W' ⟨_, he, hr, bel⟩ => ?_
  subst he; subst hr
  exact ⟨_, rfl, _, _, _, [], _, [], hW', trodAll_mk1 (shut_bool Try.underlying4 _), trodAll_kept laidOut bel _ _ _ _ (by kernel_rfl) hA1, rfl, bel.frame _, fun h => by cases h⟩
theorem diffSame_holds : Rows.DiffSameSaid :=
  OpenClaim.holds_of_wide 4 Try.f4 rfl rfl rfl rfl rfl rfl rfl ⟨rfl, rfl, rfl, rfl, rfl⟩ rfl rfl rfl rfl rfl (by kernel_rfl) Try.func4 (by kernel_rfl)
    (of_decide_eq_true (by kernel_rfl)) (by unfold Func.isWrapper; first | (rw [if_pos (by decide +kernel)]; kernel_rfl) | (rw [if_neg (by decide +kernel)]; exact ⟨rfl, rfl⟩))
    (fun os started H enc _ => liftedDiffSame os started H enc)
#print axioms diffSame_holds
end Go.Proofs.Ytlfenddhppoflaa
