/-
  HunkApplies: what is handed in, and how much it holds.
-/
import Derived.Test.YtlfenddhppoflaaHav
import Derived.Test.YtlfenddhppoflaaUpt
set_option linter.unusedVariables false
set_option linter.unusedSimpArgs false
namespace Go.Proofs.Ytlfenddhppoflaa
open Go Go.Eng Go.RowKit
theorem fit_hkz {b1 b2 b3 : Nat} {f : FV} (h : Fit (.sl b1 [.int .i64, .sl b2 [.str], .sl b3 [.str]]) f) : ∃ H : List HkZ, f = .lst false (hkz false H) ∧ (∀ x ∈ H, -9223372036854775808 ≤ x.at_ ∧ x.at_ ≤ 9223372036854775807) := by
  cases h with
  | sl hb hl h =>
  rename_i xs
  have key : ∀ x ∈ xs, ∃ y : HkZ, x = hkzE false y ∧ -9223372036854775808 ≤ y.at_ ∧ y.at_ ≤ 9223372036854775807 := fun x hx => by
    have h1 := hl x hx
    match x, h1 with
    | [f, g, k], _ =>
      obtain ⟨n, rfl, hn⟩ := fit_int (h _ hx 0 (by simp) (by simp))
      obtain ⟨u, hu, -⟩ := fit_strs (h _ hx 1 (by simp) (by simp))
      obtain ⟨v, hv, -⟩ := fit_strs (h _ hx 2 (by simp) (by simp))
      simp only [List.getElem_cons_succ, List.getElem_cons_zero] at hu hv
      subst hu hv
      exact ⟨⟨n, u, v⟩, rfl, (i64_of_wf hn).1, (i64_of_wf hn).2⟩
  obtain ⟨H, e, hH⟩ : ∃ H : List HkZ, xs = H.map (hkzE false) ∧ ∀ y ∈ H, -9223372036854775808 ≤ y.at_ ∧ y.at_ ≤ 9223372036854775807 := by
    clear hb hl h
    induction xs with
    | nil => exact ⟨[], rfl, fun y hy => by simp at hy⟩
    | cons x r ih =>
      obtain ⟨y, e, h2⟩ := key x (by simp)
      obtain ⟨H, e', h3⟩ := ih fun z hz => key z (by simp [hz])
      refine ⟨y :: H, by rw [List.map_cons, ← e, ← e'], fun z hz => ?_⟩
      rcases List.mem_cons.1 hz with rfl | hz
      · exact h2
      · exact h3 z hz
  exact ⟨H, by rw [e]; rfl, hH⟩
theorem len_sum (a : List ByteArray) : a.length ≤ (a.map fun s => s.size + 1).sum := by
  induction a with
  | nil => exact Nat.zero_le _
  | cons x r ih => simp only [List.map_cons, List.sum_cons, List.length_cons]; omega
theorem fw_hkz (fr : Bool) (H : List HkZ) : newsum H ≤ fw (.lst fr (hkz fr H)) ∧ H.length ≤ fw (.lst fr (hkz fr H)) ∧ ∀ x ∈ H, x.old.length ≤ fw (.lst fr (hkz fr H)) := by
  rw [fw_lst]
  induction H with
  | nil => exact ⟨Nat.zero_le _, Nat.zero_le _, fun x hx => by simp at hx⟩
  | cons h r ih =>
    obtain ⟨i1, i2, i3⟩ := ih
    have e : fws (hkzE fr h) = fw (.v (.int .i64 h.at_)) + (1 + (h.old.map fun s => s.size + 1).sum + (1 + (h.new.map fun s => s.size + 1).sum)) := by
      simp only [fws, hkzE, List.map_cons, List.map_nil, List.sum_cons, List.sum_nil, fw_strs]; omega
    have l1 := len_sum h.old
    have l2 := len_sum h.new
    simp only [hkz, List.map_cons, List.sum_cons, newsum, List.length_cons] at i1 i2 i3 ⊢
    rw [e]
    refine ⟨by omega, by omega, fun x hx => ?_⟩
    rcases List.mem_cons.1 hx with rfl | hx
    · omega
    · have := i3 x hx; omega
theorem hunkApplies_all (a : List ByteArray) (H : List HkZ) (hs0 : a.length * 16 ≤ reachBytes) (hs1 : ∀ x ∈ H, -9223372036854775808 ≤ x.at_ ∧ x.at_ ≤ 9223372036854775807) (hu : fw (.lst false (strs a)) + (fw (.lst false (hkz false H)) + 0) ≤ 1048576) :
    HFun Try.prog 9 [.lst false (strs a), .lst false (hkz false H)] (fun h st => h = .v (.bool true)) := by
  rw [fw_strs] at hu
  have h0 := len_sum a
  obtain ⟨h1, h2, h3⟩ := fw_hkz false H
  exact hunkApplies_law a H (by omega) hs1 (by omega) (fun x hx => by have := h3 x hx; omega)
end Go.Proofs.Ytlfenddhppoflaa
