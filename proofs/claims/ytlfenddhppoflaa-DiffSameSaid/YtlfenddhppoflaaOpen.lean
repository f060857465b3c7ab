/-
  A slice of strings that is handed in, as the engine reads it.
-/
import Derived.Test.YtlfenddhppoflaaSlice
import Derived.Test.YtlfenddhppoflaaLift
import Derived.SliceStrings
set_option linter.unusedVariables false
namespace Go.Eng
open Go Go.RowKit Go.ChangeShapes Go.WideShapes
theorem open_sls {H : Type} {enc : TypeId × Value → H} {P : Program} {W : World} {t e : TypeId} {v : Value} {d : DataW H} {p : List MemPlace} {r : Reach} {b0 : Nat} (ht : P.underlying t = some (.slice e)) (he : P.underlying e = some .string) (hc : P.cellsOf e = 1)
    (hv : Value.okWide P W r b0 t v) (h : DataW.Trod enc P W 0 (fun _ => true) true t v d p) : ∃ a : List ByteArray, SlAt W v 1 a.length (fun j => .string (a.getD j ByteArray.empty)) := by
  obtain ⟨a0, len, cap, rfl⟩ := okWide_slice ht hv
  obtain ⟨fuel, hf⟩ := h
  rcases open_strings ht he hc hf with ⟨hcs, -⟩ | ⟨a, len', cap', ss, hcs, -, hle, hmax, hall, -, hcell, -⟩
  · simp [Value.cells] at hcs
    obtain ⟨rfl, rfl, rfl⟩ := hcs
    exact ⟨[], none, 0, rfl, Nat.le_refl _, Nat.zero_le _, fun h => absurd h (Nat.lt_irrefl _)⟩
  · simp [Value.cells] at hcs
    obtain ⟨rfl, rfl, rfl⟩ := hcs
    simp only [if_true] at hall
    have hl : (ss.take len).length = len := by rw [List.length_take]; omega
    refine ⟨ss.take len, some a, cap, by rw [hl], by omega, hmax, fun h0 => ?_⟩
    rw [hl] at h0 ⊢
    have hspot : a.spot = none := by
      have := hcell 0 (by omega)
      unfold Addr.add World.cell? at this
      rw [if_pos rfl] at this
      split at this
      · cases hs : a.spot with
        | none => rfl
        | some k => simp [hs] at this
      · cases this
    obtain ⟨b, off, spot⟩ := a
    simp only at hspot
    subst hspot
    refine ⟨b, off, rfl, fun j hj => ?_⟩
    have := hcell j (by omega)
    rw [Addr.add_lit] at this
    rw [this]
    have hj' : j < len := by omega
    simp [List.getD_eq_getElem?_getD, hj']
end Go.Eng
