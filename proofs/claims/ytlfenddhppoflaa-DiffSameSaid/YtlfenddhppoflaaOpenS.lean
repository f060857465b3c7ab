/-
  A slice of strings that is handed in, with its size.
-/
import Derived.Test.YtlfenddhppoflaaApp
import Derived.SizedLaws
import Derived.Test.YtlfenddhppoflaaEnc
set_option linter.unusedVariables false
set_option linter.unusedSimpArgs false
namespace Go.Eng
open Go Go.RowKit Go.ChangeShapes Go.WideShapes
theorem open_strs {H : Type} {enc : TypeId × Value → H} {P : Program} {W : World} {t e : TypeId} {v : Value} {d : DataW H} {p : List MemPlace} {r : Reach} {b0 : Nat} (ht : P.underlying t = some (.slice e)) (he : P.underlying e = some .string) (hc : P.cellsOf e = 1)
    (hv : Value.okWide P W r b0 t v) (h : DataW.Trod enc P W 0 (fun _ => true) true t v d p) (hs : ∀ el sp, d = .slice el sp → (el.length + sp.length) * P.bytesOf e ≤ reachBytes) :
    ∃ a : List ByteArray, SlAt W v 1 a.length (fun j => .string (a.getD j ByteArray.empty)) ∧ NilOk v ∧ a.length * P.bytesOf e ≤ reachBytes := by
  obtain ⟨a, ha⟩ := open_sls ht he hc hv h
  refine ⟨a, ha, open_nil ht hv h, ?_⟩
  obtain ⟨fuel, hf⟩ := h
  obtain ⟨ad, cap, rfl, h1, h2, h3⟩ := ha
  rcases open_strings ht he hc hf with ⟨hcs, -⟩ | ⟨a', len', cap', ss, hcs, -, hle, hmax, hall, hx, -, -⟩
  · simp [Value.cells] at hcs
    rw [hcs.2.1]; simp
  · simp [Value.cells] at hcs
    obtain ⟨rfl, h4, rfl⟩ := hcs
    simp only [if_true] at hall
    simp only [Prod.mk.injEq] at hx
    have := hs _ _ hx.1
    simp only [_root_.Go.ChangeShapes.strs, List.length_map, List.length_take, List.length_drop] at this
    refine Nat.le_trans (Nat.mul_le_mul_right _ ?_) this
    omega
theorem slAt_rep {w : World} {v : Value} {a : List ByteArray} (h : SlAt w v 1 a.length (fun j => .string (a.getD j ByteArray.empty))) (hn : NilOk v) : RepH w (fun _ => False) w.heap.size (fun _ => undef) v (.lst false (Eng.strs a)) := by
  obtain ⟨ad, cap, rfl, h1, h2, h3⟩ := h
  refine .lst (.lst 1 (fun i _ => .string (a.getD i ByteArray.empty)) (strs_len a) h1 h2 (fun e => by subst e; exact hn _ _ rfl) (fun x hx => ?_) (fun h0 => ?_) (fun _ _ _ _ => rfl) (fun i k hi hk => ?_))
  · obtain ⟨s, -, rfl⟩ := List.mem_map.1 hx; rfl
  · obtain ⟨b, off, rfl, hc⟩ := h3 h0
    refine ⟨b, off, rfl, fun h => h, ?_, fun h => (by cases h), fun i k hi hk => ?_⟩
    · exact World.block_lt_of_cell? w ⟨b, off + 0, none⟩ (hc 0 (by omega))
    · have hk0 : k = 0 := by omega
      subst hk0
      rw [Nat.mul_one, Nat.add_zero]
      exact hc i (by omega)
  · have hi' : i < a.length := by rw [strs_len] at hi; exact hi
    have hk0 : k = 0 := by simpa [Eng.strs, strE] using hk
    subst hk0
    simp only [Eng.strs, List.getElem_map, strE, List.getElem_cons_zero]
    have : a.getD i ByteArray.empty = a[i] := by simp [List.getD_eq_getElem?_getD, hi']
    rw [this]
    exact .v _
theorem reps_nil {w : World} {A : Nat → Prop} {n0 : Nat} {ρ : Nat → Value} : Reps w A n0 ρ [] [] := ⟨rfl, fun i a => absurd a (by simp)⟩
theorem reps_cons {w : World} {A : Nat → Prop} {n0 : Nat} {ρ : Nat → Value} {v : Value} {h : HV} {vs : List Value} {hs : List HV} (a : RepH w A n0 ρ v h) (b : Reps w A n0 ρ vs hs) : Reps w A n0 ρ (v :: vs) (h :: hs) :=
  ⟨by simp [b.1], fun i p q => by
    cases i with
    | zero => exact a
    | succ i => exact b.2 i (by simpa using p) (by simpa using q)⟩
end Go.Eng
