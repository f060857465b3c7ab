/-
  Append of a slice that is read onto a row of one's own.
-/
import Derived.Test.YtlfenddhppoflaaSlice
import Derived.Laws.AppendOwnNone
import Derived.Test.YtlfenddhppoflaaOpen
set_option linter.unusedVariables false
set_option linter.unusedSimpArgs false
namespace Go.Eng
open Go Go.RowKit Go.ChangeShapes Go.WideShapes
theorem own_append_sl {P : Program} {w : World} {base t ty e sz by' : Nat} {z : Array Value} {v u : Value} {n m : Nat} {xs : List Value} {cell : Nat → Value} (hse : seOf P t = some (e, sz, by', z)) (hz : z.size = sz) (hsz : 0 < sz) (h : Own w base e sz v n xs)
    (hu : SlAt w u sz m cell) (hnil : m = 0 → u = .slice none 0 0 ∨ ∃ a c, u = .slice (some a) 0 c) (h1 : ∀ j, (cell j).oneCell' = true) (h63 : n + m ≤ maxLen) (hby : (n + m) * by' ≤ 140737488355328) (hbase : base ≤ w.heap.size) :
    ∃ v' w', (Builtin.append_ #[t, t] ty #[v, u]).run P w = .ok v' w' ∧ Own w' base e sz v' (n + m) (xs ++ (List.range (m * sz)).map cell) ∧ w.grownBy w' v.ownBlock := by
  by_cases h0 : m = 0
  · subst h0
    rcases hnil rfl with rfl | ⟨a, c, rfl⟩
    · obtain ⟨hu', i, u, hi, h2, h3, h4, h5⟩ := seOf_some hse
      have := run_append_owned_none (P := P) (w := w) base t ty e i sz hu' hi v n xs h
      refine ⟨v, w, this, ?_, ⟨rfl, rfl, rfl, Nat.le_refl _, fun _ _ _ => rfl⟩⟩
      simpa using h
    · exact own_append hse hz hsz h a 0 c _ (by simp) (by simp) (by simp) h63 hby hbase
  · obtain ⟨a, cap, rfl, hc1, hc2, hc⟩ := hu
    obtain ⟨b, off, rfl, hc'⟩ := hc (by omega)
    refine own_append hse hz hsz h ⟨b, off, none⟩ m cap _ (by simp) (fun j x hx => ?_) (fun x hx => ?_) h63 hby hbase
    · obtain ⟨hj, hx⟩ := List.getElem?_eq_some_iff.1 hx
      simp only [List.length_map, List.length_range] at hj
      simp only [List.getElem_map, List.getElem_range] at hx
      rw [← hx, Addr.add_lit]
      exact hc' j hj
    · obtain ⟨j, -, rfl⟩ := List.mem_map.1 hx
      exact h1 j
/-- a slice without a block has no room -/
def NilOk (v : Value) : Prop := ∀ n c, v = .slice none n c → c = 0
theorem open_nil {H : Type} {enc : TypeId × Value → H} {P : Program} {W : World} {t e : TypeId} {v : Value} {d : DataW H} {p : List MemPlace} {r : Reach} {b0 : Nat} (ht : P.underlying t = some (.slice e))
    (hv : Value.okWide P W r b0 t v) (h : DataW.Trod enc P W 0 (fun _ => true) true t v d p) : NilOk v := by
  obtain ⟨a0, len, cap, rfl⟩ := okWide_slice ht hv
  obtain ⟨fuel, hf⟩ := h
  intro n c hc
  rcases DataW.trod_slice ht hf with ⟨hcs, -⟩ | ⟨a, len', cap', el, rs, k, -, hcs, -⟩
  · simp [Value.cells] at hcs
    obtain ⟨rfl, rfl, rfl⟩ := hcs
    cases hc; rfl
  · simp [Value.cells] at hcs
    obtain ⟨rfl, rfl, rfl⟩ := hcs
    cases hc
theorem app_strs {P : Program} {w : World} {base t ty e by' : Nat} {z : Array Value} {v u : Value} {n : Nat} {xs : List Value} {A : List ByteArray} (hse : seOf P t = some (e, 1, by', z)) (hz : z.size = 1) (h : Own w base e 1 v n xs)
    (hu : SlAt w u 1 A.length (fun j => .string (A.getD j ByteArray.empty))) (hnil : NilOk u) (h63 : n + A.length ≤ maxLen) (hby : (n + A.length) * by' ≤ 140737488355328) (hbase : base ≤ w.heap.size) :
    ∃ v' w', (Builtin.append_ #[t, t] ty #[v, u]).run P w = .ok v' w' ∧ Own w' base e 1 v' (n + A.length) (xs ++ A.map .string) ∧ w.grownBy w' v.ownBlock := by
  have he : (List.range (A.length * 1)).map (fun j => Value.string (A.getD j ByteArray.empty)) = A.map .string := by
    apply List.ext_getElem
    · simp
    · intro i h1 h2
      simp at h1
      simp [List.getD_eq_getElem?_getD, h1]
  rw [← he]
  refine own_append_sl hse hz (by omega) h hu (fun hm => ?_) (fun j => rfl) h63 hby hbase
  obtain ⟨a, cap, rfl, -, -, -⟩ := hu
  rw [hm] at hnil ⊢
  cases a with
  | none => exact .inl (by rw [hnil 0 cap rfl])
  | some a => exact .inr ⟨a, cap, rfl⟩
/-- a row of strings of one's own reads -/
theorem Own.strs {w : World} {base : Nat} {v : Value} {e : TypeId} {n : Nat} {A : List ByteArray} (h : Own w base e 1 v n (A.map .string)) : n = A.length ∧ SlAt w v 1 A.length (fun j => .string (A.getD j ByteArray.empty)) := by
  have hl := h.1
  simp only [List.length_map, Nat.mul_one] at hl
  subst hl
  refine ⟨rfl, (Own.slAt h).congr fun j hj => ?_⟩
  simp only [Nat.mul_one] at hj
  simp [List.getD_eq_getElem?_getD, hj]
end Go.Eng
