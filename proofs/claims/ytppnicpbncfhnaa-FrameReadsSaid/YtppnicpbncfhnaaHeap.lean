/-
  Memory for the engine: blocks that are known whole, one store at a time; what a step leaves alone.
-/
import Derived.Test.YtppnicpbncfhnaaEng
set_option linter.unusedSimpArgs false
set_option linter.unusedVariables false
namespace Go.Eng
open Go Go.RowKit

/-- Block b holds just these cells, and may be written. -/
def Blk (w : World) (b : Nat) (cs : Array Value) (t : TypeId) : Prop := w.heap[b]? = some (.cells cs t (0, 0))
/-- Nothing but block b has turned. -/
structure Only (b : Nat) (w w' : World) : Prop where
  os : w'.os = w.os
  tape : w'.tape = w.tape
  output : w'.output = w.output
  size : w'.heap.size = w.heap.size
  block : ∀ k, k ≠ b → w'.heap[k]? = w.heap[k]?
section
variable {P : Program} {w w' : World} {b k : Nat} {cs : Array Value} {t : TypeId}
theorem Blk.lt (h : Blk w b cs t) : b < w.heap.size := (Array.getElem?_eq_some_iff.1 h).1
theorem Blk.cell (h : Blk w b cs t) (i : Nat) : w.cell? ⟨b, i, none⟩ = cs[i]? := cell_of_row w b i cs t _ h
theorem Blk.cells (h : Blk w b cs t) {n : Nat} (hn : cs.size = n) : CellsAt w ⟨b, 0, none⟩ n cs := ⟨hn, fun j v hj => by rw [Addr.add_lit, Nat.zero_add, h.cell]; exact hj⟩
theorem Blk.part (h : Blk w b cs t) {o n : Nat} (hn : o + n ≤ cs.size) : CellsAt w ⟨b, o, none⟩ n (cs.extract o (o + n)) := ⟨by simp; omega, fun j v hj => by
  rw [Addr.add_lit, h.cell]
  rw [Array.getElem?_extract] at hj
  split at hj
  · exact hj
  · cases hj⟩
theorem Blk.new (w : World) (cs : Array Value) (t : TypeId) : Blk (w.alloc (.cells cs t)) w.heap.size cs t := by unfold Blk; exact (by show (w.heap.push _)[w.heap.size]? = _; simp)
theorem Blk.alloc (h : Blk w b cs t) (o : Obj) : Blk (w.alloc o) b cs t := by unfold Blk; rw [Below.heap_alloc w o b h.lt]; exact h
theorem Blk.below {B : Nat} (h : Blk w b cs t) (hb : Below B w w') (hB : b < B) : Blk w' b cs t := by unfold Blk; rw [hb.block b hB]; exact h
theorem Blk.up (h : Blk w b cs t) (hb : Below w.heap.size w w') : Blk w' b cs t := h.below hb h.lt
theorem Blk.only {b' : Nat} (h : Blk w b cs t) (ho : Only b' w w') (hne : b ≠ b') : Blk w' b cs t := by unfold Blk; rw [ho.block b hne]; exact h
theorem Only.below {B : Nat} {w0 : World} (ho : Only b w w') (h : Below B w0 w) (hB : B ≤ b) : Below B w0 w' :=
  h.trans ⟨ho.os, ho.tape, ho.output, Nat.le_of_eq ho.size.symm, fun k hk => ho.block k (by omega)⟩
theorem Only.refl (b : Nat) (w : World) : Only b w w := ⟨rfl, rfl, rfl, rfl, fun _ _ => rfl⟩
theorem Only.trans {w'' : World} (h : Only b w w') (h' : Only b w' w'') : Only b w w'' := ⟨h'.os.trans h.os, h'.tape.trans h.tape, h'.output.trans h.output, h'.size.trans h.size, fun k hk => (h'.block k hk).trans (h.block k hk)⟩
theorem Only.cell {a : Addr} (ho : Only b w w') (hne : a.block ≠ b) : w'.cell? a = w.cell? a := World.cell?_of_block (w := w) (ho.block a.block hne)
theorem only_setRow (w : World) (b : Nat) (cs : Array Value) : Only b w (w.setRow b cs) := ⟨rfl, rfl, rfl, by simp, fun k hk => setRow_other w b k cs hk⟩
theorem blk_setRow (h : Blk w b cs t) (cs' : Array Value) : Blk (w.setRow b cs') b cs' t := setRow_heap w b cs cs' t _ h
theorem kindT_size {ty : TypeId} {n : Nat} (h : kindT P ty = some (some n)) (w : World) : (sizeOf ty).run P w = .ok n w := run_sizeOf_agg h w
theorem kindT_one {ty : TypeId} (h : kindT P ty = some none) (w : World) : (sizeOf ty).run P w = .ok 1 w := by
  obtain ⟨_, _, _, _, i, hi, hs⟩ := kindT_scalar h
  simp [sizeOf, typeInfo, hi, hs]
theorem cells_one {v : Value} (hv : v.oneCell' = true) : v.cells = #[v] := by cases v <;> first | rfl | (simp [Value.oneCell'] at hv)
/-- A store of one cell into a known block. -/
theorem store1 {ty : TypeId} {i : Nat} {v : Value} (h : Blk w b cs t) (hk : kindT P ty = some none) (hv : v.oneCell' = true) (hi : i < cs.size) :
    ∃ w', (storeVar ty ⟨b, i, none⟩ v).run P w = .ok () w' ∧ Blk w' b (cs.setIfInBounds i v) t ∧ Only b w w' := by
  refine ⟨w.setRow b (cs.setIfInBounds i v), ?_, blk_setRow h _, only_setRow w b _⟩
  have hc : w.cell? ⟨b, i, none⟩ = some cs[i] := by rw [h.cell]; simp [hi]
  have hf : w.frozen? ⟨b, i, none⟩ = false := frozen_of_row w b i cs t h
  simp only [storeVar, Sem.run_bind, kindT_one hk, Result.andThen_ok, cells_one hv]
  simp [storeCells, Sem.run_bind, Addr.add_zero', run_store P w _ v _ hv, hc, hf, setCell_eq_setRow w b i cs t _ v h]
/-- A store of a struct over a whole known block. -/
theorem storeAll {ty : TypeId} {vs : Array Value} (h : Blk w b cs t) (hk : kindT P ty = some (some vs.size)) (hv : vs.all (·.oneCell') = true) (hs : cs.size = vs.size) :
    ∃ w', (storeVar ty ⟨b, 0, none⟩ (.agg vs)).run P w = .ok () w' ∧ Blk w' b vs t ∧ Only b w w' := by
  refine ⟨w.setRow b vs, ?_, blk_setRow h _, only_setRow w b _⟩
  obtain ⟨⟨i, hi, hn⟩, _⟩ := kindT_agg hk
  exact run_storeVar_row w b t ty cs vs h (by simp [hi, hn]) hs hv
end
/-- a call in a drawn region: from what it does at each world above -/
theorem drawn_calls {P : Program} {f : FuncId} {args : Array Value} {v : Value} {w0 : World} (h : ∀ w', Below w0.heap.size w0 w' → Calls P f args w' (Ret fun u w'' => u = v ∧ Below w'.heap.size w' w'')) :
    ∀ w', Below w0.heap.size w0 w' → Calls P f args w' (Ret fun u w'' => u = v ∧ Below w0.heap.size w0 w'') :=
  fun w' hw => Ret.mono (h w' hw) fun _ _ hu => ⟨hu.1, hw.trans (hu.2.mono hw.size)⟩
end Go.Eng
