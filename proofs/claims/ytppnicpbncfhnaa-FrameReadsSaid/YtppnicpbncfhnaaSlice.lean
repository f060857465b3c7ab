/-
  Slices for the engine: slices that are read; rows that the call owns, appended to and stored into.
-/
import Derived.Test.YtppnicpbncfhnaaHeap
import Derived.Laws.OwnMore
import Derived.Great.BuildSlice
set_option linter.unusedSimpArgs false
set_option linter.unusedVariables false
namespace Go.Eng
open Go Go.RowKit

/-- A slice value of n elements of sz cells each, whose cells read as told. -/
def SlAt (w : World) (v : Value) (sz n : Nat) (cell : Nat → Value) : Prop :=
  ∃ a cap, v = .slice a n cap ∧ n ≤ cap ∧ cap ≤ maxLen ∧ (0 < n → ∃ b off, a = some ⟨b, off, none⟩ ∧ ∀ j, j < n * sz → w.cell? ⟨b, off + j, none⟩ = some (cell j))
theorem SlAt.le {w : World} {v : Value} {sz n : Nat} {cell : Nat → Value} (h : SlAt w v sz n cell) : n ≤ maxLen := by
  obtain ⟨a, cap, _, h1, h2, _⟩ := h; omega
/-- it reads on, above -/
theorem SlAt.up {w w' : World} {v : Value} {sz n : Nat} {cell : Nat → Value} (h : SlAt w v sz n cell) (hb : Below w.heap.size w w') : SlAt w' v sz n cell := by
  obtain ⟨a, cap, hv, h1, h2, h3⟩ := h
  refine ⟨a, cap, hv, h1, h2, fun hn => ?_⟩
  obtain ⟨b, off, ha, hc⟩ := h3 hn
  exact ⟨b, off, ha, fun j hj => below_cell hb (hc j hj)⟩
theorem SlAt.congr {w : World} {v : Value} {sz n : Nat} {c1 c2 : Nat → Value} (h : SlAt w v sz n c1) (he : ∀ j, j < n * sz → c1 j = c2 j) : SlAt w v sz n c2 := by
  obtain ⟨a, cap, hv, h1, h2, h3⟩ := h
  refine ⟨a, cap, hv, h1, h2, fun hn => ?_⟩
  obtain ⟨b, off, ha, hc⟩ := h3 hn
  exact ⟨b, off, ha, fun j hj => by rw [← he j hj]; exact hc j hj⟩
/-- what the slice's element type is: the element, its cells, its bytes, its zero -/
def seOf (P : Program) (t : TypeId) : Option (Nat × Nat × Nat × Array Value) :=
  match P.underlying t with
  | some (.slice e) => match P.info? e with
    | some i => match i.zero with
      | some z => some (e, i.size, i.bytes, z.cells)
      | none => none
    | none => none
  | _ => none
theorem seOf_some {P : Program} {t e sz by' : Nat} {z : Array Value} (h : seOf P t = some (e, sz, by', z)) :
    P.underlying t = some (.slice e) ∧ ∃ i u, P.info? e = some i ∧ i.size = sz ∧ i.bytes = by' ∧ i.zero = some u ∧ u.cells = z := by
  unfold seOf at h
  split at h
  · rename_i e' he
    split at h
    · rename_i i hi
      split at h
      · rename_i u hu
        simp only [Option.some.injEq, Prod.mk.injEq] at h
        obtain ⟨rfl, h2, h3, h4⟩ := h
        exact ⟨he, i, u, hi, h2, h3, hu, h4⟩
      · cases h
    · cases h
  · cases h
/-- A row of the call's own. -/
abbrev Own (w : World) (base : Nat) (e : TypeId) (sz : Nat) (v : Value) (n : Nat) (xs : List Value) : Prop := w.ownsRow base e sz v n xs
theorem Own.slAt {w : World} {base : Nat} {e : TypeId} {sz : Nat} {v : Value} {n : Nat} {xs : List Value} (h : Own w base e sz v n xs) : SlAt w v sz n (fun j => xs.getD j undef) := by
  have hl := h.1
  rcases h.2 with ⟨rfl, rfl⟩ | ⟨g, cap, cur, rfl, hb, hg, hn, hm, hs, ht⟩
  · exact ⟨none, 0, rfl, Nat.le_refl _, Nat.zero_le _, fun h => absurd h (Nat.lt_irrefl _)⟩
  · refine ⟨_, cap, rfl, hn, hm, fun _ => ⟨g, 0, rfl, fun j hj => ?_⟩⟩
    rw [Nat.zero_add, World.ownsRow.cellAt h j hj]
    have : j < xs.length := by omega
    simp [this]
theorem Own.up {w w' : World} {base : Nat} {e : TypeId} {sz : Nat} {v : Value} {n : Nat} {xs : List Value} (h : Own w base e sz v n xs) (hb : Below w.heap.size w w') : Own w' base e sz v n xs := by
  refine ⟨h.1, ?_⟩
  rcases h.2 with hn | ⟨g, cap, cur, hv, hbg, hg, r⟩
  · exact .inl hn
  · exact .inr ⟨g, cap, cur, hv, hbg, by rw [hb.block g (Array.getElem?_eq_some_iff.1 hg).1]; exact hg, r⟩
theorem Own.only {w w' : World} {base b : Nat} {e : TypeId} {sz : Nat} {v : Value} {n : Nat} {xs : List Value} (h : Own w base e sz v n xs) (ho : Only b w w') (hne : v.ownBlock ≠ some b) : Own w' base e sz v n xs := by
  refine ⟨h.1, ?_⟩
  rcases h.2 with hn | ⟨g, cap, cur, rfl, hbg, hg, r⟩
  · exact .inl hn
  · refine .inr ⟨g, cap, cur, rfl, hbg, ?_, r⟩
    rw [ho.block g (fun e => hne (by simp [Value.ownBlock, e]))]; exact hg
/-- nothing that was there has turned, but for the row's own block -/
theorem grown_below {B : Nat} {w0 w w' : World} {row : Option Nat} (h : Below B w0 w) (hg : w.grownBy w' row) (hB : B ≤ w.heap.size) (hr : ∀ k, row = some k → B ≤ k) : Below B w0 w' := h.grown hg hB hr
theorem grown_blk {w w' : World} {row : Option Nat} {b : Nat} {cs : Array Value} {t : TypeId} (h : Blk w b cs t) (hg : w.grownBy w' row) (hne : row ≠ some b) : Blk w' b cs t := by
  unfold Blk; rw [hg.block b h.lt (fun e => hne e.symm)]; exact h
theorem Own.base_le {w : World} {base : Nat} {e : TypeId} {sz : Nat} {v : Value} {n : Nat} {xs : List Value} (h : Own w base e sz v n xs) : ∀ k, v.ownBlock = some k → base ≤ k := fun k hk => (h.lt k hk).1
/-- append, of some elements that lie together. -/
theorem own_append {P : Program} {w : World} {base t ty e sz by' : Nat} {z : Array Value} {v : Value} {n : Nat} {xs : List Value} (hse : seOf P t = some (e, sz, by', z)) (hz : z.size = sz) (hsz : 0 < sz) (h : Own w base e sz v n xs)
    (a : Addr) (m c : Nat) (news : List Value) (hl : news.length = m * sz) (hnews : ∀ j u, news[j]? = some u → w.cell? (a.add j) = some u) (h1 : ∀ u ∈ news, u.oneCell' = true)
    (h63 : n + m ≤ maxLen) (hby : (n + m) * by' ≤ 140737488355328) (hbase : base ≤ w.heap.size) :
    ∃ v' w', (Builtin.append_ #[t, t] ty #[v, .slice (some a) m c]).run P w = .ok v' w' ∧ Own w' base e sz v' (n + m) (xs ++ news) ∧ w.grownBy w' v.ownBlock := by
  obtain ⟨hu, i, u, hi, h2, h3, h4, h5⟩ := seOf_some hse
  obtain ⟨v', w', r1, r2, r3, _⟩ := run_append_own (P := P) w base t ty e i u sz by' hu hi h4 h2 h3 (by rw [h5, hz]) hsz v n xs h a m c news hl hnews h1 h63 hby hbase
  exact ⟨v', w', r1, r2, r3⟩
/-- a new row of zeros -/
theorem own_make {P : Program} {w : World} {t e sz by' : Nat} {z : Array Value} (hse : seOf P t = some (e, sz, by', z)) (n : Nat) (hby : by' * n ≤ 281474976710656) (h63 : n ≤ maxLen) :
    ∃ w', (Instr.makeSlice t (.int .i64 (n : Int)) (.int .i64 (n : Int))).run P w = .ok (.slice (some ⟨w.heap.size, 0, none⟩) n n) w' ∧
      Own w' w.heap.size e sz (.slice (some ⟨w.heap.size, 0, none⟩) n n) n (madeCells z (n * sz)).toList ∧ Below w.heap.size w w' ∧ w.heap.size < w'.heap.size := by
  obtain ⟨hu, i, u, hi, h2, h3, h4, h5⟩ := seOf_some hse
  obtain ⟨w', r1, r2, r3⟩ := run_make_full (P := P) w w.heap.size t e i u sz hu hi h4 h2 .i64 .i64 n (by rw [h3]; exact hby) h63 (Nat.le_refl _)
  rw [h5] at r2
  exact ⟨w', r1, r2, (Below.refl _ _).grown r3 (Nat.le_refl _) (fun k hk => by cases hk), (r2.lt _ rfl).2⟩
/-- a new row of what is written out -/
theorem own_new (w : World) (cs : Array Value) (e sz n base : Nat) (hs : cs.size = n * sz) (hm : n ≤ maxLen) (hb : base ≤ w.heap.size) : Own (w.alloc (.cells cs e)) base e sz (.slice (some ⟨w.heap.size, 0, none⟩) n n) n cs.toList :=
  ⟨by simpa using hs, .inr ⟨w.heap.size, n, cs, rfl, hb, Blk.new w cs e, Nat.le_refl _, hm, hs, by rw [← hs, ← Array.length_toList, List.take_length]⟩⟩
/-- a literal -/
theorem own_lit {P : Program} {w : World} {t e sz by' len : Nat} {z : Array Value} {parts : Array (Nat × Value)} (cs : Array Value) (hse : seOf P t = some (e, sz, by', z)) (hl : len * sz ≤ 16777216) (hm : len ≤ maxLen)
    (h : Instr.fill (fun i => some (i * sz, sz)) ((Array.range (len * sz)).map (z[· % z.size]!)) parts.toList = some cs) (hs : cs.size = len * sz) :
    ∃ w', (Instr.buildSlice t len parts).run P w = .ok (.slice (some ⟨w.heap.size, 0, none⟩) len len) w' ∧ Own w' w.heap.size e sz (.slice (some ⟨w.heap.size, 0, none⟩) len len) len cs.toList ∧ Below w.heap.size w w' ∧ w.heap.size < w'.heap.size := by
  obtain ⟨hu, i, u, hi, h2, h3, h4, h5⟩ := seOf_some hse
  refine ⟨w.alloc (.cells cs e), ?_, own_new w cs e sz len _ hs hm (Nat.le_refl _), (Below.refl _ _).alloc (Nat.le_refl _) _, by show _ < (w.heap.push _).size; simp⟩
  by_cases h0 : len * i.size = 0
  · have hr : len * sz = 0 := by rw [← h2]; exact h0
    rw [hr] at h
    rw [show (Array.range 0).map (fun x => z[x % z.size]!) = #[] by simp] at h
    simp [Instr.buildSlice, run_underlying hu, sizeOf, typeInfo, hi, h0, newRow, Sem.run_bind]
    rw [← h2] at h
    rw [show Array.map (fun x => (default : Value)) (Array.range 0) = #[] by simp, h]
    simp [Sem.run_bind]
  · refine run_buildSlice w t e len parts cs i u hu hi h4 (by rw [h2]; omega) h0 ?_
    rw [h2, h5]; exact h
theorem madeCells_one (x : Value) (n : Nat) : (madeCells #[x] (n * 1)).toList.toArray = Array.replicate n x := by
  rw [Nat.mul_one, Array.toArray_toList]
  apply Array.ext
  · simp [madeCells]
  · intro i h1 h2
    simp [madeCells, Nat.mod_one]
theorem Own.form {w : World} {base n sz : Nat} {v : Value} {e : TypeId} {xs : List Value} (h : Own w base e sz v n xs) : ∃ ad cap, v = .slice ad n cap ∧ (0 < n → ∃ g, ad = some ⟨g, 0, none⟩ ∧ base ≤ g ∧ g < w.heap.size ∧ ∀ j u, xs[j]? = some u → w.cell? ⟨g, j, none⟩ = some u) := by
  have hl := h.1
  have hh := h
  rcases h.2 with ⟨rfl, rfl⟩ | ⟨g, cap, cur, rfl, hb, hg, hn, hm, hs, ht⟩
  · exact ⟨_, _, rfl, fun h => absurd h (Nat.lt_irrefl _)⟩
  · refine ⟨_, _, rfl, fun _ => ⟨g, rfl, hb, (Array.getElem?_eq_some_iff.1 hg).1, fun j u hj => ?_⟩⟩
    have hlt : j < xs.length := (List.getElem?_eq_some_iff.1 hj).1
    rw [World.ownsRow.cellAt hh j (by omega), hj]
/-- a row lies in no block of another type -/
theorem Own.ne_blk {w : World} {base n sz b : Nat} {v : Value} {e t : TypeId} {xs : List Value} {cs : Array Value} (h : Own w base e sz v n xs) (hb : Blk w b cs t) (hne : t ≠ e) : v.ownBlock ≠ some b := by
  rcases h.2 with ⟨rfl, rfl⟩ | ⟨g, cap, cur, rfl, hbg, hg, r⟩
  · simp [Value.ownBlock]
  · simp only [Value.ownBlock]
    intro he
    injection he with he
    subst he
    rw [show w.heap[g]? = _ from hb] at hg
    simp only [Option.some.injEq, Obj.cells.injEq] at hg
    exact hne hg.2.1
/-- a full row is a block -/
theorem Own.blk {w : World} {base g n : Nat} {e : TypeId} {xs : List Value} (h : Own w base e 1 (.slice (some ⟨g, 0, none⟩) n n) n xs) : Blk w g xs.toArray e ∧ base ≤ g ∧ xs.length = n := by
  have hl := h.1
  rcases h.2 with ⟨hv, _⟩ | ⟨g', cap', cur, hv, hb, hg, hn, hm, hs, ht⟩
  · cases hv
  · cases hv
    refine ⟨?_, hb, by omega⟩
    rw [List.take_of_length_le (by rw [Array.length_toList]; omega)] at ht
    rw [← ht]; exact hg
/-- a store into a row of one's own -/
theorem own_store {P : Program} {w : World} {base e sz n cap g i ty : Nat} {xs : List Value} {u : Value} (h : Own w base e sz (.slice (some ⟨g, 0, none⟩) n cap) n xs) (hk : kindT P ty = some none) (hu : u.oneCell' = true) (hi : i < n * sz) :
    ∃ w', (storeVar ty ⟨g, i, none⟩ u).run P w = .ok () w' ∧ Own w' base e sz (.slice (some ⟨g, 0, none⟩) n cap) n (xs.set i u) ∧ Only g w w' := by
  have hl := h.1
  rcases h.2 with ⟨hv, _⟩ | ⟨g', cap', cur, hv, hb, hg, hn, hm, hs, ht⟩
  · cases hv
  · cases hv
    have hlt : i < cur.size := by rw [hs]; exact Nat.lt_of_lt_of_le hi (Nat.mul_le_mul_right _ hn)
    obtain ⟨w', h1, h2, h3⟩ := store1 (P := P) (ty := ty) (i := i) (v := u) (show Blk w g cur e from hg) hk hu hlt
    refine ⟨w', h1, ⟨by rw [List.length_set]; exact hl, .inr ⟨g, cap, _, rfl, hb, h2, hn, hm, by simpa using hs, ?_⟩⟩, h3⟩
    rw [← ht, Array.toList_setIfInBounds, List.take_set]
end Go.Eng
