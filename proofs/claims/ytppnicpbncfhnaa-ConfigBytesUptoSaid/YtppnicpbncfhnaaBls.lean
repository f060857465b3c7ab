/-
  strings.Builder: its text.
-/
import Derived.Test.YtppnicpbncfhnaaBlw
import Derived.Shelf.Strings.Builder1
set_option linter.unusedSimpArgs false
set_option linter.unusedVariables false
set_option maxRecDepth 20000
namespace Go.Proofs.Ytppnicpbncfhnaa
open Go Go.Eng Go.RowKit
theorem cellsByteBld : Try.prog.cellsOf 5 = 1 := by kernel_rfl
theorem _root_.Go.Eng.Kept.trans' {T T' : Nat → Prop} {w w' : World} (h : Kept T w w') (hT : ∀ k, T k → T' k) : Kept T' w w' := ⟨h.os, h.tape, h.output, h.size, fun k hk hn => h.block k hk fun ht => hn (hT k ht)⟩
theorem kept_drew (T : Nat → Prop) (w : World) : Kept T w w.drew := ⟨rfl, rfl, rfl, Nat.le_refl _, fun _ _ _ => rfl⟩
theorem usNone (W : World) (q : Option Addr) : (Builtin.unsafeString_ #[113, 3] 9 #[.pointer q, .int .i64 0]).run Try.prog W = .ok (.string .empty) W := Lib.run_unsafeString_none W _ _ _ q
section
variable (b : Nat) (p : Value) (w : World)
set_option maxHeartbeats 2000000 in
set_option maxRecDepth 100000 in
theorem str_nil (hbk : w.heap[b]? = some (.cells #[p, .slice none 0 0] 100 (0, 0))) :
    Calls Try.prog 68 #[.pointer (some ⟨b, 0, none⟩)] w fun e w' => e = .returned (.string ⟨#[]⟩) ∧ Kept (fun _ => False) w w' := by
  have hUS := usNone
  have c1 : w.drew.cell? ⟨b, 1, none⟩ = some (.slice none 0 0) := by
    have : w.drew.heap[b]? = some (.cells #[p, .slice none 0 0] 100 (0, 0)) := hbk
    rw [Lib.cell_of_heap this]; rfl
  have hSD : (Builtin.unsafeSliceData_ #[88] 113 #[.slice none 0 0]).run Try.prog w.drew = .ok (.pointer none) w.drew := rfl
  have mixed := mixed
  go_enter Try.func68, Try.ntmps68
  go_wp2
  go_region_o
  all_goals (go_wp2; go_ret; exact ⟨rfl, kept_drew _ w⟩)
set_option maxHeartbeats 2000000 in
set_option maxRecDepth 100000 in
theorem str_noroom (g : Nat) (cur : Array Value) (hbk : w.heap[b]? = some (.cells #[p, .slice (some ⟨g, 0, none⟩) 0 0] 100 (0, 0))) (hg : w.heap[g]? = some (.cells cur 5 (0, 0))) :
    Calls Try.prog 68 #[.pointer (some ⟨b, 0, none⟩)] w fun e w' => e = .returned (.string ⟨#[]⟩) ∧ Kept (fun _ => False) w w' := by
  have hUS := usNone
  have hlt : b < w.heap.size := by
    rcases Nat.lt_or_ge b w.heap.size with h' | h'
    · exact h'
    · simp [Array.getElem?_eq_none h'] at hbk
  have c1 : w.drew.cell? ⟨b, 1, none⟩ = some (.slice (some ⟨g, 0, none⟩) 0 0) := by
    have : w.drew.heap[b]? = some (.cells #[p, .slice (some ⟨g, 0, none⟩) 0 0] 100 (0, 0)) := hbk
    rw [Lib.cell_of_heap this]; rfl
  have hSD : (Builtin.unsafeSliceData_ #[88] 113 #[.slice (some ⟨g, 0, none⟩) 0 0]).run Try.prog w.drew = .ok (.pointer (some ⟨w.drew.heap.size, 0, none⟩)) (w.drew.alloc (.view ⟨g, 0, none⟩ 5)) :=
    Lib.run_unsafeSliceData_zero w.drew _ _ 5 Try.underlying113 ⟨g, 0, none⟩ 0 (5, cur.size) (by have hg' : w.drew.heap[g]? = some (.cells cur 5 (0, 0)) := hg; simp [World.shape?, hg'])
  have c2 : (w.drew.alloc (.view ⟨g, 0, none⟩ 5)).cell? ⟨b, 1, none⟩ = some (.slice (some ⟨g, 0, none⟩) 0 0) := by
    have : (w.drew.alloc (.view ⟨g, 0, none⟩ 5)).heap[b]? = _ := (Lib.alloc_old w.drew _ b hlt).trans hbk
    rw [Lib.cell_of_heap this]; rfl
  have c3 : (w.alloc (.view ⟨g, 0, none⟩ 5)).drew.cell? ⟨b, 1, none⟩ = some (.slice (some ⟨g, 0, none⟩) 0 0) := c2
  have c0 : w.cell? ⟨b, 1, none⟩ = some (.slice (some ⟨g, 0, none⟩) 0 0) := c1
  have mixed := mixed
  go_enter Try.func68, Try.ntmps68
  go_wp2
  go_region_o
  all_goals (go_wp2; go_ret; exact ⟨rfl, ⟨rfl, rfl, rfl, by simp, fun k hk _ => Lib.alloc_old w.drew _ k hk⟩⟩)
set_option maxHeartbeats 2000000 in
set_option maxRecDepth 100000 in
theorem str_room (g cap : Nat) (hc0 : cap ≠ 0) (hbk : w.heap[b]? = some (.cells #[p, .slice (some ⟨g, 0, none⟩) 0 cap] 100 (0, 0))) :
    Calls Try.prog 68 #[.pointer (some ⟨b, 0, none⟩)] w fun e w' => e = .returned (.string ⟨#[]⟩) ∧ Kept (fun _ => False) w w' := by
  have hUS := usNone
  have c1 : w.drew.cell? ⟨b, 1, none⟩ = some (.slice (some ⟨g, 0, none⟩) 0 cap) := by
    have : w.drew.heap[b]? = some (.cells #[p, .slice (some ⟨g, 0, none⟩) 0 cap] 100 (0, 0)) := hbk
    rw [Lib.cell_of_heap this]; rfl
  have hSD : (Builtin.unsafeSliceData_ #[88] 113 #[.slice (some ⟨g, 0, none⟩) 0 cap]).run Try.prog w.drew = .ok (.pointer (some ⟨g, 0, none⟩)) w.drew :=
    Lib.run_unsafeSliceData_row _ _ _ _ _ _ hc0
  clear hc0
  have mixed := mixed
  go_enter Try.func68, Try.ntmps68
  go_wp2
  go_region_o
  all_goals (go_wp2; go_ret; exact ⟨rfl, kept_drew _ w⟩)
set_option maxHeartbeats 2000000 in
set_option maxRecDepth 100000 in
theorem str_some (l : List UInt8) (h0 : l ≠ []) (g cap : Nat) (cur : Array Value) (hnc : l.length ≤ cap) (hcm : cap ≤ maxLen) (hcs : cur.size = cap) (htake : cur.toList.take l.length = Lib.byteCells l)
    (hbk : w.heap[b]? = some (.cells #[p, .slice (some ⟨g, 0, none⟩) l.length cap] 100 (0, 0))) (hg : w.heap[g]? = some (.cells cur 5 (0, 0))) :
    Calls Try.prog 68 #[.pointer (some ⟨b, 0, none⟩)] w fun e w' => e = .returned (.string ⟨l.toArray⟩) ∧ Kept (fun k => k = g) w w' := by
  have hl0 : l.length ≠ 0 := by simpa using h0
  have c1 : w.drew.cell? ⟨b, 1, none⟩ = some (.slice (some ⟨g, 0, none⟩) l.length cap) := by
    have : w.drew.heap[b]? = some (.cells #[p, .slice (some ⟨g, 0, none⟩) l.length cap] 100 (0, 0)) := hbk
    rw [Lib.cell_of_heap this]; rfl
  have hSD : (Builtin.unsafeSliceData_ #[88] 113 #[.slice (some ⟨g, 0, none⟩) l.length cap]).run Try.prog w.drew = .ok (.pointer (some ⟨g, 0, none⟩)) w.drew :=
    Lib.run_unsafeSliceData_row _ _ _ _ _ _ (by omega)
  have hUS : (Builtin.unsafeString_ #[113, 3] 9 #[.pointer (some ⟨g, 0, none⟩), .int .i64 l.length]).run Try.prog w.drew = .ok (.string ⟨l.toArray⟩) (w.drew.freeze ⟨g, 0, none⟩ l.length) := by
    refine Lib.run_unsafeString_row w.drew 113 3 9 5 Try.underlying113 cellsByteBld g cur.size (by have hg' : w.drew.heap[g]? = some (.cells cur 5 (0, 0)) := hg; simp [World.shape?, hg']) l h0 (by omega) (by unfold maxLen at hcm; omega) ?_
    intro j x hx
    have hj : j < l.length := (List.getElem?_eq_some_iff.1 hx).1
    have hg' : w.drew.heap[g]? = some (.cells cur 5 (0, 0)) := hg
    rw [show (({ block := g, off := 0 } : Addr).add j) = ⟨g, j, none⟩ by rw [Addr.add_lit, Nat.zero_add], Lib.cell_of_heap hg']
    have e : (cur.toList.take l.length)[j]? = some (.int .u8 x.toNat) := by rw [htake]; simp [Lib.byteCells, hx]
    rw [List.getElem?_take_of_lt hj] at e
    simpa using e
  have mixed := mixed
  go_enter Try.func68, Try.ntmps68
  go_wp2
  go_region_o
  all_goals
    go_wp2; go_ret
    refine ⟨rfl, ?_⟩
    unfold World.freeze
    split
    · exact kept_drew _ w
    · exact ⟨rfl, rfl, rfl, by simp, fun k hk hne => by
        simp only [Array.getElem?_modify]
        rw [if_neg (Ne.symm hne)]; rfl⟩
end
theorem byteE_cells {w : World} {A : Nat → Prop} {n0 : Nat} {s : ByteArray} {l : List Value} (hl : l.length = (byteE s).length) (h : ∀ i k (hi : i < (byteE s).length) (hk : k < ((byteE s)[i]).length), ∃ u, l[i * 1 + k]? = some u ∧ u.oneCell' = true ∧ RepF w A n0 u (byteE s)[i][k]) : l = Lib.byteCells s.data.toList := by
  have e1 : (byteE s).length = s.data.toList.length := by simp [byteE]
  apply List.ext_getElem?
  intro i
  by_cases hi : i < (byteE s).length
  · have hi' : i < s.data.toList.length := by omega
    have hk : 0 < ((byteE s)[i]).length := by simp only [byteE, List.getElem_map]; simp
    obtain ⟨u, u1, u2, u3⟩ := h i 0 hi hk
    simp only [byteE, List.getElem_map, List.getElem_cons_zero] at u3
    cases u3
    rw [show i * 1 + 0 = i by omega] at u1
    rw [u1]
    simp only [Lib.byteCells, List.getElem?_map, List.getElem?_eq_getElem hi', Option.map_some]
  · rw [List.getElem?_eq_none (by omega), List.getElem?_eq_none (by rw [Lib.byteCells_length]; omega)]
set_option maxHeartbeats 1000000 in
/-- its text: the builder is not written any more -/
theorem str_H (x : HV) (hx : bldA x) (nw : Bool) (els : List (List FV)) (s : ByteArray) (he : els = byteE s) : HFunS Try.prog 68 [.ptr 0 2 0 0] (bldS x nw els) (fun h st => h = .v (.string s) ∧ st = [(0, .bx false 100 [.junk, .junk])]) := fun c w ρ xs vs hw0 G R => by
  subst he
  obtain ⟨g, p, v, hg, hh, hv, hp, hxs, hp1, hp2⟩ := bld_cells hx G
  have hvs : vs = [.pointer (some ⟨g, 0, none⟩)] := by
    obtain ⟨r1, r2⟩ := R
    match vs, r1 with
    | [a], _ =>
      have := r2 0 (by simp) (by simp)
      simp only [List.getElem_cons_zero] at this
      cases this with
      | ptr _ _ _ h => rw [hg] at h; simp only [Value.slice.injEq, Option.some.injEq, Addr.mk.injEq] at h; obtain ⟨⟨rfl, -⟩, -⟩ := h; simp
  subst hvs
  have R1 := G.rows 1 _ (show rlk (bldS x nw (byteE s)) 1 = some (.sl nw 5 1 (byteE s)) from rfl)
  have o := R1.own
  simp only [Row.ty, Row.sz, Row.len] at o
  have hc := byteE_cells (by have := o.1; omega) R1.rep.2
  have e1 : (byteE s).length = s.data.toList.length := by simp [byteE]
  have fin : ∀ e w', (e = .returned (.string ⟨s.data.toList.toArray⟩) ∧ Kept (fun k => (ρ 1).ownBlock = some k) w w') → Ret (fun v w' => ∃ h st' ρ' xs', (∀ i r, rlk st' i = some r → i < 8) ∧ (∀ j, isBx (rlk (bldS x nw (byteE s)) j) → isBx (rlk st' j)) ∧ (h = .v (.string s) ∧ st' = [(0, .bx false 100 [.junk, .junk])]) ∧ Go.Eng.Good c (⟨[], st'⟩ : HS) (fun _ => none) w' ρ' xs' ∧ RepH w' (c.A ρ' st') c.n0 ρ' v h) e w' := by
    rintro e w' ⟨rfl, K⟩
    refine ret_of ⟨_, _, ρ, xs, fun i r hi => ?_, fun j hj => ?_, ⟨rfl, rfl⟩, ⟨fun i r hi => ?_, fun i j r s b hne hi hj => ?_, fun k h hk => by simp [hlk] at hk, G.kept.trans K fun b hb hT => ?_, G.a0⟩, ?_⟩
    · simp only [rlk] at hi
      split at hi
      · omega
      · cases hi
    · by_cases e0 : 0 = j
      · subst e0; exact trivial
      · exfalso; simp only [bldS, rlk, if_neg e0] at hj; split at hj <;> exact hj
    · simp only [rlk] at hi
      split at hi
      · rename_i e0
        subst e0
        simp only [Option.some.injEq] at hi
        subst hi
        have R0 := G.rows 0 _ (show rlk (bldS x nw (byteE s)) 0 = some (.bx false 100 [x, .own 1]) from rfl)
        have hne : ∀ b, (ρ 0).ownBlock = some b → w'.heap[b]? = w.heap[b]? := fun b hb => K.block b (G.lt (show rlk (bldS x nw (byteE s)) 0 = some (.bx false 100 [x, .own 1]) from rfl) hb) fun hb1 => G.apart 0 1 _ _ b (by omega) rfl rfl hb hb1
        refine ⟨?_, ⟨R0.rep.1, fun k hk => ?_⟩, R0.new⟩
        · have := R0.own.block hne
          simpa [Row.ty, Row.sz, Row.len] using this
        · have hk2 : k < 2 := by simpa using hk
          obtain ⟨u, u1, u2, -⟩ := R0.rep.2 k (by simpa using hk2)
          refine ⟨u, u1, u2, ?_⟩
          have : ([HV.junk, HV.junk])[k]'hk = .junk := by
            match k, hk2 with
            | 0, _ => rfl
            | 1, _ => rfl
          rw [this]; exact .junk _
      · cases hi
    · simp only [rlk] at hi hj
      split at hi
      · split at hj
        · omega
        · cases hj
      · cases hi
    · rcases (R1.new b hT).1 with h | h
      · omega
      · exact h
    · have : (⟨s.data.toList.toArray⟩ : ByteArray) = s := by apply ByteArray.ext; simp
      rw [this]; exact .v _
  subst hv
  rcases o.2 with ⟨h1, h2⟩ | ⟨g', cap, cur, h1, hb, hgh, hc1, hc2, hsz, htk⟩
  · have hn : s.data.toList = [] := List.eq_nil_of_length_eq_zero (by omega)
    rw [h1] at hh
    refine (str_nil g p w hh).mono ?_
    rintro e w' ⟨he, K⟩
    exact fin e w' ⟨by rw [he, hn], K.trans' fun k h => h.elim⟩
  · rw [h1] at hh
    rw [Nat.mul_one] at hsz htk
    by_cases h0 : s.data.toList = []
    · have hlen : (byteE s).length = 0 := by rw [e1, h0]; rfl
      rw [hlen] at hh
      by_cases hcap : cap = 0
      · subst hcap
        refine (str_noroom g p w g' cur hh hgh).mono ?_
        rintro e w' ⟨he, K⟩
        exact fin e w' ⟨by rw [he, h0], K.trans' fun k h => h.elim⟩
      · refine (str_room g p w g' cap hcap hh).mono ?_
        rintro e w' ⟨he, K⟩
        exact fin e w' ⟨by rw [he, h0], K.trans' fun k h => h.elim⟩
    · rw [e1] at hh htk hc1
      refine (str_some g p w s.data.toList h0 g' cap cur hc1 hc2 hsz (by rw [htk, hc]) hh hgh).mono ?_
      rintro e w' ⟨he, K⟩
      exact fin e w' ⟨he, K.trans' fun k h => by rw [h1, h]; rfl⟩
end Go.Proofs.Ytppnicpbncfhnaa
