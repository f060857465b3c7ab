/-
  slices.Delete of a tree, in place.
-/
import Derived.Test.YtkonlklieacjoaaDoorTfl
import Derived.Deep.RegionLaw
import Derived.Shelf.RegionOpenPlain
import Derived.Lib.SliceRun
set_option linter.unusedSimpArgs false
set_option linter.unusedVariables false
set_option maxRecDepth 20000
namespace Go.Proofs.YtkonlklieacjoaaDoor
open Go Go.Eng Go.RowKit Go.Tr Go.Lib
def delCells (l : List Value) (i : Nat) : List Value := l.take (i * 3) ++ l.drop ((i + 1) * 3)
def zEnt3 : List Value := [.string ByteArray.empty, .int .i64 0, .string ByteArray.empty]
theorem zeroCl1 : (Builtin.zeroCells #[.string ByteArray.empty, .int .i64 0, .string ByteArray.empty] 1).toList = zEnt3 := by
 simp [Builtin.zeroCells, zEnt3, List.range, List.range.loop]
theorem splice_take {α : Type} (l : List α) (p : Nat) (cs : List α) (h : p ≤ l.length) : (splice l p cs).take p = l.take p := by
 rw [splice, List.append_assoc, List.take_left' (by rw [List.length_take]; omega)]
theorem splice_take2 {α : Type} (l : List α) (p q : Nat) (cs : List α) (h : p ≤ l.length) (e : q = p + cs.length) : (splice l p cs).take q = l.take p ++ cs := by
 rw [splice, List.take_left' (by rw [List.length_append, List.length_take]; omega)]
set_option maxHeartbeats 4000000 in
set_option maxRecDepth 100000 in
theorem delete_calls (w : World) (g n cap i j : Nat) (cur : Array Value) (hg : Blk w g cur 68) (hn : n ≤ cap) (hcap : cap ≤ maxLen) (hs : cur.size = cap * 3) (hj : j = i + 1) (hi : j ≤ n) (h1 : ∀ u ∈ cur.toList.take (n * 3), u.oneCell' = true) :
  Calls Tryd.prog 55 #[.slice (some ⟨g, 0, none⟩) n cap, .int .i64 i, .int .i64 j] w (Ret fun r w' => r = .slice (some ⟨g, 0, none⟩) (n - 1) cap ∧ Only g w w' ∧ ∃ cur', Blk w' g cur' 68 ∧ cur'.size = cap * 3 ∧ cur'.toList.take ((n - 1) * 3) = delCells (cur.toList.take (n * 3)) i) := by
 have mixed := mixed
 have hcap' : cap ≤ 9223372036854775807 := by simpa [maxLen] using hcap
 obtain ⟨news, hnews⟩ : ∃ news, news = (cur.toList.take (n * 3)).drop (j * 3) := ⟨_, rfl⟩
 have hlen : news.length = (n - j) * 3 := by rw [hnews, List.length_drop, List.length_take, Array.length_toList]; omega
 have hget : ∀ t u, news[t]? = some u → cur[j * 3 + t]? = some u := fun t u hu => by
  rw [hnews, List.getElem?_drop] at hu
  have hlt : j * 3 + t < n * 3 := by
   rcases Nat.lt_or_ge (j * 3 + t) (n * 3) with h | h
   ·exact h
   ·rw [List.getElem?_take_eq_none h] at hu; cases hu
  rw [List.getElem?_take_of_lt hlt, Array.getElem?_toList] at hu
  exact hu
 obtain ⟨A, hA, hsrc⟩ : ∃ A : Addr, (if cap = j then (some ⟨g, 0, none⟩ : Option Addr) else some ⟨g, j * 3, none⟩) = some A ∧ Hid (∀ t u, news[t]? = some u → w.drew.cell? (A.add t) = some u) := by
  by_cases h : cap = j
  ·refine ⟨⟨g, 0, none⟩, by simp [h], fun t u hu => ?_⟩
   have h0 : news.length = 0 := by rw [hlen]; omega
   rw [List.length_eq_zero_iff.1 h0] at hu
   simp at hu
  ·refine ⟨⟨g, j * 3, none⟩, by simp [h], fun t u hu => ?_⟩
   rw [Addr.add_lit]
   have e : w.drew.cell? ⟨g, j * 3 + t, none⟩ = cur[j * 3 + t]? := hg.cell _
   rw [e]
   exact hget t u hu
 have s1 : Hid (news.length = (n - j) * 3) := hlen
 have s2 : Hid (∀ u ∈ news, u.oneCell' = true) := fun u hu => h1 u (by rw [hnews] at hu; exact List.mem_of_mem_drop hu)
 have hgd : Blk w.drew g cur 68 := hg
 have s3 : Hid (∀ t, t < news.length → (w.drew.cell? ⟨g, 0 + i * 3 + t, none⟩).isSome = true ∧ w.drew.frozen? ⟨g, 0 + i * 3 + t, none⟩ = false) := fun t ht => by
  rw [hlen] at ht
  exact ⟨by rw [hgd.cell]; simp; omega, frozen_of_row _ g _ cur 68 hgd⟩
 obtain ⟨b1, o1⟩ := blk_setCells news (i * 3) hgd (by rw [hlen]; omega)
 have hcl : Hid (∀ ty m, (Builtin.clear_ #[22] ty #[.slice (some ⟨g, (i + (n - j)) * 3, none⟩) (n - (i + (n - j))) m]).run Tryd.prog (w.drew.setCells g (i * 3) news) = .ok (.tuple #[]) ((w.drew.setCells g (i * 3) news).setCells g ((i + (n - j)) * 3) zEnt3)) := fun ty m => by
  have e1 : n - (i + (n - j)) = 1 := by omega
  rw [e1]
  obtain ⟨hu, ti, u, hti, h2, h3, h4, h5⟩ := seOf_some (se22)
  have hst := run_storeCells_cells (P := Tryd.prog) g ((i + (n - j)) * 3) zEnt3 0 (w.drew.setCells g (i * 3) news) (fun t ht => by
   rw [b1.cell]; simp [splice, zEnt3] at ht ⊢; omega) (fun t ht => frozen_of_row _ g _ _ 68 b1) (by decide)
  have hz : (Builtin.zeroCells u.cells 1).toList = zEnt3 := by rw [h5]; exact zeroCl1
  simp [Builtin.clear_, run_underlying hu, zeroValue, typeInfo, hti, h4, hz]
  rw [Nat.add_zero] at hst
  rw [hst]
  rfl
 obtain ⟨b2, o2⟩ := blk_setCells zEnt3 ((i + (n - j)) * 3) b1 (by simp [splice, zEnt3]; omega)
 have hfin : Hid (Only g w ((w.drew.setCells g (i * 3) news).setCells g ((i + (n - j)) * 3) zEnt3) ∧ ∃ cur', Blk ((w.drew.setCells g (i * 3) news).setCells g ((i + (n - j)) * 3) zEnt3) g cur' 68 ∧ cur'.size = cap * 3 ∧ cur'.toList.take ((n - 1) * 3) = delCells (cur.toList.take (n * 3)) i) := by
  have o0 : Only g w w.drew := ⟨rfl, rfl, rfl, rfl, fun _ _ => rfl⟩
  have hcl : cur.toList.length = cap * 3 := by rw [Array.length_toList, hs]
  have l1 : (splice cur.toList (i * 3) news).length = cap * 3 := by rw [splice_len _ _ _ (by omega), hcl]
  have hz3 : zEnt3.length = 3 := rfl
  refine ⟨(o0.trans o1).trans o2, _, b2, ?_, ?_⟩
  ·rw [List.size_toArray, splice_len _ _ _ (by rw [l1]; omega), l1]
  ·show List.take _ (splice (splice cur.toList (i * 3) news) _ zEnt3) = _
   rw [show i + (n - j) = n - 1 by omega, splice_take _ _ _ (by rw [l1]; omega), splice_take2 _ _ _ _ (by omega) (by omega), delCells, hnews, List.take_take, Nat.min_eq_left (by omega), hj]
 clear b1 o1 b2 o2 hgd hget hnews hlen
 have hic : i ≤ cap := by omega
 have hjc : j ≤ cap := by omega
 have hnj : Hid (i + (n - j) = n - 1) := (by omega : i + (n - j) = n - 1)
 have hij : i < j := by omega
 have hij2 : ¬ ((i : Int) = (j : Int)) := by omega
 clear hj
 go_enter Tryd.func55, Tryd.ntmps55
 go_wp2_with fail
 go_region_law_o (refine step_append_room rfl (.tmp 22) (.tmp 25) 22 rfl 68 _ 3 Tryd.underlying22 rfl rfl g 0 i cap (by simp [Act.eval, Act.put]) A (n - j) (cap - j) news (by simp [Act.eval, Act.put, hA]) s1.out hsrc.out s2.out (by omega) s3.out ?_)
 go_wp2
 rw [hcl.out]
 go_wp2
 go_ret
 exact ⟨by rw [hnj.out]; rfl, hfin.out⟩
end Go.Proofs.YtkonlklieacjoaaDoor
