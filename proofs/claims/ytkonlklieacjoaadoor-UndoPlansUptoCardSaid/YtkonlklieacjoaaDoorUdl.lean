/-
  slices.Delete of changes, in aQ.
-/
import Derived.Test.YtkonlklieacjoaaDoorPln
import Derived.Test.YtkonlklieacjoaaDoorUnA
import Derived.Test.YtkonlklieacjoaaDoorTpA
import Derived.Deep.RegionLaw
import Derived.Shelf.RegionOpenPlain
import Derived.Lib.SliceRun
set_option linter.unusedSimpArgs false
set_option linter.unusedVariables false
set_option maxRecDepth 20000
namespace Go.Proofs.YtkonlklieacjoaaDoor
open Go Go.Eng Go.RowKit Go.Tr Go.Lib
def qJ (l : List Value) (i : Nat) : List Value := l.take (i * 14) ++ l.drop ((i + 1) * 14)
def zChg : List Value := [.string ByteArray.empty, .int .i64 0, .int .i64 0, .string ByteArray.empty, .int .i64 0, .string ByteArray.empty, .int .i64 0, .string ByteArray.empty, .int .i64 0, .string ByteArray.empty, .int .i64 0, .string ByteArray.empty, .int .i64 0, .string ByteArray.empty]
theorem zKa : (Builtin.zeroCells #[.string ByteArray.empty, .int .i64 0, .int .i64 0, .string ByteArray.empty, .int .i64 0, .string ByteArray.empty, .int .i64 0, .string ByteArray.empty, .int .i64 0, .string ByteArray.empty, .int .i64 0, .string ByteArray.empty, .int .i64 0, .string ByteArray.empty] 1).toList = zChg := by
 simp [Builtin.zeroCells, zChg, List.range, List.range.loop]
set_option maxHeartbeats 4000000 in
set_option maxRecDepth 100000 in
theorem qNj (w : World) (g n cap i j : Nat) (cur : Array Value) (hg : Blk w g cur 58) (hn : n ≤ cap) (hcap : cap ≤ maxLen) (hs : cur.size = cap * 14) (hj : j = i + 1) (hi : j ≤ n) (h1 : ∀ u ∈ cur.toList.take (n * 14), u.oneCell' = true) :
  Calls Tryd.prog 72 #[.slice (some ⟨g, 0, none⟩) n cap, .int .i64 i, .int .i64 j] w (Ret fun r w' => r = .slice (some ⟨g, 0, none⟩) (n - 1) cap ∧ Only g w w' ∧ ∃ cur', Blk w' g cur' 58 ∧ cur'.size = cap * 14 ∧ cur'.toList.take ((n - 1) * 14) = qJ (cur.toList.take (n * 14)) i) := by
 have mixed := mixed
 have hcap' : cap ≤ 9223372036854775807 := by simpa [maxLen] using hcap
 obtain ⟨news, hnews⟩ : ∃ news, news = (cur.toList.take (n * 14)).drop (j * 14) := ⟨_, rfl⟩
 have hlen : news.length = (n - j) * 14 := by rw [hnews, List.length_drop, List.length_take, Array.length_toList]; omega
 have hget : ∀ t u, news[t]? = some u → cur[j * 14 + t]? = some u := fun t u hu => by
  rw [hnews, List.getElem?_drop] at hu
  have hlt : j * 14 + t < n * 14 := by
   rcases Nat.lt_or_ge (j * 14 + t) (n * 14) with h | h
   ·exact h
   ·rw [List.getElem?_take_eq_none h] at hu; cases hu
  rw [List.getElem?_take_of_lt hlt, Array.getElem?_toList] at hu
  exact hu
 obtain ⟨A, hA, hsrc⟩ : ∃ A : Addr, (if cap = j then (some ⟨g, 0, none⟩ : Option Addr) else some ⟨g, j * 14, none⟩) = some A ∧ Hid (∀ t u, news[t]? = some u → w.drew.cell? (A.add t) = some u) := by
  by_cases h : cap = j
  ·refine ⟨⟨g, 0, none⟩, by simp [h], fun t u hu => ?_⟩
   have h0 : news.length = 0 := by rw [hlen]; omega
   rw [List.length_eq_zero_iff.1 h0] at hu
   simp at hu
  ·refine ⟨⟨g, j * 14, none⟩, by simp [h], fun t u hu => ?_⟩
   rw [Addr.add_lit]
   have e : w.drew.cell? ⟨g, j * 14 + t, none⟩ = cur[j * 14 + t]? := hg.cell _
   rw [e]
   exact hget t u hu
 have s1 : Hid (news.length = (n - j) * 14) := hlen
 have s2 : Hid (∀ u ∈ news, u.oneCell' = true) := fun u hu => h1 u (by rw [hnews] at hu; exact List.mem_of_mem_drop hu)
 have hgd : Blk w.drew g cur 58 := hg
 have s3 : Hid (∀ t, t < news.length → (w.drew.cell? ⟨g, 0 + i * 14 + t, none⟩).isSome = true ∧ w.drew.frozen? ⟨g, 0 + i * 14 + t, none⟩ = false) := fun t ht => by
  rw [hlen] at ht
  exact ⟨by rw [hgd.cell]; simp; omega, frozen_of_row _ g _ cur 58 hgd⟩
 obtain ⟨b1, o1⟩ := lE news (i * 14) hgd (by rw [hlen]; omega)
 have hcl : Hid (∀ ty m, (Builtin.clear_ #[50] ty #[.slice (some ⟨g, (i + (n - j)) * 14, none⟩) (n - (i + (n - j))) m]).run Tryd.prog (w.drew.setCells g (i * 14) news) = .ok (.tuple #[]) ((w.drew.setCells g (i * 14) news).setCells g ((i + (n - j)) * 14) zChg)) := fun ty m => by
  have e1 : n - (i + (n - j)) = 1 := by omega
  rw [e1]
  obtain ⟨hu, ti, u, hti, h2, h3, h4, h5⟩ := fY (zNi)
  have hst := run_storeCells_cells (P := Tryd.prog) g ((i + (n - j)) * 14) zChg 0 (w.drew.setCells g (i * 14) news) (fun t ht => by
   rw [b1.cell]; simp [splice, zChg] at ht ⊢; omega) (fun t ht => frozen_of_row _ g _ _ 58 b1) (by decide)
  have hz : (Builtin.zeroCells u.cells 1).toList = zChg := by rw [h5]; exact zKa
  simp [Builtin.clear_, run_underlying hu, zeroValue, typeInfo, hti, h4, hz]
  rw [Nat.add_zero] at hst
  rw [hst]
  rfl
 obtain ⟨b2, o2⟩ := lE zChg ((i + (n - j)) * 14) b1 (by simp [splice, zChg]; omega)
 have hfin : Hid (Only g w ((w.drew.setCells g (i * 14) news).setCells g ((i + (n - j)) * 14) zChg) ∧ ∃ cur', Blk ((w.drew.setCells g (i * 14) news).setCells g ((i + (n - j)) * 14) zChg) g cur' 58 ∧ cur'.size = cap * 14 ∧ cur'.toList.take ((n - 1) * 14) = qJ (cur.toList.take (n * 14)) i) := by
  have o0 : Only g w w.drew := ⟨rfl, rfl, rfl, rfl, fun _ _ => rfl⟩
  have hcl : cur.toList.length = cap * 14 := by rw [Array.length_toList, hs]
  have l1 : (splice cur.toList (i * 14) news).length = cap * 14 := by rw [cH _ _ _ (by omega), hcl]
  have hz14 : zChg.length = 14 := rfl
  refine ⟨(o0.trans o1).trans o2, _, b2, ?_, ?_⟩
  ·rw [List.size_toArray, cH _ _ _ (by rw [l1]; omega), l1]
  ·show List.take _ (splice (splice cur.toList (i * 14) news) _ zChg) = _
   rw [show i + (n - j) = n - 1 by omega, qV _ _ _ (by rw [l1]; omega), nQ _ _ _ _ (by omega) (by omega), qJ, hnews, List.take_take, Nat.min_eq_left (by omega), hj]
 clear b1 o1 b2 o2 hgd hget hnews hlen
 have hic : i ≤ cap := by omega
 have hjc : j ≤ cap := by omega
 have hnj : Hid (i + (n - j) = n - 1) := (by omega : i + (n - j) = n - 1)
 have hij : i < j := by omega
 have hij2 : ¬ ((i : Int) = (j : Int)) := by omega
 clear hj
 go_enter Tryd.func72, Tryd.ntmps72
 go_wp2_with fail
 go_region_law_o (refine step_append_room rfl (.tmp 22) (.tmp 25) 50 rfl 58 _ 14 Tryd.underlying50 rfl rfl g 0 i cap (by simp [Act.eval, Act.put]) A (n - j) (cap - j) news (by simp [Act.eval, Act.put, hA]) s1.out hsrc.out s2.out (by omega) s3.out ?_)
 go_wp2
 rw [hcl.out]
 go_wp2
 go_ret
 exact ⟨by rw [hnj.out]; rfl, hfin.out⟩
def chV (c : Chg) : List Value := [.string c.p, .int .i64 c.k, .int .i64 c.b0.1, .string c.b0.2, .int .i64 c.b1.1, .string c.b1.2, .int .i64 c.b2.1, .string c.b2.2, .int .i64 c.a0.1, .string c.a0.2, .int .i64 c.a1.1, .string c.a1.2, .int .i64 c.a2.1, .string c.a2.2]
def qNk (l : List Chg) : List (List Value) := l.map chV
theorem tP (l : List Chg) : Uni 14 (qNk l) := ⟨fun x hx => by obtain ⟨s, -, rfl⟩ := List.mem_map.1 hx; rfl, fun x hx v hv => by
 obtain ⟨s, -, rfl⟩ := List.mem_map.1 hx
 simp only [chV, List.mem_cons, List.not_mem_nil, or_false] at hv
 rcases hv with rfl | rfl | rfl | rfl | rfl | rfl | rfl | rfl | rfl | rfl | rfl | rfl | rfl | rfl <;> rfl⟩
theorem qXk (l : List Chg) : pln (qNk l) = chs l := by simp [pln, qNk, chs, chV, qXj]
theorem qDn (l : List Chg) : (qNk l).length = l.length := by simp [qNk]
theorem zJq (l : List Chg) (i : Nat) : qJ (qNk l).flatten i = (qNk (l.eraseIdx i)).flatten := by
 rw [qJ, ← qRm i (tP l).wid, ← qRn (i + 1) (tP l).wid, ← List.flatten_append, List.eraseIdx_eq_take_drop_succ]
 simp [qNk, List.map_take, List.map_drop]
abbrev zDo (l : List Chg) : Row := .sl true 58 14 (chs l)
theorem zE0 (l : List Chg) (i : Nat) (hi : i < l.length) : HFunS Tryd.prog 72 [.own 0, .v (.int .i64 i), .v (.int .i64 ((i : Int) + 1))] [(0, .sl true 58 14 (chs l))] (fun h st => h = .own 0 ∧ st = [(0, .sl true 58 14 (chs (l.eraseIdx i)))]) := by
 intro c w ρ xs vs hw G R
 obtain ⟨R1, R2⟩ := R
 match vs, R1 with
 | [v0, v1, v2], _ =>
 have r0 := R2 0 (by simp) (by simp)
 have r1 := R2 1 (by simp) (by simp)
 have r2 := R2 2 (by simp) (by simp)
 simp only [List.getElem_cons_zero, List.getElem_cons_succ] at r0 r1 r2
 cases r1
 cases r2
 cases r0
 have hr : rlk [(0, Row.sl true 58 14 (chs l))] 0 = some (.sl true 58 14 (pln (qNk l))) := by rw [qXk]; rfl
 obtain ⟨g, cap, cur, e0, b1, b2, b3, b4, b5⟩ := qZu (id := 0) G (tP l) (by decide) hr (by rw [qDn]; omega)
 rw [qDn] at e0 b2 b5
 have h := qNj w g l.length cap i (i + 1) cur b1 b2 b3 b4 rfl (by omega) (by
  rw [b5]; intro u hu
  obtain ⟨x, hx, hu⟩ := List.mem_flatten.1 hu
  exact (tP l).one x hx u hu)
 rw [e0]
 refine Ret.mono h ?_
 rintro r w' ⟨rfl, hO, cur', d1, d2, d3⟩
 rw [b5, zJq] at d3
 have hl : (l.eraseIdx i).length = l.length - 1 := by rw [List.length_eraseIdx, if_pos hi]
 have hfl : (qNk (l.eraseIdx i)).flatten.length = (l.length - 1) * 14 := by rw [qL7 (tP _).wid, qDn, hl]
 have G2 := G.fin hw (tP (l.eraseIdx i)) hr (v := .slice (some ⟨g, 0, none⟩) (l.length - 1) cap) (w' := w') (by
  rw [qDn, hl]
  exact ⟨hfl, .inr ⟨g, cap, cur', rfl, Nat.zero_le _, d1, by omega, b3, d2, d3⟩⟩) (by
  rw [e0]
  exact ⟨hO.os, hO.tape, hO.output, Nat.le_of_eq hO.size.symm, fun b _ hb => hO.block b fun e => hb (by rw [e]; rfl)⟩) (by
  intro b hb
  right
  rw [e0]
  exact hb)
 rw [qXk] at G2
 refine ⟨_, [(0, .sl true 58 14 (chs (l.eraseIdx i)))], _, _, fun j r h => ?_, fun j h => ?_, ⟨rfl, rfl⟩, G2, .own 0 rfl⟩
 ·simp only [rlk] at h
  split at h
  ·omega
  ·cases h
 ·match j, h with
  | 0, h => exact h.elim
  | j + 1, h => exact h.elim
end Go.Proofs.YtkonlklieacjoaaDoor
