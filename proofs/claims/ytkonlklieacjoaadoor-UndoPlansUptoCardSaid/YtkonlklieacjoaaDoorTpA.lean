/-
  slices.Delete of a tree, in aQ.
-/
import Derived.Test.YtkonlklieacjoaaDoorTrO
import Derived.Deep.RegionLaw
import Derived.Shelf.RegionOpenPlain
import Derived.Lib.SliceRun
section
set_option linter.unusedSimpArgs false
set_option linter.unusedVariables false
set_option maxRecDepth 20000
namespace Go.Tr
open Go Go.Eng Go.RowKit
def eM : List Ent → List Value
 | [] => []
 | e :: r => .string e.1 :: .int .i64 e.2.1 :: .string e.2.2 :: eM r
theorem tF : ∀ t : List Ent, (eM t).length = t.length * 3
 | [] => rfl
 | e :: r => by simp only [eM, List.length_cons, tF r]; omega
theorem qAa : ∀ a b : List Ent, eM (a ++ b) = eM a ++ eM b
 | [], b => rfl
 | e :: r, b => by simp [eM, qAa r b]
theorem qBj : ∀ (t : List Ent) (i : Nat), eM (t.take i) = (eM t).take (i * 3)
 | [], i => by simp [eM]
 | e :: r, 0 => by simp [eM]
 | e :: r, i + 1 => by
  rw [List.take_succ_cons, show (i + 1) * 3 = i * 3 + 1 + 1 + 1 by omega]
  simp only [eM, List.take_succ_cons, qBj r i]
theorem qBk : ∀ (t : List Ent) (i : Nat), eM (t.drop i) = (eM t).drop (i * 3)
 | [], i => by simp [eM]
 | e :: r, 0 => by simp [eM]
 | e :: r, i + 1 => by
  rw [List.drop_succ_cons, show (i + 1) * 3 = i * 3 + 1 + 1 + 1 by omega]
  simp only [eM, List.drop_succ_cons, qBk r i]
theorem oB : ∀ (t : List Ent), ∀ u ∈ eM t, u.oneCell' = true
 | [], u, h => by simp [eM] at h
 | e :: r, u, h => by
  simp only [eM, List.mem_cons] at h
  rcases h with rfl | rfl | rfl | h
  ·rfl
  ·rfl
  ·rfl
  ·exact oB r u h
theorem qEh : ∀ (t : List Ent) (i k : Nat) (hi : i < (aH t).length) (hk : k < (aH t)[i].length), ∃ x, (aH t)[i][k] = .v x ∧ (eM t)[i * 3 + k]? = some x ∧ x.oneCell' = true
 | [], i, k, hi, _ => by simp [aH] at hi
 | e :: r, 0, k, hi, hk => by
  have e0 : (aH (e :: r))[0] = [.v (.string e.1), .v (.int .i64 e.2.1), .v (.string e.2.2)] := rfl
  simp only [e0, List.length_cons, List.length_nil] at hk
  match k, hk with
  | 0, _ => exact ⟨.string e.1, rfl, rfl, rfl⟩
  | 1, _ => exact ⟨.int .i64 e.2.1, rfl, rfl, rfl⟩
  | 2, _ => exact ⟨.string e.2.2, rfl, rfl, rfl⟩
 | e :: r, i + 1, k, hi, hk => by
  obtain ⟨x, h1, h2, h3⟩ := qEh r i k (by simpa [aH] using hi) hk
  refine ⟨x, h1, ?_, h3⟩
  rw [show (i + 1) * 3 + k = i * 3 + k + 1 + 1 + 1 by omega]
  simpa [eM] using h2
theorem zLg {w : World} {A : Nat → Prop} {n0 : Nat} {arr : List Value} {t : List Ent} (hl : arr.length = t.length * 3) (hw : ∀ x ∈ aH t, x.length = 3) (h : ∀ i k (hi : i < (aH t).length) (hk : k < (aH t)[i].length), ∃ u, arr[i * 3 + k]? = some u ∧ u.oneCell' = true ∧ RepF w A n0 u (aH t)[i][k]) : arr = eM t := by
 apply List.ext_getElem?
 intro p
 by_cases hp : p < t.length * 3
 ·have hi : p / 3 < (aH t).length := by rw [yV]; omega
  have hk : p % 3 < (aH t)[p / 3].length := by rw [hw _ (List.getElem_mem _)]; omega
  obtain ⟨u, u1, -, u3⟩ := h (p / 3) (p % 3) hi hk
  obtain ⟨x, h1, h2, -⟩ := qEh t (p / 3) (p % 3) hi hk
  rw [h1] at u3
  cases u3
  rw [show p / 3 * 3 + p % 3 = p by omega] at u1 h2
  rw [u1, h2]
 ·rw [List.getElem?_eq_none (by omega), List.getElem?_eq_none (by rw [tF]; omega)]
end Go.Tr
namespace Go.Proofs.YtkonlklieacjoaaDoor
open Go Go.Eng Go.RowKit Go.Tr Go.Lib
theorem lE {b : Nat} {t : TypeId} : ∀ (vs : List Value) (o : Nat) {w : World} {cs : Array Value}, Blk w b cs t → o + vs.length ≤ cs.size → Blk (w.setCells b o vs) b (splice cs.toList o vs).toArray t ∧ Only b w (w.setCells b o vs)
 | [], o, w, cs, h, hl => by
  have e : (splice cs.toList o []).toArray = cs := by simp [splice]
  rw [e]
  exact ⟨h, Only.refl _ _⟩
 | v :: vs, o, w, cs, h, hl => by
  simp only [List.length_cons] at hl
  have h1 : Blk (w.setCell ⟨b, o, none⟩ v) b (cs.setIfInBounds o v) t := by
   rw [setCell_eq_setRow w b o cs t _ v h]; exact iP h _
  have o1 : Only b w (w.setCell ⟨b, o, none⟩ v) := by
   rw [setCell_eq_setRow w b o cs t _ v h]; exact eR w b _
  obtain ⟨h2, o2⟩ := lE vs (o + 1) h1 (by simp; omega)
  have e : splice (cs.setIfInBounds o v).toList (o + 1) vs = splice cs.toList o (v :: vs) := by
   apply List.ext_getElem?
   intro j
   rw [cY _ _ _ (by simp; omega), cY _ _ _ (by simp; omega)]
   simp only [Array.toList_setIfInBounds, List.getElem?_set, List.length_cons]
   by_cases hj : j = o
   ·subst hj
    rw [if_neg (by omega), if_pos rfl, if_pos (by simp; omega), if_pos (by omega)]
    simp
   ·by_cases h3 : o + 1 ≤ j ∧ j < o + 1 + vs.length
    ·rw [if_pos h3, if_pos (by omega)]
     obtain ⟨k, rfl⟩ : ∃ k, j = o + 1 + k := ⟨j - (o + 1), by omega⟩
     rw [show o + 1 + k - (o + 1) = k by omega, show o + 1 + k - o = k + 1 by omega, List.getElem?_cons_succ]
    ·rw [if_neg h3, if_neg (by omega), if_neg (by omega)]
  rw [e] at h2
  exact ⟨h2, o1.trans o2⟩
theorem qHl {c : Ctx} {S : HS} {look : Nat → Option Value} {w : World} {ρ : Nat → Value} {xs : Nat → List Value} (G : Eng.Good c S look w ρ xs) {id : Nat} {t : List Ent} (hr : rlk S.st id = some (aY t)) (h0 : 0 < t.length) :
  ∃ g cap cur, ρ id = .slice (some ⟨g, 0, none⟩) t.length cap ∧ Blk w g cur 68 ∧ t.length ≤ cap ∧ cap ≤ maxLen ∧ cur.size = cap * 3 ∧ cur.toList.take (t.length * 3) = eM t := by
 obtain ⟨o1, o2, o3⟩ := cX G hr
 rw [yV] at o1
 obtain ⟨g, cap, hv, h1, h2, -⟩ := eJ o1 h0
 rw [hv] at o1
 obtain ⟨cur, b1, b2, b3, b4, b5⟩ := uB o1
 have := zLg o1.1 o2 o3
 exact ⟨g, cap, cur, hv, b1, b2, b3, b4, by rw [b5, this]⟩
theorem zJc {c : Ctx} {st : aD} {w w' : World} {ρ : Nat → Value} {xs : Nat → List Value} (G : Eng.Good c ⟨[], st⟩ (fun _ => none) w ρ xs) (hw : c.w0 = w) {t0 t : List Ent} (hr : rlk st 0 = some (aY t0)) {v : Value}
  (hO : Own w' 0 68 3 v t.length (eM t)) (hg : w.grownBy w' (ρ 0).ownBlock) (hb : ∀ b, v.ownBlock = some b → w.heap.size ≤ b ∨ (ρ 0).ownBlock = some b) :
  Eng.Good c ⟨[], [(0, aY t)]⟩ (fun _ => none) w' (fun _ => v) (fun _ => eM t) := by
 have hn0 := c.hn
 have hnew := (G.rows 0 _ hr).new
 refine ⟨fun i r h => ?_, fun i j r s b hne h h' => ?_, fun k h hk => by simp [hlk] at hk, G.kept.trans (T' := fun b => (ρ 0).ownBlock = some b) ⟨hg.os, hg.tape, hg.output, hg.size, fun b hlt hne => hg.block b hlt fun e => hne e.symm⟩ (fun b hlt hT => ?_), G.a0⟩
 ·simp only [rlk] at h
  split at h
  ·rename_i e
   simp only [Option.some.injEq] at h
   subst h
   refine ⟨by simpa [Row.ty, Row.sz, Row.len, yV] using hO, ⟨of_eq_true (yU _), fun i k hi hk => ?_⟩, fun b hb' => ?_⟩
   ·obtain ⟨x, h1, h2, h3⟩ := qEh t i k hi hk
    exact ⟨x, h2, h3, by rw [h1]; exact .v x⟩
   ·rcases hb b hb' with h | h
    ·rw [hw] at hn0 ⊢
     exact ⟨.inl h, fun _ => by omega⟩
    ·exact hnew b h
  ·cases h
 ·simp only [rlk] at h h'
  split at h
  ·split at h'
   ·omega
   ·cases h'
  ·cases h
 ·rcases (hnew b hT).1 with h | h
  ·omega
  ·exact h
theorem zLj {t : List Ent} : ∀ i r, rlk [(0, aY t)] i = some r → i < 8 := fun i r h => by
 simp only [rlk] at h
 split at h
 ·omega
 ·cases h
theorem qTe {c : Ctx} {st : aD} {w w' : World} {ρ : Nat → Value} {xs : Nat → List Value} (G : Eng.Good c ⟨[], st⟩ (fun _ => none) w ρ xs) (hw : c.w0 = w) {t0 t : List Ent} (hr : rlk st 0 = some (aY t0)) (hbx : ∀ j, ¬ nT (rlk st j)) {v : Value}
  (hO : Own w' 0 68 3 v t.length (eM t)) (hg : w.grownBy w' (ρ 0).ownBlock) (hb : ∀ b, v.ownBlock = some b → w.heap.size ≤ b ∨ (ρ 0).ownBlock = some b) (h1 : v.oneCell' = true) :
  ∃ h st' ρ' xs', (∀ i r, rlk st' i = some r → i < 8) ∧ (∀ j, nT (rlk st j) → nT (rlk st' j)) ∧ (h = .own 0 ∧ st' = [(0, aY t)]) ∧ Eng.Good c ⟨[], st'⟩ (fun _ => none) w' ρ' xs' ∧ RepH w' (c.A ρ' st') c.n0 ρ' v h :=
 ⟨_, [(0, aY t)], fun _ => v, fun _ => eM t, zLj, fun j h => (hbx j h).elim, ⟨rfl, rfl⟩, zJc G hw hr hO hg hb, .own 0 h1⟩
end Go.Proofs.YtkonlklieacjoaaDoor
end
section
set_option linter.unusedSimpArgs false
set_option linter.unusedVariables false
set_option maxRecDepth 20000
namespace Go.Proofs.YtkonlklieacjoaaDoor
open Go Go.Eng Go.RowKit Go.Tr Go.Lib
def qDm (l : List Value) (i : Nat) : List Value := l.take (i * 3) ++ l.drop ((i + 1) * 3)
def zEnt3 : List Value := [.string ByteArray.empty, .int .i64 0, .string ByteArray.empty]
theorem zKb : (Builtin.zeroCells #[.string ByteArray.empty, .int .i64 0, .string ByteArray.empty] 1).toList = zEnt3 := by
 simp [Builtin.zeroCells, zEnt3, List.range, List.range.loop]
theorem qV {α : Type} (l : List α) (p : Nat) (cs : List α) (h : p ≤ l.length) : (splice l p cs).take p = l.take p := by
 rw [splice, List.append_assoc, List.take_left' (by rw [List.length_take]; omega)]
theorem nQ {α : Type} (l : List α) (p q : Nat) (cs : List α) (h : p ≤ l.length) (e : q = p + cs.length) : (splice l p cs).take q = l.take p ++ cs := by
 rw [splice, List.take_left' (by rw [List.length_append, List.length_take]; omega)]
set_option maxHeartbeats 4000000 in
set_option maxRecDepth 100000 in
theorem qTf (w : World) (g n cap i j : Nat) (cur : Array Value) (hg : Blk w g cur 68) (hn : n ≤ cap) (hcap : cap ≤ maxLen) (hs : cur.size = cap * 3) (hj : j = i + 1) (hi : j ≤ n) (h1 : ∀ u ∈ cur.toList.take (n * 3), u.oneCell' = true) :
  Calls Tryd.prog 55 #[.slice (some ⟨g, 0, none⟩) n cap, .int .i64 i, .int .i64 j] w (Ret fun r w' => r = .slice (some ⟨g, 0, none⟩) (n - 1) cap ∧ Only g w w' ∧ ∃ cur', Blk w' g cur' 68 ∧ cur'.size = cap * 3 ∧ cur'.toList.take ((n - 1) * 3) = qDm (cur.toList.take (n * 3)) i) := by
 have mixed := mixed
 have hcap' : cap ≤ 9223372036854775807 := by simpa [maxLen] using hcap
 obtain ⟨news, hnews⟩ : ∃ news, news = (cur.toList.take (n * 3)).drop (j * 3) := ⟨_, rfl⟩
 have hlen : news.length = (n - j) * 3 := by rw [hnews, List.length_drop, List.length_take, Array.length_toList]; omega
 have hget : ∀ t u, news[t]? = some u → cur[j * 3 + t]? = some u := fun t u hu => by
  rw [hnews, List.getElem?_drop] at hu
  have hlt : j * 3 + t < n * 3 := by
   rcases Nat.lt_or_ge (j * 3 + t) (n * 3) with h | h
   ·exact h
   ·rw [List.getElem?_take_eq_none h] at hu; cases hu
  rw [List.getElem?_take_of_lt hlt, Array.getElem?_toList] at hu
  exact hu
 obtain ⟨A, hA, hsrc⟩ : ∃ A : Addr, (if cap = j then (some ⟨g, 0, none⟩ : Option Addr) else some ⟨g, j * 3, none⟩) = some A ∧ Hid (∀ t u, news[t]? = some u → w.drew.cell? (A.add t) = some u) := by
  by_cases h : cap = j
  ·refine ⟨⟨g, 0, none⟩, by simp [h], fun t u hu => ?_⟩
   have h0 : news.length = 0 := by rw [hlen]; omega
   rw [List.length_eq_zero_iff.1 h0] at hu
   simp at hu
  ·refine ⟨⟨g, j * 3, none⟩, by simp [h], fun t u hu => ?_⟩
   rw [Addr.add_lit]
   have e : w.drew.cell? ⟨g, j * 3 + t, none⟩ = cur[j * 3 + t]? := hg.cell _
   rw [e]
   exact hget t u hu
 have s1 : Hid (news.length = (n - j) * 3) := hlen
 have s2 : Hid (∀ u ∈ news, u.oneCell' = true) := fun u hu => h1 u (by rw [hnews] at hu; exact List.mem_of_mem_drop hu)
 have hgd : Blk w.drew g cur 68 := hg
 have s3 : Hid (∀ t, t < news.length → (w.drew.cell? ⟨g, 0 + i * 3 + t, none⟩).isSome = true ∧ w.drew.frozen? ⟨g, 0 + i * 3 + t, none⟩ = false) := fun t ht => by
  rw [hlen] at ht
  exact ⟨by rw [hgd.cell]; simp; omega, frozen_of_row _ g _ cur 68 hgd⟩
 obtain ⟨b1, o1⟩ := lE news (i * 3) hgd (by rw [hlen]; omega)
 have hcl : Hid (∀ ty m, (Builtin.clear_ #[22] ty #[.slice (some ⟨g, (i + (n - j)) * 3, none⟩) (n - (i + (n - j))) m]).run Tryd.prog (w.drew.setCells g (i * 3) news) = .ok (.tuple #[]) ((w.drew.setCells g (i * 3) news).setCells g ((i + (n - j)) * 3) zEnt3)) := fun ty m => by
  have e1 : n - (i + (n - j)) = 1 := by omega
  rw [e1]
  obtain ⟨hu, ti, u, hti, h2, h3, h4, h5⟩ := fY (qX7)
  have hst := run_storeCells_cells (P := Tryd.prog) g ((i + (n - j)) * 3) zEnt3 0 (w.drew.setCells g (i * 3) news) (fun t ht => by
   rw [b1.cell]; simp [splice, zEnt3] at ht ⊢; omega) (fun t ht => frozen_of_row _ g _ _ 68 b1) (by decide)
  have hz : (Builtin.zeroCells u.cells 1).toList = zEnt3 := by rw [h5]; exact zKb
  simp [Builtin.clear_, run_underlying hu, zeroValue, typeInfo, hti, h4, hz]
  rw [Nat.add_zero] at hst
  rw [hst]
  rfl
 obtain ⟨b2, o2⟩ := lE zEnt3 ((i + (n - j)) * 3) b1 (by simp [splice, zEnt3]; omega)
 have hfin : Hid (Only g w ((w.drew.setCells g (i * 3) news).setCells g ((i + (n - j)) * 3) zEnt3) ∧ ∃ cur', Blk ((w.drew.setCells g (i * 3) news).setCells g ((i + (n - j)) * 3) zEnt3) g cur' 68 ∧ cur'.size = cap * 3 ∧ cur'.toList.take ((n - 1) * 3) = qDm (cur.toList.take (n * 3)) i) := by
  have o0 : Only g w w.drew := ⟨rfl, rfl, rfl, rfl, fun _ _ => rfl⟩
  have hcl : cur.toList.length = cap * 3 := by rw [Array.length_toList, hs]
  have l1 : (splice cur.toList (i * 3) news).length = cap * 3 := by rw [cH _ _ _ (by omega), hcl]
  have hz3 : zEnt3.length = 3 := rfl
  refine ⟨(o0.trans o1).trans o2, _, b2, ?_, ?_⟩
  ·rw [List.size_toArray, cH _ _ _ (by rw [l1]; omega), l1]
  ·show List.take _ (splice (splice cur.toList (i * 3) news) _ zEnt3) = _
   rw [show i + (n - j) = n - 1 by omega, qV _ _ _ (by rw [l1]; omega), nQ _ _ _ _ (by omega) (by omega), qDm, hnews, List.take_take, Nat.min_eq_left (by omega), hj]
 clear b1 o1 b2 o2 hgd hget hnews hlen
 have hic : i ≤ cap := by omega
 have hjc : j ≤ cap := by omega
 have hnj : Hid (i + (n - j) = n - 1) := (by omega : i + (n - j) = n - 1)
 have hij : i < j := by omega
 have hij2 : ¬ ((i : Int) = (j : Int)) := by omega
 clear hj
 go_enter Tryd.func55, Tryd.ntmps55
 go_wp2_with fail
 go_region_law_o (refine step_append_room rfl (.tmp 22) (.tmp 25) 22 rfl 68 _ 3 Tryd.underlying22 rfl rfl g 0 i cap (by simp [Act.eval, Act.put]) A (n - j) (cap - j) news (by simp [Act.eval, Act.put, hA]) s1.out hsrc.out s2.out (by omega) s3.out ?_)
 go_wp2
 rw [hcl.out]
 go_wp2
 go_ret
 exact ⟨by rw [hnj.out]; rfl, hfin.out⟩
end Go.Proofs.YtkonlklieacjoaaDoor
end
