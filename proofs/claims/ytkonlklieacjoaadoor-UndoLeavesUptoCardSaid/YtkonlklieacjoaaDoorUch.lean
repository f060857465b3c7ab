/-
  Which records may be; do paths rise; are two lists of changes alike?
-/
import Derived.Test.YtkonlklieacjoaaDoorPln
import Derived.Test.YtkonlklieacjoaaDoorSrs
import Derived.Test.YtkonlklieacjoaaDoorTrB
import Derived.Test.YtkonlklieacjoaaDoorTyT
import Derived.Sort.OwnSorted
import Derived.Sort.Walk0
import Derived.Test.YtkonlklieacjoaaDoorChn
import Derived.Test.YtkonlklieacjoaaDoorSl
import Derived.Test.YtkonlklieacjoaaDoorGc
section
set_option linter.unusedSimpArgs false
set_option linter.unusedVariables false
set_option maxRecDepth 20000
namespace Go.Tr
open Go Go.Eng Go.RowKit Go.Proofs Go.Sort
def insT (out : List ByteArray) (s : ByteArray) : List ByteArray := out.takeWhile (fun x => !blt s x) ++ s :: out.dropWhile (fun x => !blt s x)
def sortT (l : List ByteArray) : List ByteArray := l.foldl insT []
def nodecT (t : List ByteArray) : Prop := t.Pairwise fun x y => blt y x = false
theorem nlt_trans {a b c : ByteArray} (h1 : blt b a = false) (h2 : blt c b = false) : blt c a = false := by
 cases e : blt c a with
 | false => rfl
 | true =>
  rcases blt_tri a b with h | h | h
  ·rw [blt_trans e h] at h2; cases h2
  ·rw [← h, e] at h2; cases h2
  ·rw [h] at h1; cases h1
theorem insT_nodec {s : ByteArray} : ∀ {out : List ByteArray}, nodecT out → nodecT (insT out s) := by
 intro out h
 unfold insT
 induction out with
 | nil => simp [nodecT]
 | cons x r ih =>
  obtain ⟨hx, hr⟩ := List.pairwise_cons.1 h
  cases hb : blt s x with
  | false =>
   simp only [List.takeWhile_cons, List.dropWhile_cons, hb, Bool.not_false, if_true, List.cons_append]
   refine List.pairwise_cons.2 ⟨fun y hy => ?_, ih hr⟩
   rcases List.mem_append.1 hy with hy | hy
   ·exact hx y ((List.takeWhile_sublist _).subset hy)
   ·rcases List.mem_cons.1 hy with rfl | hy
    ·exact hb
    ·exact hx y ((List.dropWhile_sublist _).subset hy)
  | true =>
   simp only [List.takeWhile_cons, List.dropWhile_cons, hb, Bool.not_true, Bool.false_eq_true, if_false, List.nil_append]
   refine List.pairwise_cons.2 ⟨fun y hy => ?_, h⟩
   rcases List.mem_cons.1 hy with rfl | hy
   ·exact blt_asymm hb
   ·exact nlt_trans (blt_asymm hb) (hx y hy)
theorem insT_perm (out : List ByteArray) (s : ByteArray) : (insT out s).Perm (s :: out) := by
 unfold insT
 refine List.perm_middle.trans (List.Perm.cons s ?_)
 rw [List.takeWhile_append_dropWhile]
theorem foldT_nodec : ∀ (t out : List ByteArray), nodecT out → nodecT (t.foldl insT out)
 | [], out, h => h
 | e :: t, out, h => by rw [List.foldl_cons]; exact foldT_nodec t _ (insT_nodec h)
theorem foldT_perm : ∀ (t out : List ByteArray), (t.foldl insT out).Perm (out ++ t)
 | [], out => by simp
 | e :: t, out => by
  rw [List.foldl_cons]
  refine (foldT_perm t _).trans ?_
  refine (List.Perm.append_right t (insT_perm out e)).trans ?_
  exact (List.perm_middle (l₁ := out)).symm
theorem sortT_nodec (t : List ByteArray) : nodecT (sortT t) := foldT_nodec t [] .nil
theorem sortT_perm (t : List ByteArray) : (sortT t).Perm t := foldT_perm t []
theorem sortT_len (t : List ByteArray) : (sortT t).length = t.length := (sortT_perm t).length_eq
theorem sortT_is {l X : List ByteArray} (h : nodecT X) (hp : X.Perm l) : X = sortT l := by
 refine List.Perm.eq_of_pairwise (le := fun x y : ByteArray => blt y x = false) (fun a b ha hb h1 h2 => ?_) h (sortT_nodec l) (hp.trans (sortT_perm l).symm)
 rcases blt_tri a b with h | h | h
 ·rw [h] at h2; cases h2
 ·exact h
 ·rw [h] at h1; cases h1
def byL (l : List ByteArray) : List (List UInt8) := l.map fun s => s.data.toList
theorem byL_back (l : List ByteArray) : (byL l).map (fun x => (⟨x.toArray⟩ : ByteArray)) = l := by
 unfold byL
 rw [List.map_map]
 conv => rhs; rw [← List.map_id l]
 exact List.map_congr_left fun s _ => rfl
theorem merge_sortT (l : List ByteArray) : ((byL l).mergeSort fun x y => decide (x ≤ y)).map (fun x => (⟨x.toArray⟩ : ByteArray)) = sortT l := by
 refine sortT_is ?_ ?_
 ·unfold nodecT
  rw [List.pairwise_map]
  have h := List.pairwise_mergeSort (le := fun x y : List UInt8 => decide (x ≤ y)) (fun a b c h1 h2 => by
   simp only [decide_eq_true_eq] at *; exact List.le_trans h1 h2) (fun a b => by
   simp only [Bool.or_eq_true, decide_eq_true_eq]; exact List.le_total a b) (byL l)
  refine h.imp fun {a b} hab => ?_
  simp only [decide_eq_true_eq] at hab
  rw [blt, Lib.toList_data, Lib.toList_data, bytesLess_eq, decide_eq_false_iff_not]
  exact List.not_lt.2 hab
 ·have := (List.mergeSort_perm (byL l) fun x y => decide (x ≤ y)).map (fun x => (⟨x.toArray⟩ : ByteArray))
  rwa [byL_back] at this
end Go.Tr
namespace Go.Proofs.YtkonlklieacjoaaDoor
open Go Go.Eng Go.RowKit Go.Tr Go.Lib Go.Sort Go.Proofs
def strV (l : List ByteArray) : List (List Value) := l.map fun s => [Value.string s]
theorem strV_uni (l : List ByteArray) : Uni 1 (strV l) := ⟨fun x hx => by obtain ⟨s, -, rfl⟩ := List.mem_map.1 hx; rfl, fun x hx v hv => by
 obtain ⟨s, -, rfl⟩ := List.mem_map.1 hx
 simp only [List.mem_singleton] at hv
 subst hv; rfl⟩
theorem strV_pln (l : List ByteArray) : pln (strV l) = strs l := by simp [pln, strV, strs, strE]
theorem strV_flat (l : List ByteArray) : (strV l).flatten = (byL l).map encStr := by
 induction l with
 | nil => rfl
 | cons s r ih => simp only [strV, List.map_cons, List.flatten_cons, List.singleton_append, byL] at *; rw [ih]
theorem strV_len (l : List ByteArray) : (strV l).length = l.length := by simp [strV]
theorem byL_len (l : List ByteArray) : (byL l).length = l.length := by simp [byL]
theorem sortT_at {S : HS} {id : Nat} {nw : Bool} {l : List ByteArray} (hl : l.length ≤ 4194304) {K : HV → HS → Prop} (hr : rlk S.st id = some (.sl nw 9 1 (strs l))) (hK : K (.v (.tuple #[])) ⟨S.env, sset id (.sl nw 9 1 (strs (sortT l))) S.st⟩) :
  HAt Tryd.prog 73 [.own id] S K :=
 ⟨cl73, fun c look w ρ xs vs G R => by
  obtain ⟨R1, R2⟩ := R
  match vs, R1 with
  | [v0], _ =>
  have r0 := R2 0 (by simp) (by simp)
  simp only [List.getElem_cons_zero] at r0
  cases r0
  by_cases h0 : l = []
  ·subst h0
   obtain ⟨o1, o2, o3⟩ := rows_sl G hr
   obtain ⟨ad, cap, e0⟩ := own_shape' o1
   have e0' : ρ id = .slice ad 0 cap := e0
   rw [e0']
   refine Calls.mono (Any.slices_Sort_string_none Tryd.sortS ad cap w) ?_
   rintro e w' ⟨rfl, rfl⟩
   exact ret_of ⟨_, _, hK, ρ, xs, G.same hr, .v _⟩
  ·have hpos := List.length_pos_iff.2 h0
   obtain ⟨g, cap, cur, e0, b1, b2, b3, b4, b5⟩ := row_pln G (strV_uni l) (by decide) (by rw [strV_pln]; exact hr) (by rw [strV_len]; exact hpos)
   rw [strV_len] at e0 b2 b5
   rw [strV_flat, Nat.mul_one] at b5
   rw [Nat.mul_one] at b4
   rw [e0]
   have hb : w.heap[g]? = some (.cells cur 9 (0, 0)) := b1
   have hH : Holds encStr w g 0 (byL l).toArray := holds_of_block hb (by rw [byL_len]; exact b5)
   have hcon := Any.slices_Sort_string Tryd.sortS g 0 cap (byL l) w hH b1.lt (by rw [byL_len]; omega)
   rw [byL_len] at hcon
   refine Calls.mono hcon ?_
   rintro e w' ⟨rfl, n, os, rfl⟩
   have hg := grownBy_sorted (w := w) (g := g) (n := n) (os := os) ((byL l).mergeSort fun x y => decide (x ≤ y)).toArray
   have ho := ownsRow_sorted (w := w) (base := 0) (n := n) (os := os) (ss := byL l) (ts := (byL l).mergeSort fun x y => decide (x ≤ y)) (by simp) (Nat.zero_le g) hb (by rw [byL_len]; exact b2) b3 (by rw [b4, Nat.mul_one])
   have hf : ((byL l).mergeSort fun x y => decide (x ≤ y)).map encStr = (strV (sortT l)).flatten := by
    rw [← merge_sortT, strV_flat]
    generalize (byL l).mergeSort (fun x y => decide (x ≤ y)) = z
    unfold byL
    rw [List.map_map, List.map_map]
    exact List.map_congr_left fun s _ => rfl
   rw [byL_len, hf] at ho
   have hc : l.length = (strV (sortT l)).length := by rw [strV_len, sortT_len]
   have G2 := G.turn (id := id) (ty := 9) (sz := 1) (nw := nw) (cs0 := strV l) (cs := strV (sortT l)) (strV_uni _) (by rw [strV_pln]; exact hr) (by rw [← hc]; exact e0) (w' := grow (putRow encStr (Sort.ahead w n) g 0 ((byL l).mergeSort fun x y => decide (x ≤ y)).toArray) os) (by rw [e0, ← hc]; exact ho) hg.os hg.tape hg.output hg.size (fun b hlt hne => hg.block b hlt fun e => hne (Option.some.inj e))
   rw [strV_pln] at G2
   exact ret_of ⟨_, _, hK, ρ, _, G2, .v _⟩⟩
end Go.Proofs.YtkonlklieacjoaaDoor
end
section
set_option linter.unusedSimpArgs false
set_option linter.unusedVariables false
set_option maxRecDepth 20000
namespace Go.Tr
open Go Go.Eng
abbrev rowS (l : List ByteArray) : Row := .sl true 9 1 (strs l)
end Go.Tr
namespace Go.Proofs.YtkonlklieacjoaaDoor
open Go Go.Eng Go.RowKit Go.Tr
end Go.Proofs.YtkonlklieacjoaaDoor
end
section
set_option linter.unusedSimpArgs false
set_option linter.unusedVariables false
set_option maxRecDepth 20000
namespace Go.Proofs.YtkonlklieacjoaaDoor
open Go Go.Eng Go.RowKit

end Go.Proofs.YtkonlklieacjoaaDoor
end
section
set_option linter.unusedSimpArgs false
set_option linter.unusedVariables false
set_option maxRecDepth 20000
namespace Go.Tr
open Go Go.Eng
abbrev recL (i j k : Int) (L : List Chg) : List HV := [.v (.int .i64 i), .v (.int .i64 j), .v (.int .i64 k), .lst false (chs L)]
abbrev recH (i j k : Int) (L : List Chg) : HV := .agg (recL i j k L)
end Go.Tr
namespace Go.Proofs.YtkonlklieacjoaaDoor
open Go Go.Eng Go.RowKit Go.Tr
end Go.Proofs.YtkonlklieacjoaaDoor
end
