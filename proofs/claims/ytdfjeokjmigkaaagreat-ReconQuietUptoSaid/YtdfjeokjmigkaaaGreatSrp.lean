/-
  Plain: texts put in their places (as the library's merge puts them).
-/
import Derived.Test.YtdfjeokjmigkaaaGreatTrB
import Derived.Sort.KeysCollected
import Derived.Sort.Walk0
set_option linter.unusedSimpArgs false
set_option linter.unusedVariables false
namespace Go.Tr
open Go Go.Sort Go.Proofs
def insT (out : List ByteArray) (s : ByteArray) : List ByteArray := out.takeWhile (fun x => !blt s x) ++ s :: out.dropWhile (fun x => !blt s x)
def sortT (l : List ByteArray) : List ByteArray := l.foldl insT []
def nodecT (t : List ByteArray) : Prop := t.Pairwise fun x y => blt y x = false
theorem nlt_trans {a b c : ByteArray} (h1 : blt b a = false) (h2 : blt c b = false) : blt c a = false := by
 cases e : blt c a with
 | false => rfl
 | true =>
  rcases blt_tri a b with h | h | h
  ·rw [blt_trans e h] at h2; cases h2
  ·rw [← h, e] at h2; cases h2
  ·rw [h] at h1; cases h1
theorem insT_nodec {s : ByteArray} : ∀ {out : List ByteArray}, nodecT out → nodecT (insT out s) := by
 intro out h
 unfold insT
 induction out with
 | nil => simp [nodecT]
 | cons x r ih =>
  obtain ⟨hx, hr⟩ := List.pairwise_cons.1 h
  cases hb : blt s x with
  | false =>
   simp only [List.takeWhile_cons, List.dropWhile_cons, hb, Bool.not_false, if_true, List.cons_append]
   refine List.pairwise_cons.2 ⟨fun y hy => ?_, ih hr⟩
   rcases List.mem_append.1 hy with hy | hy
   ·exact hx y ((List.takeWhile_sublist _).subset hy)
   ·rcases List.mem_cons.1 hy with rfl | hy
    ·exact hb
    ·exact hx y ((List.dropWhile_sublist _).subset hy)
  | true =>
   simp only [List.takeWhile_cons, List.dropWhile_cons, hb, Bool.not_true, Bool.false_eq_true, if_false, List.nil_append]
   refine List.pairwise_cons.2 ⟨fun y hy => ?_, h⟩
   rcases List.mem_cons.1 hy with rfl | hy
   ·exact blt_asymm hb
   ·exact nlt_trans (blt_asymm hb) (hx y hy)
theorem insT_perm (out : List ByteArray) (s : ByteArray) : (insT out s).Perm (s :: out) := by
 unfold insT
 refine List.perm_middle.trans (List.Perm.cons s ?_)
 rw [List.takeWhile_append_dropWhile]
theorem foldT_nodec : ∀ (t out : List ByteArray), nodecT out → nodecT (t.foldl insT out)
 | [], out, h => h
 | e :: t, out, h => by rw [List.foldl_cons]; exact foldT_nodec t _ (insT_nodec h)
theorem foldT_perm : ∀ (t out : List ByteArray), (t.foldl insT out).Perm (out ++ t)
 | [], out => by simp
 | e :: t, out => by
  rw [List.foldl_cons]
  refine (foldT_perm t _).trans ?_
  refine (List.Perm.append_right t (insT_perm out e)).trans ?_
  exact (List.perm_middle (l₁ := out)).symm
theorem sortT_nodec (t : List ByteArray) : nodecT (sortT t) := foldT_nodec t [] .nil
theorem sortT_perm (t : List ByteArray) : (sortT t).Perm t := foldT_perm t []
theorem sortT_is {l X : List ByteArray} (h : nodecT X) (hp : X.Perm l) : X = sortT l := by
 refine List.Perm.eq_of_pairwise (le := fun x y : ByteArray => blt y x = false) (fun a b ha hb h1 h2 => ?_) h (sortT_nodec l) (hp.trans (sortT_perm l).symm)
 rcases blt_tri a b with h | h | h
 ·rw [h] at h2; cases h2
 ·exact h
 ·rw [h] at h1; cases h1
def byL (l : List ByteArray) : List (List UInt8) := l.map fun s => s.data.toList
theorem byL_back (l : List ByteArray) : (byL l).map (fun x => (⟨x.toArray⟩ : ByteArray)) = l := by
 unfold byL
 rw [List.map_map]
 conv => rhs; rw [← List.map_id l]
 exact List.map_congr_left fun s _ => rfl
theorem merge_sortT (l : List ByteArray) : ((byL l).mergeSort fun x y => decide (x ≤ y)).map (fun x => (⟨x.toArray⟩ : ByteArray)) = sortT l := by
 refine sortT_is ?_ ?_
 ·unfold nodecT
  rw [List.pairwise_map]
  have h := List.pairwise_mergeSort (le := fun x y : List UInt8 => decide (x ≤ y)) (fun a b c h1 h2 => by
   simp only [decide_eq_true_eq] at *; exact List.le_trans h1 h2) (fun a b => by
   simp only [Bool.or_eq_true, decide_eq_true_eq]; exact List.le_total a b) (byL l)
  refine h.imp fun {a b} hab => ?_
  simp only [decide_eq_true_eq] at hab
  rw [blt, Lib.toList_data, Lib.toList_data, bytesLess_eq, decide_eq_false_iff_not]
  exact List.not_lt.2 hab
 ·have := (List.mergeSort_perm (byL l) fun x y => decide (x ≤ y)).map (fun x => (⟨x.toArray⟩ : ByteArray))
  rwa [byL_back] at this
end Go.Tr
