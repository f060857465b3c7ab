/-
  Plain: sorted rows.
-/
import Derived.Test.YtkonlklieacjoaaDoorTsA
set_option linter.unusedSimpArgs false
set_option linter.unusedVariables false
namespace Go.Tr
open Go
def nodec (t : List Ent) : Prop := t.Pairwise fun x y => blt y.1 x.1 = false
theorem not_lt_trans {a b c : ByteArray} (h1 : blt b a = false) (h2 : blt c b = false) : blt c a = false := by
 cases e : blt c a with
 | false => rfl
 | true =>
  rcases blt_tri a b with h | h | h
  ·rw [blt_trans e h] at h2; cases h2
  ·rw [← h, e] at h2; cases h2
  ·rw [h] at h1; cases h1
theorem insS_nodec {out : List Ent} {e : Ent} (h : nodec out) : nodec (insS out e) := by
 unfold insS
 induction out with
 | nil => simp [nodec]
 | cons x r ih =>
  obtain ⟨hx, hr⟩ := List.pairwise_cons.1 h
  cases hb : blt x.1 e.1 with
  | true =>
   simp only [List.takeWhile_cons, List.dropWhile_cons, hb, if_true, List.cons_append]
   refine List.pairwise_cons.2 ⟨fun y hy => ?_, ih hr⟩
   rcases List.mem_append.1 hy with hy | hy
   ·exact hx y ((List.takeWhile_sublist _).subset hy)
   ·rcases List.mem_cons.1 hy with rfl | hy
    ·exact blt_asymm hb
    ·exact hx y ((List.dropWhile_sublist _).subset hy)
  | false =>
   simp only [List.takeWhile_cons, List.dropWhile_cons, hb, Bool.false_eq_true, if_false, List.nil_append]
   refine List.pairwise_cons.2 ⟨fun y hy => ?_, h⟩
   rcases List.mem_cons.1 hy with rfl | hy
   ·exact hb
   ·exact not_lt_trans hb (hx y hy)
theorem insS_perm (out : List Ent) (e : Ent) : (insS out e).Perm (e :: out) := by
 unfold insS
 refine List.perm_middle.trans (List.Perm.cons e ?_)
 rw [List.takeWhile_append_dropWhile]
theorem sort_nodec : ∀ (t out : List Ent), nodec out → nodec (t.foldl insS out)
 | [], out, h => h
 | e :: t, out, h => by rw [List.foldl_cons]; exact sort_nodec t _ (insS_nodec h)
theorem sort_perm : ∀ (t out : List Ent), (t.foldl insS out).Perm (out ++ t)
 | [], out => by simp
 | e :: t, out => by
  rw [List.foldl_cons]
  refine (sort_perm t _).trans ?_
  refine (List.Perm.append_right t (insS_perm out e)).trans ?_
  exact (List.perm_middle (l₁ := out)).symm
theorem sortS_nodec (t : List Ent) : nodec (sortS t) := sort_nodec t [] .nil
theorem sortS_perm (t : List Ent) : (sortS t).Perm t := sort_perm t []
theorem nodec_is {l X : List Ent} (hn : nodec l) (h : rise X) (hp : l.Perm X) : l = X := by
 refine List.Perm.eq_of_pairwise (le := fun x y : Ent => blt y.1 x.1 = false) (fun a b ha hb h1 h2 => ?_) hn (h.imp fun hh => blt_asymm hh) hp
 have he : a.1 = b.1 := by
  rcases blt_tri a.1 b.1 with h | h | h
  ·rw [h] at h2; cases h2
  ·exact h
  ·rw [h] at h1; cases h1
 have ha' : a ∈ X := hp.mem_iff.1 ha
 obtain ⟨i, hi, rfl⟩ := List.getElem_of_mem ha'
 obtain ⟨j, hj, rfl⟩ := List.getElem_of_mem hb
 have := rise_inj h hi hj he
 subst this
 rfl
theorem sort_is {l X : List Ent} (h : rise X) (hp : l.Perm X) : sortS l = X := nodec_is (sortS_nodec l) h ((sortS_perm l).trans hp)
end Go.Tr
