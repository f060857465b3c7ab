/-
  Plain: what the document's Put answers is what tree.Put answers.
-/
import Derived.Test.YtkonlklieacjoaaDoorTpE
import Derived.Test.YtkonlklieacjoaaDoorTsP
import Derived.Test.YtkonlklieacjoaaDoorTrM
set_option linter.unusedSimpArgs false
set_option linter.unusedVariables false
namespace Go.Tr
open Go
theorem sort_is {l X : List Ent} (h : rise X) (hp : l.Perm X) : sortS l = X := by
 refine List.Perm.eq_of_pairwise (le := fun x y : Ent => blt y.1 x.1 = false) (fun a b ha hb h1 h2 => ?_) (sortS_nodec l) (h.imp fun hh => blt_asymm hh) ((sortS_perm l).trans hp)
 have he : a.1 = b.1 := by
  rcases blt_tri a.1 b.1 with h | h | h
  ·rw [h] at h2; cases h2
  ·exact h
  ·rw [h] at h1; cases h1
 have ha' : a ∈ X := ((sortS_perm l).trans hp).mem_iff.1 ha
 obtain ⟨i, hi, rfl⟩ := List.getElem_of_mem ha'
 obtain ⟨j, hj, rfl⟩ := List.getElem_of_mem hb
 have := rise_inj h hi hj he
 subst this
 rfl
theorem mid_rise {a b : List Ent} {e : Ent} (h : rise (a ++ b)) (h1 : ∀ x ∈ a, blt x.1 e.1 = true) (h2 : ∀ y ∈ b, blt e.1 y.1 = true) : rise (a ++ e :: b) := by
 obtain ⟨ra, rb, rab⟩ := List.pairwise_append.1 h
 refine List.pairwise_append.2 ⟨ra, List.pairwise_cons.2 ⟨h2, rb⟩, fun x hx y hy => ?_⟩
 rcases List.mem_cons.1 hy with rfl | hy
 ·exact h1 x hx
 ·exact rab x hx y hy
theorem there_kind {t : List Ent} (h : okR t = true) (p : ByteArray) : there t p = !decide ((getN t p).1 = 0) := by
 have ri := okR_rise h
 cases th : there t p with
 | false => rw [getN_none th]; rfl
 | true =>
  have tp := there_place ri p
  rw [th] at tp
  obtain ⟨hlt, hat⟩ := of_decide_eq_true tp.symm
  have hg := getN_at ri hlt
  rw [hat] at hg
  rw [hg]
  have := all_range.1 h _ hlt
  simp only [rowR, rowA, Bool.and_eq_true, Bool.not_eq_true', decide_eq_false_iff_not] at this
  rw [atE_eq hlt] at this
  rw [decide_eq_false this.1.2.2.1]; rfl
theorem put_put {t : List Ent} (ri : rise t) (p : ByteArray) (n : Int × ByteArray) : rputT t p n = putT t p n := by
 unfold rputT putT
 by_cases hE : putE t p n = 0
 ·rw [if_pos hE, if_pos hE]
  have tp := there_place ri p
  obtain ⟨s1, s2⟩ := place_spec ri p
  have pl := place_le t p
  have hleft : ∀ x ∈ t.take (place t p), blt x.1 p = true := fun x hx => by
   obtain ⟨k, hk, rfl⟩ := List.getElem_of_mem hx
   rw [List.length_take] at hk
   rw [List.getElem_take]
   exact s1 k (by omega) (by omega)
  cases th : there t p with
  | true =>
   rw [th] at tp
   obtain ⟨hlt, hat⟩ := of_decide_eq_true tp.symm
   have hd : t = t.take (place t p) ++ t[place t p] :: t.drop (place t p + 1) := by
    rw [← List.drop_eq_getElem_cons hlt, List.take_append_drop]
   have ri2 := ri
   rw [hd] at ri2
   obtain ⟨ra, rb, rab⟩ := List.pairwise_append.1 ri2
   obtain ⟨rc, rd⟩ := List.pairwise_cons.1 rb
   rw [hat] at rc
   have rab2 : rise (t.take (place t p) ++ t.drop (place t p + 1)) := List.pairwise_append.2 ⟨ra, rd, fun x hx y hy => rab x hx y (List.mem_cons_of_mem _ hy)⟩
   have hf : (t.filter fun e => !decide (e.1 = p)) = t.take (place t p) ++ t.drop (place t p + 1) := by
    conv => lhs; rw [hd]
    rw [List.filter_append, List.filter_cons, hat]
    simp only [decide_true, Bool.not_true, Bool.false_eq_true, if_false]
    rw [List.filter_eq_self.2, List.filter_eq_self.2]
    ·intro x hx
     have := blt_ne (rc x hx)
     simp only [Bool.not_eq_true', decide_eq_false_iff_not]
     exact fun e => this e.symm
    ·intro x hx
     have := blt_ne (hleft x hx)
     simpa using this
   by_cases hk : n.1 = 0
   ·rw [rputL, if_pos hk, List.append_nil, hf, putV, if_pos hk, List.eraseIdx_eq_take_drop_succ]
    exact sort_is rab2 (List.Perm.refl _)
   ·rw [rputL, if_neg hk, hf, putV, if_neg hk, if_pos th, List.set_eq_take_append_cons_drop, if_pos hlt]
    refine sort_is (mid_rise rab2 hleft rc) ?_
    exact (List.perm_append_singleton _ _).trans List.perm_middle.symm
  | false =>
   have hf : (t.filter fun e => !decide (e.1 = p)) = t := by
    rw [List.filter_eq_self]
    intro x hx
    have := List.any_eq_false.1 th x hx
    simpa using this
   have hright : ∀ y ∈ t.drop (place t p), blt p y.1 = true := fun y hy => by
    have hne : ¬ y.1 = p := fun e => by
     have := List.any_eq_false.1 th y (List.mem_of_mem_drop hy)
     exact this (by simp [e])
    obtain ⟨k, hk, rfl⟩ := List.getElem_of_mem hy
    rw [List.length_drop] at hk
    rw [List.getElem_drop] at hne ⊢
    have := s2 (place t p + k) (by omega) (by omega)
    rcases blt_tri t[place t p + k].1 p with h | h | h
    ·rw [h] at this; cases this
    ·exact absurd h hne
    ·exact h
   have hk : n.1 ≠ 0 := fun hk => by
    have hu := hE
    unfold putE at hu
    rw [if_pos hk, th] at hu
    split at hu
    ·cases hu
    ·split at hu
     ·cases hu
     ·cases hu
   rw [rputL, if_neg hk, hf, putV, if_neg hk, if_neg (by rw [th]; decide)]
   refine sort_is (mid_rise (by rw [List.take_append_drop]; exact ri) hleft hright) ?_
   refine (List.perm_append_singleton _ _).trans ?_
   refine List.Perm.trans ?_ List.perm_middle.symm
   rw [List.take_append_drop]
 ·rw [if_neg hE, if_neg hE]
theorem putT_len (t : List Ent) (p : ByteArray) (n : Int × ByteArray) : (putT t p n).length ≤ t.length + 1 := by
 unfold putT putV
 split
 ·split
  ·have := List.length_eraseIdx_le t (place t p); omega
  ·split
   ·rw [List.length_set]; omega
   ·simp; omega
 ·simp
end Go.Tr
