/-
  The document's Size, Diff; are two lists of texts alike: walked.
-/
import Derived.Test.YtkonlklieacjoaaDoorTsA
import Derived.Test.YtkonlklieacjoaaDoorSl
import Derived.Test.YtkonlklieacjoaaDoorTrL
import Derived.Test.YtkonlklieacjoaaDoorTrO
section
set_option linter.unusedSimpArgs false
set_option linter.unusedVariables false
namespace Go.Tr
open Go
def nodec (t : List Ent) : Prop := t.Pairwise fun x y => blt y.1 x.1 = false
theorem not_lt_trans {a b c : ByteArray} (h1 : blt b a = false) (h2 : blt c b = false) : blt c a = false := by
 cases e : blt c a with
 | false => rfl
 | true =>
  rcases blt_tri a b with h | h | h
  ·rw [blt_trans e h] at h2; cases h2
  ·rw [← h, e] at h2; cases h2
  ·rw [h] at h1; cases h1
theorem insS_nodec {out : List Ent} {e : Ent} (h : nodec out) : nodec (insS out e) := by
 unfold insS
 induction out with
 | nil => simp [nodec]
 | cons x r ih =>
  obtain ⟨hx, hr⟩ := List.pairwise_cons.1 h
  cases hb : blt x.1 e.1 with
  | true =>
   simp only [List.takeWhile_cons, List.dropWhile_cons, hb, if_true, List.cons_append]
   refine List.pairwise_cons.2 ⟨fun y hy => ?_, ih hr⟩
   rcases List.mem_append.1 hy with hy | hy
   ·exact hx y ((List.takeWhile_sublist _).subset hy)
   ·rcases List.mem_cons.1 hy with rfl | hy
    ·exact blt_asymm hb
    ·exact hx y ((List.dropWhile_sublist _).subset hy)
  | false =>
   simp only [List.takeWhile_cons, List.dropWhile_cons, hb, Bool.false_eq_true, if_false, List.nil_append]
   refine List.pairwise_cons.2 ⟨fun y hy => ?_, h⟩
   rcases List.mem_cons.1 hy with rfl | hy
   ·exact hb
   ·exact not_lt_trans hb (hx y hy)
theorem insS_perm (out : List Ent) (e : Ent) : (insS out e).Perm (e :: out) := by
 unfold insS
 refine List.perm_middle.trans (List.Perm.cons e ?_)
 rw [List.takeWhile_append_dropWhile]
theorem sort_nodec : ∀ (t out : List Ent), nodec out → nodec (t.foldl insS out)
 | [], out, h => h
 | e :: t, out, h => by rw [List.foldl_cons]; exact sort_nodec t _ (insS_nodec h)
theorem sort_perm : ∀ (t out : List Ent), (t.foldl insS out).Perm (out ++ t)
 | [], out => by simp
 | e :: t, out => by
  rw [List.foldl_cons]
  refine (sort_perm t _).trans ?_
  refine (List.Perm.append_right t (insS_perm out e)).trans ?_
  exact (List.perm_middle (l₁ := out)).symm
theorem sortS_nodec (t : List Ent) : nodec (sortS t) := sort_nodec t [] .nil
theorem sortS_perm (t : List Ent) : (sortS t).Perm t := sort_perm t []
end Go.Tr
end
section
set_option linter.unusedSimpArgs false
set_option linter.unusedVariables false
namespace Go.Tr
open Go
def picks (f : ByteArray → Bool) : Option ByteArray → List Ent → List ByteArray
 | _, [] => []
 | prev, x :: r => if prev ≠ some x.1 ∧ f x.1 = true then x.1 :: picks f (some x.1) r else picks f (some x.1) r
theorem picks_mem (f : ByteArray → Bool) (q : ByteArray) : ∀ (t : List Ent) (prev : Option ByteArray), nodec t → (∀ p, prev = some p → ∀ x ∈ t, blt x.1 p = false) → (q ∈ picks f prev t ↔ (∃ x ∈ t, x.1 = q) ∧ f q = true ∧ prev ≠ some q)
 | [], prev, _, _ => by simp [picks]
 | x :: r, prev, h, hp => by
  obtain ⟨hx, hr⟩ := List.pairwise_cons.1 h
  have ih := picks_mem f q r (some x.1) hr (fun p e y hy => by simp only [Option.some.injEq] at e; subst e; exact hx y hy)
  have later : prev = some q → x.1 ≠ q → ¬ ∃ y ∈ r, y.1 = q := fun e hne ⟨y, hy, hyq⟩ => by
   have h1 := hp q e x (by simp)
   have h2 := hx y hy
   rw [hyq] at h2
   rcases blt_tri x.1 q with h | h | h
   ·rw [h] at h1; cases h1
   ·exact hne h
   ·rw [h] at h2; cases h2
  rw [picks]
  by_cases hc : prev ≠ some x.1 ∧ f x.1 = true
  ·rw [if_pos hc, List.mem_cons, ih]
   constructor
   ·rintro (rfl | ⟨⟨y, hy, hyq⟩, hf, hne⟩)
    ·exact ⟨⟨x, by simp, rfl⟩, hc.2, hc.1⟩
    ·exact ⟨⟨y, by simp [hy], hyq⟩, hf, fun e => later e (fun e' => hne (by rw [e'])) ⟨y, hy, hyq⟩⟩
   ·rintro ⟨⟨y, hy, hyq⟩, hf, hne⟩
    by_cases e : x.1 = q
    ·exact .inl e.symm
    ·rcases List.mem_cons.1 hy with rfl | hy
     ·exact absurd hyq e
     ·exact .inr ⟨⟨y, hy, hyq⟩, hf, fun e' => e (Option.some.inj e')⟩
  ·rw [if_neg hc, ih]
   constructor
   ·rintro ⟨⟨y, hy, hyq⟩, hf, hne⟩
    exact ⟨⟨y, by simp [hy], hyq⟩, hf, fun e => later e (fun e' => hne (by rw [e'])) ⟨y, hy, hyq⟩⟩
   ·rintro ⟨⟨y, hy, hyq⟩, hf, hne⟩
    have e : x.1 ≠ q := fun e => hc ⟨by rw [e]; exact hne, by rw [e]; exact hf⟩
    rcases List.mem_cons.1 hy with rfl | hy
    ·exact absurd hyq e
    ·exact ⟨⟨y, hy, hyq⟩, hf, fun e' => e (Option.some.inj e')⟩
theorem picks_rise (f : ByteArray → Bool) : ∀ (t : List Ent) (prev : Option ByteArray), nodec t → (∀ p, prev = some p → ∀ x ∈ t, blt x.1 p = false) → (picks f prev t).Pairwise fun p q => blt p q = true
 | [], prev, _, _ => .nil
 | x :: r, prev, h, hp => by
  obtain ⟨hx, hr⟩ := List.pairwise_cons.1 h
  have hp' : ∀ p, some x.1 = some p → ∀ y ∈ r, blt y.1 p = false := fun p e y hy => by simp only [Option.some.injEq] at e; subst e; exact hx y hy
  have ih := picks_rise f r (some x.1) hr hp'
  rw [picks]
  split
  ·refine List.pairwise_cons.2 ⟨fun q hq => ?_, ih⟩
   obtain ⟨⟨y, hy, hyq⟩, -, hne⟩ := (picks_mem f q r (some x.1) hr hp').1 hq
   have h2 := hx y hy
   rw [hyq] at h2
   rcases blt_tri x.1 q with h | h | h
   ·exact h
   ·exact absurd (by rw [h]) hne
   ·rw [h] at h2; cases h2
  ·exact ih
theorem there_getN {t : List Ent} {p : ByteArray} (h : getN t p ≠ nil0) : ∃ e ∈ t, e.1 = p := by
 cases e : there t p with
 | false => exact absurd (getN_none e) h
 | true =>
  obtain ⟨x, hx, hp⟩ := List.any_eq_true.1 e
  exact ⟨x, hx, by simpa using hp⟩
end Go.Tr
end
section
set_option linter.unusedSimpArgs false
set_option linter.unusedVariables false
set_option maxRecDepth 20000
namespace Go.Proofs.YtkonlklieacjoaaDoor
open Go Go.Eng Go.RowKit Go.Tr
end Go.Proofs.YtkonlklieacjoaaDoor
end
section
set_option linter.unusedSimpArgs false
set_option linter.unusedVariables false
set_option maxRecDepth 20000
namespace Go.Proofs.YtkonlklieacjoaaDoor
open Go Go.Eng Go.RowKit Go.Tr
def prevE (t : List Ent) (i : Nat) : Option ByteArray := if i = 0 then none else some (atE0 t (i - 1))
where atE0 (t : List Ent) (i : Nat) : ByteArray := (t.getD i (ByteArray.empty, 0, ByteArray.empty)).1
end Go.Proofs.YtkonlklieacjoaaDoor
end
