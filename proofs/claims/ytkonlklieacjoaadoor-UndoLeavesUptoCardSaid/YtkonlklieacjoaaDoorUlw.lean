/-
  Plain: records of what made three trees of three others, taken back.
-/
import Derived.Test.YtkonlklieacjoaaDoorUgc
set_option linter.unusedSimpArgs false
set_option linter.unusedVariables false
namespace Go.Tr
open Go Go.Lib
set_option maxRecDepth 20000
theorem chS_rise (sp : Int) (A B : Tri) : riseC (changesS sp A B) := by
 unfold riseC changesS
 rw [List.pairwise_map]
 exact picks_rise _ _ none (sortS_nodec _) (fun p h => by cases h)
theorem dif_iff {A B : Tri} {p : ByteArray} : difAt A B p = true ↔ ∃ k, k < 3 ∧ getN (tr A k) p ≠ getN (tr B k) p := by
 unfold difAt
 rw [Bool.not_eq_true', decide_eq_false_iff_not]
 constructor
 ·intro h
  apply Classical.byContradiction
  intro hn
  refine h ⟨Classical.byContradiction fun e => hn ⟨0, by decide, e⟩, Classical.byContradiction fun e => hn ⟨1, by decide, e⟩, Classical.byContradiction fun e => hn ⟨2, by decide, e⟩⟩
 ·rintro ⟨k, hk, hne⟩ ⟨h0, h1, h2⟩
  rcases three hk with rfl | rfl | rfl
  ·exact hne h0
  ·exact hne h1
  ·exact hne h2
theorem chgAt_b (sp : Int) (A B : Tri) (p : ByteArray) {k : Nat} (hk : k < 3) : (chgAt sp A B p).b k = getN (tr A k) p := by
 rcases three hk with rfl | rfl | rfl <;> rfl
theorem chgAt_a (sp : Int) (A B : Tri) (p : ByteArray) {k : Nat} (hk : k < 3) : (chgAt sp A B p).a k = getN (tr B k) p := by
 rcases three hk with rfl | rfl | rfl <;> rfl
theorem mem_catT {A B : Tri} {e : Ent} : ∀ {n : Nat}, e ∈ catT A B n ↔ ∃ k, k < n ∧ (e ∈ tr A k ∨ e ∈ tr B k)
 | 0 => by simp [catT]
 | n + 1 => by
  rw [catT, List.mem_append, List.mem_append, mem_catT (n := n)]
  constructor
  ·rintro ((⟨k, h1, h2⟩ | h) | h)
   ·exact ⟨k, by omega, h2⟩
   ·exact ⟨n, by omega, .inl h⟩
   ·exact ⟨n, by omega, .inr h⟩
  ·rintro ⟨k, h1, h2⟩
   rcases Nat.lt_or_ge k n with h | h
   ·exact .inl (.inl ⟨k, h, h2⟩)
   ·have : k = n := by omega
    subst this
    rcases h2 with h2 | h2
    ·exact .inl (.inr h2)
    ·exact .inr h2
theorem chS_mem {sp : Int} {A B : Tri} {c : Chg} : c ∈ changesS sp A B ↔ difAt A B c.p = true ∧ c = chgAt sp A B c.p := by
 unfold changesS
 constructor
 ·intro h
  obtain ⟨p, hp, rfl⟩ := List.mem_map.1 h
  exact ⟨((picks_mem _ p _ none (sortS_nodec _) (fun p h => by cases h)).1 hp).2.1, rfl⟩
 ·rintro ⟨h1, h2⟩
  rw [h2]
  refine List.mem_map.2 ⟨c.p, (picks_mem _ c.p _ none (sortS_nodec _) (fun p h => by cases h)).2 ⟨?_, h1, by simp⟩, rfl⟩
  obtain ⟨k, hk, hne⟩ := dif_iff.1 h1
  have : ∃ e, (e ∈ tr A k ∨ e ∈ tr B k) ∧ e.1 = c.p := by
   by_cases h0 : getN (tr A k) c.p = nil0
   ·obtain ⟨e, he, e1⟩ := there_getN (t := tr B k) (p := c.p) (fun h => hne (by rw [h0, h]))
    exact ⟨e, .inr he, e1⟩
   ·obtain ⟨e, he, e1⟩ := there_getN h0
    exact ⟨e, .inl he, e1⟩
  obtain ⟨e, he, e1⟩ := this
  exact ⟨e, (sortS_perm _).mem_iff.2 (mem_catT.2 ⟨k, hk, he⟩), e1⟩
theorem chS_size {sp : Int} {A B : Tri} (hA : Tree3 A) (hB : Tree3 B) : ∀ c ∈ changesS sp A B, c.p.size ≤ 1048576 := fun c hc => by
 obtain ⟨h1, -⟩ := chS_mem.1 hc
 obtain ⟨k, hk, hne⟩ := dif_iff.1 h1
 have : pOk c.p 5 = true := by
  by_cases h0 : getN (tr A k) c.p = nil0
  ·exact (hB.tr k).pok (fun h => hne (by rw [h0, (hB.tr k).kind0.1 h]))
  ·exact (hA.tr k).pok (fun h => h0 ((hA.tr k).kind0.1 h))
 have := pOk_size (d := 5) this
 omega
theorem picks_len (f : ByteArray → Bool) : ∀ (pr : Option ByteArray) (t : List Ent), (picks f pr t).length ≤ t.length
 | _, [] => Nat.le_refl _
 | pr, x :: r => by
  rw [picks]
  have := picks_len f (some x.1) r
  split <;> simp only [List.length_cons] <;> omega
theorem chS_len {sp : Int} {A B : Tri} (hA : Tree3 A) (hB : Tree3 B) : (changesS sp A B).length ≤ 1200 := by
 unfold changesS
 rw [List.length_map]
 have h1 := picks_len (difAt A B) none (sortS (catT A B 3))
 rw [(sortS_perm _).length_eq] at h1
 have h2 := catT_len (A := A) (B := B) (fun i _ => (hA.tr i).len) (fun i _ => (hB.tr i).len) 3 (Nat.le_refl _)
 omega
theorem blt_ne' {p q : ByteArray} (h : blt p q = true) : p ≠ q := fun e => by rw [e, blt_irr] at h; cases h
theorem act_kind {k : Nat} {pass : Bool} {c : Chg} (h : act k pass c = true) : c.b k ≠ c.a k ∧ decide ((c.b k).1 = 0) = pass := by
 rw [act, Bool.and_eq_true, Bool.not_eq_true', decide_eq_false_iff_not, beq_iff_eq] at h
 exact h
theorem act_of {k : Nat} {pass : Bool} {c : Chg} (h1 : c.b k ≠ c.a k) (h2 : decide ((c.b k).1 = 0) = pass) : act k pass c = true := by
 rw [act, decide_eq_false h1, h2]; simp
theorem lab_mem {L : List Chg} {x : Nat × Chg} (h : x ∈ lab L) : x.2 ∈ L := by
 obtain ⟨i, hi, rfl⟩ := List.getElem_of_mem h
 rw [lab_get]
 exact List.getElem_mem _
theorem mem_lab {L : List Chg} {c : Chg} (h : c ∈ L) : ∃ x ∈ lab L, x.2 = c := by
 obtain ⟨i, hi, rfl⟩ := List.getElem_of_mem h
 exact ⟨_, List.getElem_mem (l := lab L) (n := i) (by rw [lab_len]; exact hi), by rw [lab_get]⟩
end Go.Tr
