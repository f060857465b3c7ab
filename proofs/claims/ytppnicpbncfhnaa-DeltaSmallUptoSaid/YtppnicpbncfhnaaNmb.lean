/-
  A variable named anew.
-/
import Derived.Test.YtppnicpbncfhnaaGd
set_option linter.unusedSimpArgs false
set_option linter.unusedVariables false
namespace Go.Eng
open Go Go.RowKit
section
variable {P : Program} {N : Nat} {x : Code} {Q : HPost} {c : Ctx} {S S' : HS} {look : Nat → Option Value} {w : World}
theorem Inv.nameB (I : Inv c S look w) {a b ty : Nat} {cells : List HV} (hab : a ≠ b) (hb : rlk S.st b = none) (ha : rlk S.st a = some (.bx true ty cells)) : Inv c (S.name a b) look w := by
  obtain ⟨ρ, xs, G⟩ := I
  let ρ' : Nat → Value := fun i => if i = b then ρ a else ρ i
  let xs' : Nat → List Value := fun i => if i = b then xs a else xs i
  have hm : ∀ i j, nm a b i = some j → ρ' j = ρ i := fun i j h => by
    unfold nm at h
    by_cases e : i = a
    · rw [if_pos e] at h; simp only [Option.some.injEq] at h; subst h; subst e; show (if b = b then _ else _) = _; rw [if_pos rfl]
    · rw [if_neg e] at h
      by_cases e2 : i = b
      · rw [if_pos e2] at h; cases h
      · rw [if_neg e2] at h; simp only [Option.some.injEq] at h; subst h; show (if i = b then _ else _) = _; rw [if_neg e2]
  have back : ∀ i r, rlk (S.name a b).st i = some r → ∃ j r0, nm a b j = some i ∧ rlk S.st j = some r0 ∧ r = r0.ren (nm a b) ∧ xs' i = xs j := by
    intro i r hi
    simp only [HS.name, rlk_sren hab _ hb] at hi
    by_cases e : i = b
    · subst e
      rw [if_pos rfl, ha] at hi
      simp only [Option.map_some, Option.some.injEq] at hi
      exact ⟨a, _, by simp [nm], ha, hi.symm, by show (if i = i then _ else _) = _; rw [if_pos rfl]⟩
    · rw [if_neg e] at hi
      by_cases e2 : i = a
      · rw [if_pos e2] at hi; cases hi
      · rw [if_neg e2] at hi
        cases hs : rlk S.st i with
        | none => rw [hs] at hi; cases hi
        | some r0 =>
          rw [hs] at hi
          simp only [Option.map_some, Option.some.injEq] at hi
          exact ⟨i, r0, by simp [nm, e, e2], hs, hi.symm, by show (if i = b then _ else _) = _; rw [if_neg e]⟩
  have hA : ∀ g, c.A ρ' (S.name a b).st g → c.A ρ S.st g := by
    rintro g (h0 | ⟨i, r, hi, hg⟩)
    · exact .inl h0
    · obtain ⟨j, r0, h1, h2, -, -⟩ := back i r hi
      rw [hm j i h1] at hg
      exact .inr ⟨j, r0, h2, hg⟩
  have tr : ∀ v y, RepH w (c.A ρ S.st) c.n0 ρ v y → RepH w (c.A ρ' (S.name a b).st) c.n0 ρ' v (y.ren (nm a b)) := fun v y h => (h.up (Nat.le_refl _) (fun _ _ _ => rfl) (fun b _ => hA b) (Nat.le_refl _)).ren hm
  refine ⟨ρ', xs', fun i r hi => ?_, fun i j r s g hne hi hj hgi hgj => ?_, fun k y hk => ?_, G.kept, G.a0⟩
  · obtain ⟨j, r0, h1, h2, rfl, h4⟩ := back i r hi
    have R := G.rows j r0 h2
    obtain ⟨f1, f2, f3, f4⟩ := Row.ren_facts (nm a b) r0
    rw [h4]
    refine ⟨by rw [f1, f2, f3, hm j i h1]; exact R.own, ?_, fun g hg => by rw [f4]; rw [hm j i h1] at hg; exact R.new g hg⟩
    have rp := R.rep
    cases r0 with
    | sl nw ty sz els =>
      refine ⟨rp.1, fun p k hp hk => ?_⟩
      obtain ⟨u, u1, u2, u3⟩ := rp.2 p k hp hk
      exact ⟨u, u1, u2, u3.up (Nat.le_refl _) (fun _ _ _ => rfl) (fun b _ => hA b) (Nat.le_refl _)⟩
    | bx nw ty cells =>
      refine ⟨?_, fun k hk => ?_⟩
      · obtain ⟨g, g1, g2⟩ := rp.1
        refine ⟨g, by rw [hm j i h1]; exact g1, fun hnw => ?_⟩
        have hji : j = i := by
          unfold nm at h1
          by_cases e : j = a
          · subst e; rw [ha] at h2; cases h2; cases hnw
          · rw [if_neg e] at h1
            by_cases e2 : j = b
            · rw [if_pos e2] at h1; cases h1
            · rw [if_neg e2] at h1; exact Option.some.inj h1
        rw [← hji]
        exact g2 hnw
      · rw [List.length_map] at hk
        obtain ⟨u, u1, u2, u3⟩ := rp.2 k hk
        refine ⟨u, u1, u2, ?_⟩
        rw [List.getElem_map]
        exact tr _ _ u3
    | hl nw ty sz els =>
      refine ⟨fun y hy => ?_, fun p k hp hk => ?_⟩
      · obtain ⟨z, hz, rfl⟩ := List.mem_map.1 hy
        rw [List.length_map]; exact rp.1 z hz
      · simp only [List.length_map] at hp
        simp only [List.getElem_map, List.length_map] at hk ⊢
        obtain ⟨u, u1, u2, u3⟩ := rp.2 p k hp hk
        exact ⟨u, u1, u2, tr _ _ u3⟩
  · obtain ⟨i', r0, h1, h2, -, -⟩ := back i r hi
    obtain ⟨j', s0, h3, h4, -, -⟩ := back j s hj
    rw [hm i' i h1] at hgi
    rw [hm j' j h3] at hgj
    exact G.apart i' j' r0 s0 g (fun e => hne (by subst e; rw [h1] at h3; exact Option.some.inj h3)) h2 h4 hgi hgj
  · simp only [HS.name, hlk_eren] at hk
    cases hx0 : hlk S.env k with
    | none => rw [hx0] at hk; cases hk
    | some x0 =>
      rw [hx0] at hk
      simp only [Option.map_some, Option.some.injEq] at hk
      subst hk
      obtain ⟨v, h1, h2⟩ := G.env k x0 hx0
      exact ⟨v, h1, tr v x0 h2⟩
theorem HW_nameB (a b : Nat) {ty : Nat} {cells : List HV} (hab : a ≠ b) (hb : rlk S.st b = none) (ha : rlk S.st a = some (.bx true ty cells)) (hs : S.name a b = S') (h : HW P N x Q S') : HW P N x Q S := fun c l w I => h c l w (hs ▸ I.nameB hab hb ha)
end
end Go.Eng
