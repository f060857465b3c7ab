/-
  A nil slice in a variable's cell becomes a row, with a map beside the state.
-/
import Derived.Test.YtppnicpbncfhnaaMar
set_option linter.unusedSimpArgs false
set_option linter.unusedVariables false
namespace Go.Eng
open Go Go.RowKit
section
variable {P : Program} {N : Nat} {mk me : TypeId} {r : Nat} {x : Code} {S S' : HS} {g : MSt} {Q : Exit → MSt → HS → Prop}
theorem HWm_ownB (id k nid ty sz : Nat) {nw : Bool} {bt : Nat} {cells : List HV} (hne : id ≠ nid) (hr : rlk S.st id = some (.bx nw bt cells)) (hk : cells[k]? = some (.v (.slice none 0 0)))
    (hs : (⟨ekill (only nid) S.env, (nid, .sl true ty sz []) :: sset id (.bx nw bt ((cells.map (HV.kill (only nid))).set k (.own nid))) (skill (only nid) S.st)⟩ : HS) = S') (h : HWm P N mk me r x Q g S') : HWm P N mk me r x Q g S := fun c l w hcr I M => by
  subst hs
  refine h c l w hcr ?_ M
  obtain ⟨ρ, xs, G⟩ := I
  have G2 := G.new nid (.sl true ty sz []) [] (.slice none 0 0) (w' := w) (Below.refl _ _) (fun b hb => by cases hb) (fun _ _ =>
    ⟨by rw [setR_self]; exact World.ownsRow_nil w 0 ty sz, ⟨by simp, fun i k hi => absurd hi (by simp)⟩, fun b hb => by rw [setR_self] at hb; cases hb⟩)
  have hr2 : rlk (skill (only nid) S.st) id = some (.bx nw bt (cells.map (HV.kill (only nid)))) := by rw [rlk_skill, only_ne hne, cond_false, hr]; rfl
  have hl : ∀ i, rlk ((nid, Row.sl true ty sz []) :: sset id (.bx nw bt ((cells.map (HV.kill (only nid))).set k (.own nid))) (skill (only nid) S.st)) i =
      if i = id then some (.bx nw bt ((cells.map (HV.kill (only nid))).set k (.own nid))) else rlk ((nid, Row.sl true ty sz []) :: skill (only nid) S.st) i := fun i => by
    simp only [rlk]
    by_cases e : nid = i
    · rw [if_pos e, if_neg (by omega), if_pos e]
    · rw [if_neg e, rlk_sset id _ _ _ hr2]
      by_cases e2 : i = id
      · rw [if_pos e2, if_pos e2]
      · rw [if_neg e2, if_neg e2, if_neg e]
  have hid : rlk ((nid, Row.sl true ty sz []) :: skill (only nid) S.st) id = some (.bx nw bt (cells.map (HV.kill (only nid)))) := by simp only [rlk]; rw [if_neg (by omega)]; exact hr2
  have hA : ∀ b, c.A (setR ρ nid (.slice none 0 0)) ((nid, Row.sl true ty sz []) :: sset id (.bx nw bt ((cells.map (HV.kill (only nid))).set k (.own nid))) (skill (only nid) S.st)) b → c.A (setR ρ nid (.slice none 0 0)) ((nid, Row.sl true ty sz []) :: skill (only nid) S.st) b := by
    rintro b (h0 | ⟨i, s, hi, hb⟩)
    · exact .inl h0
    · right
      rw [hl] at hi
      by_cases e : i = id
      · subst e; exact ⟨_, _, hid, hb⟩
      · rw [if_neg e] at hi; exact ⟨i, s, hi, hb⟩
  refine ⟨setR ρ nid (.slice none 0 0), fun i => if i = nid then [] else xs i, ⟨fun i r hi => ?_, fun i j r s b hne hi hj hbi hbj => ?_, fun j y hj => ?_, G2.kept, G2.a0⟩⟩
  · rw [hl] at hi
    by_cases e : i = id
    · subst e
      rw [if_pos rfl] at hi
      simp only [Option.some.injEq] at hi
      subst hi
      have R := G2.rows i _ hid
      refine ⟨by simpa [Row.ty, Row.sz, Row.len] using R.own, ⟨R.rep.1, fun q hq => ?_⟩, R.new⟩
      have hq' : q < (cells.map (HV.kill (only nid))).length := by simpa using hq
      obtain ⟨u, u1, u2, u3⟩ := R.rep.2 q hq'
      by_cases eq : k = q
      · subst eq
        refine ⟨u, u1, u2, ?_⟩
        rw [List.getElem_set_self]
        have hc : cells[k]'(by simpa using hq') = .v (.slice none 0 0) := by
          have := List.getElem?_eq_some_iff.1 hk
          exact this.2
        rw [List.getElem_map, hc, HV.kill] at u3
        have := repH_v u3
        subst this
        have := RepH.own (w := w) (A := c.A (setR ρ nid (.slice none 0 0)) ((nid, Row.sl true ty sz []) :: sset i (.bx nw bt ((cells.map (HV.kill (only nid))).set k (.own nid))) (skill (only nid) S.st))) (n0 := c.n0) (ρ := setR ρ nid (.slice none 0 0)) nid (by rw [setR_self]; rfl)
        rw [setR_self] at this
        exact this
      · refine ⟨u, u1, u2, ?_⟩
        rw [List.getElem_set_ne eq]
        exact u3.up (Nat.le_refl _) (fun _ _ _ => rfl) (fun b _ => hA b) (Nat.le_refl _)
    · rw [if_neg e] at hi
      exact (G2.rows i r hi).up (Nat.le_refl _) (fun _ _ _ => rfl) (fun b _ => hA b) (fun _ _ => rfl)
  · have back : ∀ i s, rlk ((nid, Row.sl true ty sz []) :: sset id (.bx nw bt ((cells.map (HV.kill (only nid))).set k (.own nid))) (skill (only nid) S.st)) i = some s → ∃ s0, rlk ((nid, Row.sl true ty sz []) :: skill (only nid) S.st) i = some s0 := by
      intro i s hi
      rw [hl] at hi
      by_cases e : i = id
      · subst e; exact ⟨_, hid⟩
      · rw [if_neg e] at hi; exact ⟨s, hi⟩
    obtain ⟨r0, h1⟩ := back i r hi
    obtain ⟨s0, h2⟩ := back j s hj
    exact G2.apart i j r0 s0 b hne h1 h2 hbi hbj
  · obtain ⟨v, h1, h2⟩ := G2.env j y hj
    exact ⟨v, h1, h2.up (Nat.le_refl _) (fun _ _ _ => rfl) (fun b _ => hA b) (Nat.le_refl _)⟩
end
end Go.Eng
