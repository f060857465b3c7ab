/- What the walk of the law stands on. -/
import Derived.Test.YtlfenddhppoflaaGd
set_option linter.unusedSimpArgs false
set_option linter.unusedVariables false
namespace Go.Eng
open Go Go.RowKit
section
variable {P : Program} {N : Nat} {x : Code} {Q : HPost} {c : Ctx} {S S' : HS} {look : Nat → Option Value} {w : World}
theorem HW_sl (id : Nat) {ty sz : Nat} {nw : Bool} {els : List (List HV)} (ys : List (List FV)) (he : els = ys.map (List.map FV.h)) (hr : rlk S.st id = some (.hl nw ty sz els)) (hs : (⟨S.env, sset id (.sl nw ty sz ys) S.st⟩ : HS) = S') (h : HW P N x Q S') : HW P N x Q S := fun c l w I => by
 subst hs he
 refine h c l w ?_
 obtain ⟨ρ, xs, G⟩ := I
 have hl := rlk_sset id (.sl nw ty sz ys) S.st _ hr
 have hA : ∀ b, c.A ρ (sset id (.sl nw ty sz ys) S.st) b → c.A ρ S.st b := by
  rintro b (h0 | ⟨i, s, hi, hb⟩)
  ·exact .inl h0
  ·rw [hl] at hi
   by_cases e : i = id
   ·subst e; exact .inr ⟨_, _, hr, hb⟩
   ·rw [if_neg e] at hi; exact .inr ⟨i, s, hi, hb⟩
 have back : ∀ i r, rlk (sset id (.sl nw ty sz ys) S.st) i = some r → ∃ r0, rlk S.st i = some r0 := by
  intro i r hi
  rw [hl] at hi
  by_cases e : i = id
  ·subst e; exact ⟨_, hr⟩
  ·rw [if_neg e] at hi; exact ⟨r, hi⟩
 refine ⟨ρ, xs, fun i r hi => ?_, fun i j r s b hne hi hj => ?_, fun k y hk => ?_, G.kept, G.a0⟩
 ·dsimp only at hi
  rw [hl] at hi
  by_cases e : i = id
  ·subst e
   rw [if_pos rfl] at hi
   simp only [Option.some.injEq] at hi
   subst hi
   have R := G.rows i _ hr
   refine ⟨by simpa [Row.ty, Row.sz, Row.len] using R.own, ⟨fun y hy => ?_, fun p k hp hk => ?_⟩, R.new⟩
   ·have := R.rep.1 _ (List.mem_map.2 ⟨y, hy, rfl⟩)
    rwa [List.length_map] at this
   ·obtain ⟨u, u1, u2, u3⟩ := R.rep.2 p k (by rw [List.length_map]; exact hp) (by rw [List.getElem_map, List.length_map]; exact hk)
    simp only [List.getElem_map] at u3
    exact ⟨u, u1, u2, (repH_h u3).up (Nat.le_refl _) (fun _ _ _ => rfl) (fun b _ => hA b) (Nat.le_refl _)⟩
  ·rw [if_neg e] at hi
   exact (G.rows i r hi).up (Nat.le_refl _) (fun _ _ _ => rfl) (fun b _ => hA b) (fun _ _ => rfl)
 ·obtain ⟨r0, h1⟩ := back i r hi
  obtain ⟨s0, h2⟩ := back j s hj
  exact G.apart i j r0 s0 b hne h1 h2
 ·obtain ⟨v, h1, h2⟩ := G.env k y hk
  exact ⟨v, h1, h2.up (Nat.le_refl _) (fun _ _ _ => rfl) (fun b _ => hA b) (Nat.le_refl _)⟩
theorem HW_drwR2 {id : Nat} {ops : List Oper} (n : Nat) (hm : P.follows .mixedOrders = true) (hok : regOk (hkeys S.env) ops n = true)
  (h : ∀ K : HS → Prop, (∀ S', Q .normal S' → K S') → ∀ K1 : HS → Prop, (∀ S', HStop (HV2 P N (dsts ops) K (ops.drop n)) S' → K1 S') → HVr P N (dsts ops) K1 (ops.take n) S) : HW P N (.region id ops.toArray true) Q S :=
 HW_drwR n hm hok fun K hK => h K hK _ fun _ h => h
end
end Go.Eng
