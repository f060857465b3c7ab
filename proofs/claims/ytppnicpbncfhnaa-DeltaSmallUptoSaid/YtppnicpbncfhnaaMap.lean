/-
  A map of texts to numbers beside the engine's state: code that leaves it alone; a look-up; a store.
-/
import Derived.Test.YtppnicpbncfhnaaApe
import Derived.Maps.OwnSet
import Derived.Maps.Own
set_option linter.unusedSimpArgs false
set_option linter.unusedVariables false
namespace Go.Eng
open Go Go.RowKit Go.Maps
abbrev Tab := List UInt8 → Option Int
/-- block r is a map of at most n entries, that reads as M -/
def MapIs (P : Program) (k e : TypeId) (w : World) (r n : Nat) (M : Tab) : Prop :=
  ∃ D : DataW Unit, w.ownsMap P k (plainElem P e) r n D ∧ IsMap D ∧ ∀ s, Maps.has D (.string s) = (M s).isSome ∧ D.atKey (.string s) (.lit (.int .i64 0)) = .lit (.int .i64 ((M s).getD 0))
def Tab.put (M : Tab) (s : List UInt8) (i : Int) : Tab := fun t => if t = s then some i else M t
theorem mapIs_made (P : Program) (k e : TypeId) (w : World) : MapIs P k e (w.alloc (.map #[] 0)) w.heap.size 0 (fun _ => none) :=
  ⟨.map [], World.ownsMap_made w P k _, ⟨[], rfl⟩, fun s => ⟨rfl, rfl⟩⟩
theorem MapIs.block {P : Program} {k e : TypeId} {w w' : World} {r n : Nat} {M : Tab} (h : MapIs P k e w r n M) (hb : w'.heap[r]? = w.heap[r]?) : MapIs P k e w' r n M := by
  obtain ⟨D, ⟨es, cl, h1, h2, h3, h4⟩, h5⟩ := h
  exact ⟨D, ⟨es, cl, by rw [hb]; exact h1, h2, h3, h4⟩, h5⟩
theorem MapIs.lt {P : Program} {k e : TypeId} {w : World} {r n : Nat} {M : Tab} (h : MapIs P k e w r n M) : r < w.heap.size := by
  obtain ⟨D, ⟨es, cl, h1, _⟩, _⟩ := h
  exact (Array.getElem?_eq_some_iff.1 h1).1
abbrev MSt := Nat × Tab
/-- code, said of values and of the map -/
def HWm (P : Program) (N : Nat) (k e : TypeId) (r : Nat) (x : Code) (Q : Exit → MSt → HS → Prop) (g : MSt) (S : HS) : Prop :=
  ∀ (c : Ctx) (l : Env) (w : World), c.w0.heap.size ≤ r → Inv c S (lk l) w → MapIs P k e w r g.1 g.2 → W P N x (fun e' l' w' => ∃ S' g', Inv c S' (lk l') w' ∧ MapIs P k e w' r g'.1 g'.2 ∧ Q e' g' S') l w
def mseqQ (K : MSt → HS → Prop) (Q : Exit → MSt → HS → Prop) : Exit → MSt → HS → Prop
  | .normal, g, S => K g S
  | e, g, S => Q e g S
def mblkQ (id : Nat) (Q : Exit → MSt → HS → Prop) : Exit → MSt → HS → Prop
  | .exit id', g, S => if id' = id then Q .normal g S else Q (.exit id') g S
  | e, g, S => Q e g S
section
variable {P : Program} {N : Nat} {k e : TypeId} {r : Nat} {c : Ctx} {S : HS} {g : MSt} {Q Q' : Exit → MSt → HS → Prop} {look : Nat → Option Value} {w : World} {ρ : Nat → Value} {xs : Nat → List Value}
theorem HWm.mono {x : Code} (h : HWm P N k e r x Q g S) (hq : ∀ e g S, Q e g S → Q' e g S) : HWm P N k e r x Q' g S := fun c l w hr I M =>
  (h c l w hr I M).mono fun e' l' w' ⟨S', g', I', M', q⟩ => ⟨S', g', I', M', hq _ _ _ q⟩
/-- a row's block is no map -/
theorem not_owned {n : Nat} {M : Tab} (G : Good c S look w ρ xs) (h : MapIs P k e w r n M) : ¬ Owns ρ S.st r := by
  rintro ⟨i, s, hi, hb⟩
  obtain ⟨D, ⟨es, cl, h1, _⟩, _⟩ := h
  rcases (G.rows i s hi).own.2 with ⟨h2, _⟩ | ⟨g', cap, cur, h2, _, h3, _⟩
  · rw [h2] at hb; cases hb
  · rw [h2] at hb
    simp only [Value.ownBlock, Option.some.injEq] at hb
    subst hb
    rw [h1] at h3; cases h3
/-- code that names no map -/
theorem HWm_lift {x : Code} (h : HW P N x (fun e' S' => Q e' g S') S) : HWm P N k e r x Q g S := fun c l w _ ⟨ρ, xs, G⟩ M => by
  obtain ⟨G1, hA⟩ := G.sub (T := S.env) (st1 := S.st) (look1 := lk l) (fun k r hr => ⟨r, hr, fun _ h => h⟩) (fun t x hx => G.env t x hx)
  have hno := not_owned G M
  have hlt := M.lt
  refine (h _ l w ⟨ρ, xs, G1⟩).mono fun e' l' w' ⟨S', ⟨ρ', xs', G'⟩, q⟩ => ⟨S', g, ⟨ρ', xs', ?_⟩, M.block (G'.kept.block r hlt hno), q⟩
  have hO : ∀ b, Owns ρ S.st b → c.w0.heap.size ≤ b ∨ c.T b := fun b ⟨i, s, hi, hb⟩ => ((G.rows i s hi).new b hb).1
  have hAA : ∀ b, c.A ρ' S'.st b → Ctx.A ⟨w, Owns ρ S.st, fun b => c.A ρ S.st b ∧ ¬ Owns ρ S.st b, c.n0, Nat.le_trans c.hn G.kept.size, c.B⟩ ρ' S'.st b := by
    rintro b (h0 | h0)
    · refine .inl ⟨.inl h0, fun ho => ?_⟩
      have h1 := G.a0 b h0
      rcases hO b ho with h2 | h2
      · omega
      · exact h1.2 h2
    · exact .inr h0
  refine ⟨fun i s hi => ?_, G'.apart, fun t y hy => ?_, G.kept.trans G'.kept fun b hb hT => ?_, G.a0⟩
  · have R := G'.rows i s hi
    refine (R.up (Nat.le_refl _) (fun _ _ _ => rfl) (fun b _ => hAA b) (fun _ _ => rfl)).ctx rfl rfl fun b hb => ?_
    rcases (R.new b hb).1 with h1 | h1
    · have h1 : w.heap.size ≤ b := h1
      have := G.kept.size
      exact .inl (by omega)
    · exact hO b h1
  · obtain ⟨v, h1, h2⟩ := G'.env t y hy
    exact ⟨v, h1, h2.up (Nat.le_refl _) (fun _ _ _ => rfl) (fun b _ => hAA b) (Nat.le_refl _)⟩
  · rcases hO b hT with h1 | h1
    · omega
    · exact h1
theorem HWm_seq {x y : Code} (h : HWm P N k e r x (mseqQ (fun g S => HWm P N k e r y Q g S) Q) g S) : HWm P N k e r (.seq x y) Q g S := fun c l w hr I M =>
  W_seq ((h c l w hr I M).mono fun e' l' w' ⟨S', g', I', M', q⟩ => by
    cases e' with
    | normal => exact q c l' w' hr I' M'
    | _ => exact ⟨S', g', I', M', q⟩)
theorem HWm_block {id : Nat} {x : Code} (h : HWm P N k e r x (mblkQ id Q) g S) : HWm P N k e r (.block id x) Q g S := fun c l w hr I M =>
  W_block ((h c l w hr I M).mono fun e' l' w' ⟨S', g', I', M', q⟩ => by
    cases e' with
    | exit id' =>
      simp only [blkQ]
      simp only [mblkQ] at q
      split
      · rename_i e1; rw [if_pos e1] at q; exact ⟨S', g', I', M', q⟩
      · rename_i e1; rw [if_neg e1] at q; exact ⟨S', g', I', M', q⟩
    | _ => exact ⟨S', g', I', M', q⟩)
theorem HWm_cond {x : Operand} {a b : Code} {t : Bool} (hx : hev S.env x = some (.v (.bool t))) (ht : t = true → HWm P N k e r a Q g S) (hf : t = false → HWm P N k e r b Q g S) : HWm P N k e r (.cond x a b) Q g S := fun c l w hr ⟨ρ, xs, G⟩ M => by
  obtain ⟨v, h1, h2⟩ := G.ev (agr_self _ l) hx
  have := repH_v h2
  subst this
  exact W_cond h1 (fun e1 => ht e1 c l w hr ⟨ρ, xs, G⟩ M) (fun e1 => hf e1 c l w hr ⟨ρ, xs, G⟩ M)
theorem HWm_keep {x : Code} (ks ids : List Nat) {S' : HS} (he : S.keep ks ids = S') (h : HWm P N k e r x Q g S') : HWm P N k e r x Q g S := fun c l w hr I M => h c l w hr (by rw [← he]; exact I.keep ks ids) M
theorem HWm_loop {ι : Type} {x : Code} (E : ι → HS) (G : ι → MSt) (J : ι → Prop) (μ : ι → Nat) (ks ids : List Nat) (i : ι) (h0 : S.keep ks ids = E i) (hg : g = G i) (hI : J i)
    (round : ∀ i, J i → HWm P N k e r x (mseqQ (fun g' S' => ∃ j, S'.keep ks ids = E j ∧ g' = G j ∧ J j ∧ μ j < μ i) Q) (G i) (E i)) : HWm P N k e r (.loop x) Q g S := fun c l w hr Iv M => by
  refine W_loop (ι := ι × Env) (fun p => p.2) (fun p w => Inv c (E p.1) (lk p.2) w ∧ MapIs P k e w r (G p.1).1 (G p.1).2 ∧ J p.1) (fun p => μ p.1) ks (i, keep ks l) rfl ⟨?_, by rw [← hg]; exact M, hI⟩ ?_
  · rw [← h0]
    exact (Iv.keep ks ids).agree fun k h hk => keep_lk (hkeep_get hk).1
  · rintro ⟨j, l1⟩ w1 ⟨I1, M1, hj⟩
    refine (round j hj c l1 w1 hr I1 M1).mono fun e' l' w' ⟨S', g', I', M', q⟩ => ?_
    cases e' with
    | normal =>
      obtain ⟨j', hE, hG, hI', hμ⟩ := q
      refine ⟨(j', keep ks l'), rfl, ⟨?_, by rw [← hG]; exact M', hI'⟩, hμ⟩
      rw [← hE]
      exact (I'.keep ks ids).agree fun k h hk => keep_lk (hkeep_get hk).1
    | _ => exact ⟨S', g', I', M', q⟩
/-- the map is forgotten -/
theorem HW_of_m {x : Code} {Qh : HPost} (h : HWm P N k e r x (fun e' _ S' => Qh e' S') g S) {c : Ctx} {l : Env} {w : World} (hr : c.w0.heap.size ≤ r) (I : Inv c S (lk l) w) (M : MapIs P k e w r g.1 g.2) : W P N x (HQ c Qh) l w :=
  (h c l w hr I M).mono fun e' l' w' ⟨S', g', I', M', q⟩ => ⟨S', I', q⟩
end
end Go.Eng
