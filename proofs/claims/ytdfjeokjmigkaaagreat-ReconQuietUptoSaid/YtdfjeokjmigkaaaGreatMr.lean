/-
  Maps beside the engine's state: code; functions that are handed maps.
-/
import Derived.Test.YtdfjeokjmigkaaaGreatMq
set_option linter.unusedSimpArgs false
set_option linter.unusedVariables false
namespace Go.Eng
open Go Go.RowKit Go.Maps
section
variable {P : Program} {N : Nat} {c : Ctx} {S S' : HS} {g g' : MS} {Q Q' : MPost} {l : Env} {look : Nat → Option Value} {w w' : World} {ρ ρ' : Nat → Value} {xs : Nat → List Value} {A A' : Nat → Prop} {n0 n1 : Nat}
end
def HWM (P : Program) (N : Nat) (x : Code) (Q : MPost) (g : MS) (S : HS) : Prop :=
 ∀ (c : Ctx) (l : Env) (w : World), Inv c S (lk l) w → MsOk P c w g → W P N x (fun e l' w' => ∃ S' g', Inv c S' (lk l') w' ∧ MsOk P c w' g' ∧ Q e g' S') l w
def msQ (K : MS → HS → Prop) (Q : MPost) : MPost
 | .normal, g, S => K g S
 | e, g, S => Q e g S
def mbQ (id : Nat) (Q : MPost) : MPost
 | .exit id', g, S => if id' = id then Q .normal g S else Q (.exit id') g S
 | e, g, S => Q e g S
section
variable {P : Program} {N : Nat} {S S' : HS} {g g' : MS} {Q Q' : MPost}
theorem HWM.mono {x : Code} (h : HWM P N x Q g S) (hq : ∀ e g S, Q e g S → Q' e g S) : HWM P N x Q' g S := fun c l w I M =>
 (h c l w I M).mono fun e' l' w' ⟨S', g', I', M', q⟩ => ⟨S', g', I', M', hq _ _ _ q⟩
theorem HWM_lift {x : Code} (h : HW P N x (fun e S' => Q e g S') S) : HWM P N x Q g S := fun c l w I M => by
 obtain ⟨c1, I1, back⟩ := sub_backM I M
 exact (h c1 l w I1).mono fun e' l' w' ⟨S', I', q⟩ => by
  obtain ⟨I2, M2⟩ := back S' _ _ I'
  exact ⟨S', g, I2, M2, q⟩
theorem HWM_reg {id : Nat} {ops : List Oper} (h : HVM P N ops Q ops g S) : HWM P N (.region id ops.toArray false) Q g S := fun c l w I M hk F => wp_region_lit (h c F l w hk I M)
theorem HWM_regE {id : Nat} {ops : List Oper} (h : ∀ K : HS → Prop, (∀ S', Q .normal g S' → K S') → HV2 P N (dsts ops) K ops S) : HWM P N (.region id ops.toArray false) Q g S :=
 HWM_lift (zJ fun K hK => h K hK)
theorem HWM_seq {x y : Code} (h : HWM P N x (msQ (fun g S => HWM P N y Q g S) Q) g S) : HWM P N (.seq x y) Q g S := fun c l w I M =>
 W_seq ((h c l w I M).mono fun e' l' w' ⟨S', g', I', M', q⟩ => by
  cases e' with
  | normal => exact q c l' w' I' M'
  | _ => exact ⟨S', g', I', M', q⟩)
theorem HWM_block {id : Nat} {x : Code} (h : HWM P N x (mbQ id Q) g S) : HWM P N (.block id x) Q g S := fun c l w I M =>
 W_block ((h c l w I M).mono fun e' l' w' ⟨S', g', I', M', q⟩ => by
  cases e' with
  | exit id' =>
   simp only [blkQ]
   simp only [mbQ] at q
   split
   ·rename_i e1; rw [if_pos e1] at q; exact ⟨S', g', I', M', q⟩
   ·rename_i e1; rw [if_neg e1] at q; exact ⟨S', g', I', M', q⟩
  | _ => exact ⟨S', g', I', M', q⟩)
theorem HWM_cond {x : Operand} {a b : Code} {t : Bool} (hx : hev S.env x = some (.v (.bool t))) (ht : t = true → HWM P N a Q g S) (hf : t = false → HWM P N b Q g S) : HWM P N (.cond x a b) Q g S := fun c l w ⟨ρ, xs, G⟩ M => by
 obtain ⟨v, h1, h2⟩ := G.ev (agr_self _ l) hx
 have := repH_v h2
 subst this
 exact W_cond h1 (fun e1 => ht e1 c l w ⟨ρ, xs, G⟩ M) (fun e1 => hf e1 c l w ⟨ρ, xs, G⟩ M)
theorem HWM_true {x : Operand} {a b : Code} (hx : hev S.env x = some (.v (.bool true))) (ht : HWM P N a Q g S) : HWM P N (.cond x a b) Q g S := HWM_cond hx (fun _ => ht) (fun h => by cases h)
theorem HWM_false {x : Operand} {a b : Code} (hx : hev S.env x = some (.v (.bool false))) (hf : HWM P N b Q g S) : HWM P N (.cond x a b) Q g S := HWM_cond hx (fun h => by cases h) (fun _ => hf)
theorem HWM_keep {x : Code} (ks ids : List Nat) {S' : HS} (he : S.keep ks ids = S') (h : HWM P N x Q g S') : HWM P N x Q g S := fun c l w I M => h c l w (by rw [← he]; exact I.keep ks ids) M
theorem HWM_skip (h : Q .normal g S) : HWM P N .skip Q g S := fun c l w I M => W_skip ⟨S, g, I, M, h⟩
theorem HWM_exit {id : Nat} (h : Q (.exit id) g S) : HWM P N (.exit id) Q g S := fun c l w I M => W_exit ⟨S, g, I, M, h⟩
theorem HWM_ret (h : Q .ret g S) : HWM P N .ret Q g S := fun c l w I M => W_ret ⟨S, g, I, M, h⟩
theorem msQ_normal {K : MS → HS → Prop} (h : K g S) : msQ K Q .normal g S := h
theorem msQ_ret {K : MS → HS → Prop} (h : Q .ret g S) : msQ K Q .ret g S := h
theorem msQ_exit {K : MS → HS → Prop} {id : Nat} (h : Q (.exit id) g S) : msQ K Q (.exit id) g S := h
theorem mbQ_normal {id : Nat} (h : Q .normal g S) : mbQ id Q .normal g S := h
theorem mbQ_ret {id : Nat} (h : Q .ret g S) : mbQ id Q .ret g S := h
theorem mbQ_exit {id : Nat} (h : Q .normal g S) : mbQ id Q (.exit id) g S := by simp only [mbQ, if_true]; exact h
theorem mbQ_other {id id' : Nat} (hne : (id' == id) = false) (h : Q (.exit id') g S) : mbQ id Q (.exit id') g S := by simp only [mbQ]; rw [if_neg (by simpa using hne)]; exact h
theorem HWM_loop {ι : Type} {x : Code} (E : ι → HS) (G : ι → MS) (J : ι → Prop) (μ : ι → Nat) (ks ids : List Nat) (i : ι) (h0 : S.keep ks ids = E i) (hg : g = G i) (hI : J i)
  (round : ∀ i, J i → HWM P N x (msQ (fun g' S' => ∃ j, S'.keep ks ids = E j ∧ g' = G j ∧ J j ∧ μ j < μ i) Q) (G i) (E i)) : HWM P N (.loop x) Q g S := fun c l w Iv M => by
 refine W_loop (ι := ι × Env) (fun p => p.2) (fun p w => Inv c (E p.1) (lk p.2) w ∧ MsOk P c w (G p.1) ∧ J p.1) (fun p => μ p.1) ks (i, keep ks l) rfl ⟨?_, by rw [← hg]; exact M, hI⟩ ?_
 ·rw [← h0]
  exact (Iv.keep ks ids).agree fun k h hk => keep_lk (hkeep_get hk).1
 ·rintro ⟨j, l1⟩ w1 ⟨I1, M1, hj⟩
  refine (round j hj c l1 w1 I1 M1).mono fun e' l' w' ⟨S', g', I', M', q⟩ => ?_
  cases e' with
  | normal =>
   obtain ⟨j', hE, hG, hI', hμ⟩ := q
   refine ⟨(j', keep ks l'), rfl, ⟨?_, by rw [← hG]; exact M', hI'⟩, hμ⟩
   rw [← hE]
   exact (I'.keep ks ids).agree fun k h hk => keep_lk (hkeep_get hk).1
  | _ => exact ⟨S', g', I', M', q⟩
end
end Go.Eng
