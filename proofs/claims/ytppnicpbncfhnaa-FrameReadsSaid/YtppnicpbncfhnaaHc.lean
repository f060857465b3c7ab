/-
  Code over values: ways, loops, functions, calls.
-/
import Derived.Test.YtppnicpbncfhnaaHz
set_option linter.unusedSimpArgs false
set_option linter.unusedVariables false
namespace Go.Eng
open Go Go.RowKit

abbrev HPost := Exit → HS → Prop
def HQ (c : Ctx) (Q : HPost) : Post := fun e l w => ∃ S, Inv c S (lk l) w ∧ Q e S
/-- what code does, said of values -/
def HW (P : Program) (N : Nat) (x : Code) (Q : HPost) (S : HS) : Prop := ∀ (c : Ctx) (l : Env) (w : World), Inv c S (lk l) w → W P N x (HQ c Q) l w
def hseqQ (K : HS → Prop) (Q : HPost) : HPost
  | .normal, S => K S
  | e, S => Q e S
def hblkQ (id : Nat) (Q : HPost) : HPost
  | .exit id', S => if id' = id then Q .normal S else Q (.exit id') S
  | e, S => Q e S
def hkeep (ks : List Nat) (l : HEnv) : HEnv := match ks with
  | [] => []
  | k :: r => match hlk l k with
    | some v => (k, v) :: hkeep r l
    | none => hkeep r l
def rkeep (ids : List Nat) (s : Store) : Store := match ids with
  | [] => []
  | k :: r => match rlk s k with
    | some v => (k, v) :: rkeep r s
    | none => rkeep r s
def HS.keep (S : HS) (ks ids : List Nat) : HS := ⟨hkeep ks S.env, rkeep ids S.st⟩
theorem hkeep_get {ks : List Nat} {l : HEnv} : ∀ {k : Nat} {h : HV}, hlk (hkeep ks l) k = some h → k ∈ ks ∧ hlk l k = some h := by
  induction ks with
  | nil => intro k h e; simp [hkeep, hlk] at e
  | cons a r ih =>
    intro k h e
    simp only [hkeep] at e
    split at e
    · rename_i v hv
      simp only [hlk] at e
      by_cases ha : a = k
      · subst ha; rw [if_pos rfl] at e; exact ⟨by simp, by rw [hv]; exact e⟩
      · rw [if_neg ha] at e; obtain ⟨h1, h2⟩ := ih e; exact ⟨by simp [h1], h2⟩
    · obtain ⟨h1, h2⟩ := ih e; exact ⟨by simp [h1], h2⟩
theorem rkeep_get {ks : List Nat} {l : Store} : ∀ {k : Nat} {h : Row}, rlk (rkeep ks l) k = some h → rlk l k = some h := by
  induction ks with
  | nil => intro k h e; simp [rkeep, rlk] at e
  | cons a r ih =>
    intro k h e
    simp only [rkeep] at e
    split at e
    · rename_i v hv
      simp only [rlk] at e
      by_cases ha : a = k
      · subst ha; rw [if_pos rfl] at e; rw [hv]; exact e
      · rw [if_neg ha] at e; exact ih e
    · exact ih e
theorem keep_lk {ks : List Nat} {l : Env} : ∀ {k : Nat}, k ∈ ks → lk (keep ks l) k = lk l k := by
  induction ks with
  | nil => intro k h; simp at h
  | cons a r ih =>
    intro k h
    simp only [keep]
    by_cases e : a = k
    · subst e
      split
      · rename_i v hv; simp only [lk, if_true, hv]
      · rename_i hv
        by_cases hr : a ∈ r
        · exact ih hr
        · rw [hv]
          cases hh : lk (keep r l) a with
          | none => rfl
          | some v => have := keep_get hh; rw [hv] at this; cases this
    · have hk : k ∈ r := by simpa [Ne.symm e] using h
      split
      · simp only [lk, if_neg e]; exact ih hk
      · exact ih hk
section
variable {P : Program} {N : Nat} {c : Ctx} {S S' : HS} {Q Q' : HPost} {l : Env} {look : Nat → Option Value} {w : World} {ρ : Nat → Value} {xs : Nat → List Value}
/-- less is known -/
theorem Inv.less (I : Inv c S look w) {S' : HS} (h1 : ∀ k h, hlk S'.env k = some h → hlk S.env k = some h) (h2 : ∀ k h, rlk S'.st k = some h → rlk S.st k = some h) : Inv c S' look w := by
  obtain ⟨ρ, xs, G⟩ := I
  have hA : ∀ b, c.A ρ S'.st b → c.A ρ S.st b := by
    rintro b (h0 | ⟨i, s, hi, hb⟩)
    · exact .inl h0
    · exact .inr ⟨i, s, h2 i s hi, hb⟩
  refine ⟨ρ, xs, fun id r hr => ?_, fun i j r s b hne hi hj => G.apart i j r s b hne (h2 i r hi) (h2 j s hj), fun k h hk => ?_, G.kept, G.a0⟩
  · exact (G.rows id r (h2 id r hr)).up (Nat.le_refl _) (fun _ _ _ => rfl) (fun b _ => hA b) (fun _ _ => rfl)
  · obtain ⟨v, a, b⟩ := G.env k h (h1 k h hk)
    exact ⟨v, a, b.up (Nat.le_refl _) (fun _ _ _ => rfl) (fun b _ => hA b) (Nat.le_refl _)⟩
theorem Inv.agree {look' : Nat → Option Value} (I : Inv c S look w) (h : ∀ k x, hlk S.env k = some x → look' k = look k) : Inv c S look' w := by
  obtain ⟨ρ, xs, G⟩ := I
  exact ⟨ρ, xs, G.rows, G.apart, fun k x hk => by rw [h k x hk]; exact G.env k x hk, G.kept, G.a0⟩
theorem Inv.keep (I : Inv c S look w) (ks ids : List Nat) : Inv c (S.keep ks ids) look w := I.less (fun k h e => (hkeep_get e).2) (fun k h e => rkeep_get e)
theorem HW.mono {x : Code} (h : HW P N x Q S) (hq : ∀ e S, Q e S → Q' e S) : HW P N x Q' S :=
  fun c l w I => (h c l w I).mono fun e l' w' ⟨S', I', q⟩ => ⟨S', I', hq e S' q⟩
theorem HW_seq {x y : Code} (h : HW P N x (hseqQ (fun S => HW P N y Q S) Q) S) : HW P N (.seq x y) Q S := fun c l w I =>
  W_seq ((h c l w I).mono fun e l' w' ⟨S', I', q⟩ => by
    cases e with
    | normal => exact q c l' w' I'
    | _ => exact ⟨S', I', q⟩)
theorem HW_reg {id : Nat} {ops : List Oper} (h : ∀ K : HS → Prop, (∀ S', Q .normal S' → K S') → HV2 P N (dsts ops) K ops S) : HW P N (.region id ops.toArray false) Q S := fun c l w I =>
  W_region fun K hK => by
    have := HV2_VC (c := c) ops S l w (h (Q .normal) fun _ h => h) I
    exact (V.mono this fun l' w' h => hK l' w' h)
where V.mono {ds : List (Option Nat)} {K K' : Env → World → Prop} : ∀ {ops : List Oper} {l : Env} {w : World}, VC P N ds K ops l w → (∀ l w, K l w → K' l w) → VC P N ds K' ops l w
  | [], l, w, h, hk => hk _ _ h
  | o :: rest, l, w, h, hk => by
    rw [VC] at h ⊢
    obtain ⟨b, hb, hd, h⟩ := gd_val h
    have conv : ∀ {k : Bool → Prop}, k b → gd l ds o.guard k := by
      intro k hkb
      unfold gd at hb ⊢
      split
      · rename_i hg; rw [hg] at hb; dsimp only at hb; rw [hb]; exact hkb
      · rename_i j want hg
        rw [hg] at hb
        dsimp only at hb
        split
        · rename_i d hd'
          rw [hd'] at hb
          dsimp only at hb
          split
          · rename_i b' hb'; rw [hb'] at hb; dsimp only at hb; rw [hb]; exact hkb
          · rename_i v hv hb'
            rw [hb'] at hb
            cases v <;> dsimp only at hb <;> first | (exact (hv _ rfl).elim) | (rw [hb]; exact hkb)
          · rename_i hb'; rw [hb'] at hb; exact hb.elim
        · rename_i hn
          split at hb
          · rename_i d hd'; exact (hn d hd').elim
          · exact hb.elim
    refine conv ⟨hd, ?_⟩
    cases b with
    | true => exact vcOp_mono h fun v w' hv => V.mono hv hk
    | false => exact V.mono h hk
theorem HW_skip (h : Q .normal S) : HW P N .skip Q S := fun c l w I => W_skip ⟨S, I, h⟩
theorem HW_ret (h : Q .ret S) : HW P N .ret Q S := fun c l w I => W_ret ⟨S, I, h⟩
theorem HW_exit {id : Nat} (h : Q (.exit id) S) : HW P N (.exit id) Q S := fun c l w I => W_exit ⟨S, I, h⟩
theorem HW_label {id : Nat} (h : Q .normal S) : HW P N (.label id) Q S := fun c l w I => W_label ⟨S, I, h⟩
theorem HW_cond {x : Operand} {a b : Code} {t : Bool} (hx : hev S.env x = some (.v (.bool t))) (ht : t = true → HW P N a Q S) (hf : t = false → HW P N b Q S) : HW P N (.cond x a b) Q S := fun c l w I => by
  obtain ⟨ρ, xs, G⟩ := I
  obtain ⟨v, h1, h2⟩ := G.ev (agr_self _ l) hx
  have := repH_v h2
  subst this
  exact W_cond h1 (fun e => ht e c l w ⟨ρ, xs, G⟩) (fun e => hf e c l w ⟨ρ, xs, G⟩)
theorem HW_true {x : Operand} {a b : Code} (hx : hev S.env x = some (.v (.bool true))) (ht : HW P N a Q S) : HW P N (.cond x a b) Q S := HW_cond hx (fun _ => ht) (fun h => by cases h)
theorem HW_false {x : Operand} {a b : Code} (hx : hev S.env x = some (.v (.bool false))) (hf : HW P N b Q S) : HW P N (.cond x a b) Q S := HW_cond hx (fun h => by cases h) (fun _ => hf)
theorem HW_block {id : Nat} {x : Code} (h : HW P N x (hblkQ id Q) S) : HW P N (.block id x) Q S := fun c l w I =>
  W_block ((h c l w I).mono fun e l' w' ⟨S', I', q⟩ => by
    cases e with
    | exit id' =>
      simp only [blkQ]
      simp only [hblkQ] at q
      split
      · rename_i e; rw [if_pos e] at q; exact ⟨S', I', q⟩
      · rename_i e; rw [if_neg e] at q; exact ⟨S', I', q⟩
    | _ => exact ⟨S', I', q⟩)
theorem hseqQ_normal {K : HS → Prop} (h : K S) : hseqQ K Q .normal S := h
theorem hseqQ_ret {K : HS → Prop} (h : Q .ret S) : hseqQ K Q .ret S := h
theorem hseqQ_exit {K : HS → Prop} {id : Nat} (h : Q (.exit id) S) : hseqQ K Q (.exit id) S := h
theorem hblkQ_normal {id : Nat} (h : Q .normal S) : hblkQ id Q .normal S := h
theorem hblkQ_ret {id : Nat} (h : Q .ret S) : hblkQ id Q .ret S := h
theorem hblkQ_exit {id : Nat} (h : Q .normal S) : hblkQ id Q (.exit id) S := by simp only [hblkQ, if_true]; exact h
theorem hblkQ_other {id id' : Nat} (hne : (id' == id) = false) (h : Q (.exit id') S) : hblkQ id Q (.exit id') S := by simp only [hblkQ]; rw [if_neg (by simpa using hne)]; exact h
theorem HW_keep {x : Code} (ks ids : List Nat) {S' : HS} (he : S.keep ks ids = S') (h : HW P N x Q S') : HW P N x Q S := fun c l w I => h c l w (by rw [← he]; exact I.keep ks ids)
/-- a loop: its states, the invariant, the measure -/
theorem HW_loop {ι : Type} {x : Code} (E : ι → HS) (I : ι → Prop) (μ : ι → Nat) (ks ids : List Nat) (i : ι) (h0 : S.keep ks ids = E i) (hI : I i)
    (round : ∀ i, I i → HW P N x (hseqQ (fun S' => ∃ j, S'.keep ks ids = E j ∧ I j ∧ μ j < μ i) Q) (E i)) : HW P N (.loop x) Q S := fun c l w Iv => by
  refine W_loop (ι := ι × Env) (fun p => p.2) (fun p w => Inv c (E p.1) (lk p.2) w ∧ I p.1) (fun p => μ p.1) ks (i, keep ks l) rfl ⟨?_, hI⟩ ?_
  · rw [← h0]
    exact (Iv.keep ks ids).agree fun k h hk => keep_lk (hkeep_get hk).1
  · rintro ⟨j, l1⟩ w1 ⟨I1, hj⟩
    refine (round j hj c l1 w1 I1).mono fun e l' w' ⟨S', I', q⟩ => ?_
    cases e with
    | normal =>
      obtain ⟨j', hE, hI', hμ⟩ := q
      refine ⟨(j', keep ks l'), rfl, ⟨?_, hI'⟩, hμ⟩
      rw [← hE]
      exact (I'.keep ks ids).agree fun k h hk => keep_lk (hkeep_get hk).1
    | _ => exact ⟨S', I', q⟩
/-- ways that meet again -/
theorem HW_cut {ι : Type} {x y : Code} (E : ι → HS) (I : ι → Prop) (ks ids : List Nat) (hx : HW P N x (hseqQ (fun S' => ∃ j, S'.keep ks ids = E j ∧ I j) Q) S)
    (hy : ∀ j, I j → HW P N y Q (E j)) : HW P N (.seq x y) Q S :=
  HW_seq (hx.mono fun e S' h => by
    cases e with
    | normal => obtain ⟨j, hE, hI⟩ := h; exact HW_keep ks ids hE (hy j hI)
    | _ => exact h)
def hkeys (l : HEnv) : List Nat := l.map (·.1)
theorem hkeys_get : ∀ {l : HEnv} {k : Nat}, k ∈ hkeys l → ∃ h, hlk l k = some h
  | [], k, h => by simp [hkeys] at h
  | (j, x) :: r, k, h => by
    simp only [hlk]
    by_cases e : j = k
    · exact ⟨x, by rw [if_pos e]⟩
    · rw [if_neg e]
      refine hkeys_get ?_
      simp only [hkeys, List.map_cons, List.mem_cons] at h
      rcases h with h | h
      · exact absurd h.symm e
      · exact h
theorem keysE_keep {ks : List Nat} {l : Env} (h : ∀ k ∈ ks, ∃ v, lk l k = some v) : keysE (keep ks l) = ks := by
  induction ks with
  | nil => rfl
  | cons a r ih =>
    obtain ⟨v, hv⟩ := h a (by simp)
    simp only [keep, hv, keysE, List.map_cons]
    congr 1
    exact ih fun k hk => h k (by simp [hk])
/-- A region that draws its order: n heads in any order, the others behind them. -/
theorem HW_drw {id : Nat} {ops : List Oper} (n : Nat) (hm : P.follows .mixedOrders = true) (hok : regOk (hkeys S.env) ops n = true)
    (h : ∀ K : HS → Prop, (∀ S', Q .normal S' → K S') → HVq P N (dsts ops) (fun S' => HStop (HV2 P N (dsts ops) K (ops.drop n)) S') (ops.take n) S) : HW P N (.region id ops.toArray true) Q S := fun c l w I => by
  have hks : ∀ k ∈ hkeys S.env, ∃ v, lk l k = some v := fun k hk => by
    obtain ⟨x, hx⟩ := hkeys_get hk
    obtain ⟨ρ, xs, G⟩ := I
    obtain ⟨v, h1, -⟩ := G.env k x hx
    exact ⟨v, h1⟩
  refine W_keep (hkeys S.env) ?_
  have I' : Inv c S (lk (keep (hkeys S.env) l)) w := I.agree fun k x hk => keep_lk (by
    have : ∀ (e : HEnv), hlk e k = some x → k ∈ hkeys e := by
      intro e
      induction e with
      | nil => intro h; simp [hlk] at h
      | cons p r ih =>
        obtain ⟨j, y⟩ := p
        intro h
        simp only [hlk] at h
        by_cases ej : j = k
        · simp [hkeys, ej]
        · rw [if_neg ej] at h
          have := ih h
          simp only [hkeys, List.map_cons, List.mem_cons]
          exact .inr this
    exact this _ hk)
  refine W_drawn (hkeys S.env) n hm (keysE_keep hks) hok fun K hK => ?_
  refine VCq.mono' (HVq_VCq _ _ _ (h (Q .normal) fun _ h => h) I') fun l' ⟨S1, I1, h1⟩ w' hw' => ?_
  have I2 : Inv c S1 (lk l') w' := by obtain ⟨ρ, xs, G⟩ := I1; exact ⟨ρ, xs, G.below hw'⟩
  exact V2.mono' (HV2_VC _ _ _ _ h1 I2) fun l2 w2 h2 => hK l2 w2 h2
where
  V2.mono' {ds : List (Option Nat)} {K K' : Env → World → Prop} {ops : List Oper} {l : Env} {w : World} (h : VC P N ds K ops l w) (hk : ∀ l w, K l w → K' l w) : VC P N ds K' ops l w := HW_reg.V.mono h hk
  VCq.mono' {ds : List (Option Nat)} {w : World} {K K' : Env → Prop} : ∀ {ops : List Oper} {l : Env}, VCq P N ds w K ops l → (∀ l, K l → K' l) → VCq P N ds w K' ops l
  | [], l, h, hk => hk _ h
  | o :: rest, l, h, hk => by
    rw [VCq] at h ⊢
    obtain ⟨b, hb, hd, h⟩ := gd_val h
    have conv : ∀ {k : Bool → Prop}, k b → gd l ds o.guard k := by
      intro k hkb
      unfold gd at hb ⊢
      split
      · rename_i hg; rw [hg] at hb; dsimp only at hb; rw [hb]; exact hkb
      · rename_i j want hg
        rw [hg] at hb
        dsimp only at hb
        split
        · rename_i d hd'
          rw [hd'] at hb
          dsimp only at hb
          split
          · rename_i b' hb'; rw [hb'] at hb; dsimp only at hb; rw [hb]; exact hkb
          · rename_i v hv hb'
            rw [hb'] at hb
            cases v <;> dsimp only at hb <;> first | (exact (hv _ rfl).elim) | (rw [hb]; exact hkb)
          · rename_i hb'; rw [hb'] at hb; exact hb.elim
        · rename_i hn
          split at hb
          · rename_i d hd'; exact (hn d hd').elim
          · exact hb.elim
    refine conv ⟨hd, ?_⟩
    cases b with
    | true => exact vcQ_mono h fun v hv => VCq.mono' hv hk
    | false => exact VCq.mono' h hk
end
end Go.Eng
