/-
  Regions over values.
-/
import Derived.Test.YtppnicpbncfhnaaHx
set_option linter.unusedSimpArgs false
set_option linter.unusedVariables false
namespace Go.Eng
open Go Go.RowKit

theorem evs_mono {l1 l2 : Env} (hm : ∀ x X, ev l1 x = some X → ev l2 x = some X) : ∀ {xs : List Operand} {vs : List Value}, evs l1 xs = some vs → evs l2 xs = some vs
  | [], vs, h => h
  | x :: r, vs, h => by
    simp only [evs] at h ⊢
    split at h
    · rename_i v hv
      split at h
      · rename_i us hus
        rw [hm _ _ hv, evs_mono hm hus]; exact h
      · cases h
    · cases h
theorem oInt_mono {l1 l2 : Env} (hm : ∀ x X, ev l1 x = some X → ev l2 x = some X) {o : Option Operand} {d n : Int} (h : oInt l1 o d = some n) : oInt l2 o d = some n := by
  unfold oInt at *
  cases o with
  | none => exact h
  | some x =>
    dsimp only at *
    split at h
    · rename_i k m hx; rw [hm _ _ hx]; exact h
    · cases h
theorem pureOp_mono {P : Program} {l1 l2 : Env} (hm : ∀ x X, ev l1 x = some X → ev l2 x = some X) {o : Op} {r : Prop × Value} (h : pureOp P l1 o = some r) : pureOp P l2 o = some r := by
  unfold pureOp at h ⊢
  split at h
  · split at h
    · rename_i v hv; simp only [hm _ _ hv]; exact h
    · cases h
  · split at h
    · rename_i v hv; simp only [hm _ _ hv]; exact h
    · cases h
  · split at h
    · rename_i t ht
      split at h
      · rename_i u hu
        split at h
        · rename_i v hv; simp only [hm _ _ ht, hm _ _ hu, hm _ _ hv]; exact h
        · cases h
      · cases h
    · cases h
  · split at h
    · rename_i X hX
      split at h
      · rename_i Y hY; simp only [hm _ _ hX, hm _ _ hY]; exact h
      · cases h
    · cases h
  · split at h
    · rename_i v hv; simp only [hm _ _ hv]; exact h
    · cases h
  · split at h
    · rename_i v hv; simp only [hm _ _ hv]; exact h
    · cases h
  · split at h
    · rename_i v hv; simp only [hm _ _ hv]; exact h
    · cases h
  · split at h
    · rename_i vs hv; simp only [hm _ _ hv]; exact h
    · cases h
  · split at h
    · rename_i a ha; simp only [hm _ _ ha]; exact h
    · cases h
  · split at h
    · rename_i X hX
      split at h
      · rename_i Y hY; simp only [hm _ _ hX, hm _ _ hY]; exact h
      · cases h
    · cases h
  · split at h
    · rename_i X hX
      split at h
      · rename_i Y hY; simp only [hm _ _ hX, hm _ _ hY]; exact h
      · cases h
    · cases h
  · split at h
    · rename_i X hX
      simp only [hm _ _ hX]
      unfold pureSlice at h ⊢
      split at h
      · split at h
        · rename_i a b ha hb; simp only [oInt_mono hm ha, oInt_mono hm hb]; exact h
        · cases h
      · split at h
        · rename_i a b x y ha hb hu; simp only [oInt_mono hm ha, oInt_mono hm hb, hu]; exact h
        · cases h
      · cases h
    · cases h
  · split at h
    · rename_i a ha; simp only [hm _ _ ha]; exact h
    · cases h
  · split at h
    · rename_i vs hv; simp only [evs_mono hm hv]; exact h
    · cases h
  · cases h

section
variable {lw : Env} {P : Program} {c : Ctx} {S S' : HS} {look : Nat → Option Value} {w : World} {ρ : Nat → Value} {xs : Nat → List Value} {hv : HV} {cnd : Prop}
theorem vcOp_mono {l : Env} {o : Op} {ty : TypeId} {K K' : Value → World → Prop} (h : vcOp P l o ty w K K) (hk : ∀ v w', K v w' → K' v w') : vcOp P l o ty w K' K' := by
  unfold vcOp at *
  split at h
  · exact ⟨h.1, hk _ _ h.2⟩
  · exact effOp_left h (fun v w' => hk v w') (fun v w' => hk v w')
theorem sound_eff (G : Good c S look w ρ xs) (hl : Agr S.env look lw) {id : Nat} {o : Op} {ty : TypeId} (h : heff P S id o = .go cnd hv S') (hc : cnd) : vcOp P lw o ty w (KV c S' hv look) (KV c S' hv look) := by
  unfold heff at h
  split at h
  · exact vcOp_mono (sound_move G hl (.inl rfl) h hc) fun v w' ⟨_, G', r⟩ => ⟨ρ, xs, G', r⟩
  · exact vcOp_mono (sound_move G hl (.inr rfl) h hc) fun v w' ⟨_, G', r⟩ => ⟨ρ, xs, G', r⟩
  · exact vcOp_mono (sound_pick G hl h hc) fun v w' ⟨_, G', r⟩ => ⟨ρ, xs, G', r⟩
  · exact vcOp_mono (sound_extract G hl h hc) fun v w' ⟨_, G', r⟩ => ⟨ρ, xs, G', r⟩
  · exact vcOp_mono (sound_field G hl h hc) fun v w' ⟨_, G', r⟩ => ⟨ρ, xs, G', r⟩
  · exact vcOp_mono (sound_faddr G hl h hc) fun v w' ⟨_, G', r⟩ => ⟨ρ, xs, G', r⟩
  · exact vcOp_mono (sound_nil G hl h hc) fun v w' ⟨_, G', r⟩ => ⟨ρ, xs, G', r⟩
  · exact vcOp_mono (sound_iaddr G hl h hc) fun v w' ⟨_, G', r⟩ => ⟨ρ, xs, G', r⟩
  · exact vcOp_mono (sound_slice G hl h hc) fun v w' ⟨_, G', r⟩ => ⟨ρ, xs, G', r⟩
  · exact vcOp_mono (sound_load G hl h hc) fun v w' ⟨_, G', r⟩ => ⟨ρ, xs, G', r⟩
  · exact sound_store G hl h hc
  · exact sound_alloc G hl h hc
  · exact sound_box G hl h hc
  · exact vcOp_mono (sound_build G hl h hc) fun v w' ⟨_, G', r⟩ => ⟨ρ, xs, G', r⟩
  · exact sound_buildS G hl h hc
  · exact sound_make G hl h hc
  · split at h
    · rename_i y hy; exact vcOp_mono (sound_len G hl hy h hc) fun v w' ⟨_, G', r⟩ => ⟨ρ, xs, G', r⟩
    · cases h
  · exact sound_append G hl h hc
  · unfold hCall at h; split at h <;> cases h
  · exact vcOp_mono (sound_eqp (neg := false) G hl h hc) fun v w' ⟨_, G', r⟩ => ⟨ρ, xs, G', r⟩
  · exact vcOp_mono (sound_eqp (neg := true) G hl h hc) fun v w' ⟨_, G', r⟩ => ⟨ρ, xs, G', r⟩
  · exact vcOp_mono (sound_conv G hl h hc) fun v w' ⟨_, G', r⟩ => ⟨ρ, xs, G', r⟩
  · cases h
theorem sound_hop (G : Good c S look w ρ xs) (hl : Agr S.env look lw) {id : Nat} {o : Op} {ty : TypeId} (h : hop P S id o = .go cnd hv S') (hc : cnd) : vcOp P lw o ty w (KV c S' hv look) (KV c S' hv look) := by
  unfold hop hPure at h
  split at h
  · rename_i c' v hp
    simp only [HOut.go.injEq] at h
    obtain ⟨rfl, rfl, rfl⟩ := h
    have := pureOp_mono (fun x X hx => low_leaf G hl hx) hp
    unfold vcOp
    simp only [this]
    exact ⟨hc, ρ, xs, G, .v v⟩
  · exact sound_eff G hl h hc
def Reps (w : World) (A : Nat → Prop) (n0 : Nat) (ρ : Nat → Value) (vs : List Value) (hs : List HV) : Prop := vs.length = hs.length ∧ ∀ i (h1 : i < vs.length) (h2 : i < hs.length), RepH w A n0 ρ vs[i] hs[i]
/-- a call, at values -/
def HAt (P : Program) (f : FuncId) (args : List HV) (S : HS) (K : HV → HS → Prop) : Prop :=
  callable P f = true ∧ ∀ (c : Ctx) (look : Nat → Option Value) (w : World) (ρ : Nat → Value) (xs : Nat → List Value) (vs : List Value), Good c S look w ρ xs → Reps w (c.A ρ S.st) c.n0 ρ vs args →
    Calls P f vs.toArray w (Ret fun v w' => ∃ h S', K h S' ∧ InvV c S' h v look w')
theorem hop_call {id : Nat} {o : Op} {f : FuncId} {args : List HV} (h : hop P S id o = .call f args) : ∃ as ats, o = .call ⟨.value (.func f), as, ats⟩ ∧ hevs S.env as.toList = some args := by
  unfold hop hPure at h
  split at h
  · cases h
  · unfold heff at h
    split at h <;> try (exfalso; first
      | (unfold hMove at h; split at h <;> cases h)
      | (unfold hPick at h; split at h <;> cases h)
      | (unfold hExtract at h; (repeat' split at h) <;> cases h)
      | (unfold hField at h; (repeat' split at h) <;> cases h)
      | (unfold hFAddr at h; (repeat' split at h) <;> cases h)
      | (unfold hNil at h; (repeat' split at h) <;> cases h)
      | (unfold hIAddr hIAddrR hIAddrL hIAddrP hIAddrE hIAddrV at h; (repeat' split at h) <;> cases h)
      | (unfold hSlice hSliceL hSliceR hSliceV at h; (repeat' split at h) <;> cases h)
      | (unfold hLoad hLoadR hLoadE at h; (repeat' split at h) <;> cases h)
      | (unfold hStore hStoreR hStoreS hStoreB at h; (repeat' split at h) <;> cases h)
      | (unfold hAlloc at h; (repeat' split at h) <;> cases h)
      | (unfold hBox hBoxC at h; (repeat' split at h) <;> cases h)
      | (unfold hBuild hBuildF at h; (repeat' split at h) <;> cases h)
      | (unfold hBuildS hBuildSF at h; (repeat' split at h) <;> cases h)
      | (unfold hMake at h; (repeat' split at h) <;> cases h)
      | (unfold hLen hLenR at h; (repeat' split at h) <;> cases h)
      | (unfold hAppend hAppR hAppN at h; (repeat' split at h) <;> cases h)
      | (unfold hEq hEqL at h; (repeat' split at h) <;> cases h)
      | (unfold hConv hConvR hConvL at h; (repeat' split at h) <;> cases h)
      | cases h)
    rename_i g as ats _
    unfold hCall at h
    split at h
    · rename_i hs hhs
      simp only [HOut.call.injEq] at h
      obtain ⟨rfl, rfl⟩ := h
      exact ⟨as, ats, rfl, hhs⟩
    · cases h
theorem leafs_rep {A : Nat → Prop} {n0 : Nat} : ∀ {hs : List HV} {vs : List Value} {cs : List Value}, leafs hs = some vs → cs.length = hs.length → (∀ j (h1 : j < cs.length) (h2 : j < hs.length), RepH w A n0 ρ cs[j] hs[j]) → cs = vs
  | [], vs, cs, h, hn, _ => by
    simp only [leafs, Option.some.injEq] at h
    subst h
    exact List.eq_nil_of_length_eq_zero (by simpa using hn)
  | x :: r, vs, cs, h, hn, hr => by
    cases x <;> simp only [leafs, reduceCtorEq] at h
    split at h
    · rename_i x us hus
      simp only [Option.some.injEq] at h
      subst h
      match cs, hn with
      | u :: cs, hn =>
        have h0 := hr 0 (by simp) (by simp)
        simp only [List.getElem_cons_zero] at h0
        have := repH_v h0
        subst this
        rw [leafs_rep (cs := cs) hus (by simpa using hn) (fun j a b => by
          have := hr (j + 1) (by simpa using a) (by simpa using b)
          simpa using this)]
    · cases h
theorem hop_eqn {id : Nat} {o : Op} {t : TypeId} {x y : List Value} {neg : Bool} (h : hop P S id o = .eqn t x y neg) : ∃ a b t' hx hy, (o = .binOp (if neg then .neq else .eql) t a b t') ∧ hev S.env a = some (.agg hx) ∧ hev S.env b = some (.agg hy) ∧ leafs hx = some x ∧ leafs hy = some y := by
  unfold hop hPure at h
  split at h
  · cases h
  · unfold heff at h
    split at h <;> try (exfalso; first
      | (unfold hMove at h; split at h <;> cases h)
      | (unfold hPick at h; split at h <;> cases h)
      | (unfold hExtract at h; (repeat' split at h) <;> cases h)
      | (unfold hField at h; (repeat' split at h) <;> cases h)
      | (unfold hFAddr at h; (repeat' split at h) <;> cases h)
      | (unfold hNil at h; (repeat' split at h) <;> cases h)
      | (unfold hIAddr hIAddrR hIAddrL hIAddrP hIAddrE hIAddrV at h; (repeat' split at h) <;> cases h)
      | (unfold hSlice hSliceL hSliceR hSliceV at h; (repeat' split at h) <;> cases h)
      | (unfold hLoad hLoadR hLoadE at h; (repeat' split at h) <;> cases h)
      | (unfold hStore hStoreR hStoreS hStoreB at h; (repeat' split at h) <;> cases h)
      | (unfold hAlloc at h; (repeat' split at h) <;> cases h)
      | (unfold hBox hBoxC at h; (repeat' split at h) <;> cases h)
      | (unfold hBuild hBuildF at h; (repeat' split at h) <;> cases h)
      | (unfold hBuildS hBuildSF at h; (repeat' split at h) <;> cases h)
      | (unfold hMake at h; (repeat' split at h) <;> cases h)
      | (unfold hLen hLenR at h; (repeat' split at h) <;> cases h)
      | (unfold hAppend hAppR hAppN at h; (repeat' split at h) <;> cases h)
      | (unfold hCall at h; (repeat' split at h) <;> cases h)
      | (unfold hConv hConvR hConvL at h; (repeat' split at h) <;> cases h)
      | cases h)
    all_goals
      rename_i tt a b t' _
      unfold hEq at h
      split at h
      · rename_i hx hy ha hb
        unfold hEqL at h
        split at h
        · rename_i us vs e1 e2
          simp only [HOut.eqn.injEq] at h
          obtain ⟨rfl, rfl, rfl, rfl⟩ := h
          exact ⟨a, b, t', hx, hy, rfl, ha, hb, e1, e2⟩
        · cases h
      all_goals cases h
theorem sound_eqns (G : Good c S look w ρ xs) (hl : Agr S.env look lw) {id : Nat} {o : Op} {ty t : TypeId} {x y : List Value} {neg r : Bool} (h : hop P S id o = .eqn t x y neg) (hr : EqR P t x.toArray y.toArray r) :
    vcOp P lw o ty w (KVs c S (.v (.bool (neg ^^ r))) look ρ xs w) (KVs c S (.v (.bool (neg ^^ r))) look ρ xs w) := by
  obtain ⟨a, b, t', hx, hy, rfl, ha, hb, e1, e2⟩ := hop_eqn h
  obtain ⟨u, u1, u2⟩ := G.ev hl ha
  obtain ⟨v, v1, v2⟩ := G.ev hl hb
  cases u2 with
  | agg hn h1 hR =>
  cases v2 with
  | agg hn' h1' hR' =>
  rename_i cs ds
  have c1 : cs.toList = x := leafs_rep e1 (by simpa using hn) (fun j p q => by simpa using hR j (by simpa using p) q)
  have c2 : ds.toList = y := leafs_rep e2 (by simpa using hn') (fun j p q => by simpa using hR' j (by simpa using p) q)
  subst c1; subst c2
  simp only [Array.toArray_toList] at hr
  unfold vcOp
  cases neg with
  | false => simp only [Bool.false_eq_true, if_false, pureOp, u1, v1, pureBin, effOp, effEq]; exact ⟨r, hr, rfl, G, by cases r <;> exact .v _⟩
  | true => simp only [if_true, pureOp, u1, v1, pureBin, effOp, effEq]; exact ⟨r, hr, rfl, G, by cases r <;> exact .v _⟩
theorem sound_eqn (G : Good c S look w ρ xs) (hl : Agr S.env look lw) {id : Nat} {o : Op} {ty t : TypeId} {x y : List Value} {neg r : Bool} (h : hop P S id o = .eqn t x y neg) (hr : EqR P t x.toArray y.toArray r) :
    vcOp P lw o ty w (KV c S (.v (.bool (neg ^^ r))) look) (KV c S (.v (.bool (neg ^^ r))) look) := vcOp_mono (sound_eqns G hl h hr) fun v w' ⟨_, G', r⟩ => ⟨ρ, xs, G', r⟩
theorem sound_call (G : Good c S look w ρ xs) (hl : Agr S.env look lw) {id : Nat} {o : Op} {ty : TypeId} {f : FuncId} {args : List HV} {K : HV → HS → Prop} (h : hop P S id o = .call f args) (hK : HAt P f args S K) :
    vcOp P lw o ty w (fun v w' => ∃ h S', K h S' ∧ InvV c S' h v look w') (fun v w' => ∃ h S', K h S' ∧ InvV c S' h v look w') := by
  obtain ⟨as, ats, rfl, has⟩ := hop_call h
  obtain ⟨vs, e1, e2, e3⟩ := G.evs hl has
  unfold vcOp
  simp only [pureOp, effOp, e1]
  exact ⟨hK.1, hK.2 c look w ρ xs vs G ⟨e2, e3⟩⟩
end
end Go.Eng
