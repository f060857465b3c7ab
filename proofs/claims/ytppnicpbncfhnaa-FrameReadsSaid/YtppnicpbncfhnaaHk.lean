/-
  Regions that draw their order, over values: that the rules of heads that answer by relations hold.
-/
import Derived.Test.YtppnicpbncfhnaaHr
set_option linter.unusedSimpArgs false
set_option linter.unusedVariables false
namespace Go.Eng
open Go Go.RowKit
section
variable {P : Program} {N : Nat} {c : Ctx} {S T : HS} {Q : HPost} {l : Env} {look : Nat → Option Value} {w w' : World} {ρ : Nat → Value} {xs : Nat → List Value} {K : HS → Prop}
theorem RepH.above {A : Nat → Prop} {n0 : Nat} {v : Value} {x : HV} (h : RepH w A n0 ρ v x) (B : Below w.heap.size w w') : RepH w' A n0 ρ v x := h.up B.size (fun b hlt _ => B.block b hlt) (fun b _ h => h) (Nat.le_refl _)
theorem hrep_same {d : Nat} {h : HV} : ∀ {E : HEnv}, hlk E d = some h → ∀ k, hlk (hrep d h E) k = hlk E k
  | [], e, k => by simp [hlk] at e
  | (j, x) :: r, e, k => by
    simp only [hlk] at e
    simp only [hrep]
    by_cases ej : j = d
    · rw [if_pos ej] at e ⊢
      simp only [Option.some.injEq] at e
      subst e; rfl
    · rw [if_neg ej] at e ⊢
      simp only [hlk, hrep_same e k]
theorem Good.sameEnv {E : HEnv} {st : Store} (G : Good c ⟨E, st⟩ look w ρ xs) {E' : HEnv} (h : ∀ k, hlk E' k = hlk E k) : Good c ⟨E', st⟩ look w ρ xs := ⟨G.rows, G.apart, fun k x hk => G.env k x (by rw [← h k]; exact hk), G.kept, G.a0⟩
theorem plainE_get : ∀ {E : HEnv} {k : Nat} {h : HV}, plainE E = true → hlk E k = some h → ∃ v, h = .v v
  | [], k, h, _, hh => by simp [hlk] at hh
  | (j, x) :: r, k, h, hp, hh => by
    unfold plainE at hp
    split at hp
    · rename_i e; cases e
    · rename_i j' v r' e
      simp only [List.cons.injEq, Prod.mk.injEq] at e
      obtain ⟨⟨rfl, rfl⟩, rfl⟩ := e
      simp only [hlk] at hh
      by_cases ej : j = k
      · rw [if_pos ej] at hh; simp only [Option.some.injEq] at hh; exact ⟨v, hh.symm⟩
      · rw [if_neg ej] at hh; exact plainE_get hp hh
    · cases hp
/-- an operation that makes a slice out of plain things: it is new, and stands -/
theorem sound_made (G : Good c T (lk l) w ρ xs) {id i : Nat} {o : Op} {ty : TypeId} {cnd : Prop} {S' : HS} (hp : plainE T.env = true) (h : hop P ⟨T.env, []⟩ id o = .go cnd (.own i) S') {nw : Bool} {t sz : Nat} {els : List (List FV)} (hr : rlk S'.st i = some (.sl nw t sz els)) (hc : cnd) :
    vcOp P l o ty w (fun u w' => RepH w' (c.A ρ T.st) c.n0 ρ u (.lst true els) ∧ Below w.heap.size w w') (fun u w' => RepH w' (c.A ρ T.st) c.n0 ρ u (.lst true els) ∧ Below w.heap.size w w') := by
  have hA : ∀ b, c.A ρ T.st b → b < w.heap.size := by
    rintro b (h0 | ⟨i, r, hi, hb⟩)
    · have := (G.a0 b h0).1; have := G.kept.size; omega
    · exact G.lt hi hb
  have G2 : Good (cx w (fun _ => False) (c.A ρ T.st)) ⟨T.env, []⟩ (lk l) w ρ xs := by
    refine ⟨fun id r hr => by simp [rlk] at hr, fun i j r s b hne hi => by simp [rlk] at hi, fun k x hk => ?_, Kept.refl _ _, fun b hb => ⟨hA b hb, fun h => h⟩⟩
    obtain ⟨v, rfl⟩ := plainE_get hp hk
    obtain ⟨u, h1, h2⟩ := G.env k _ hk
    have := repH_v h2
    subst this
    exact ⟨_, h1, .v _⟩
  refine vcOp_mono (sound_hop G2 (agr_self _ _) h hc) fun u w' ⟨ρ2, xs2, G3, r⟩ => ?_
  have B : Below w.heap.size w w' := G3.kept.below (fun _ _ h => h)
  refine ⟨?_, B⟩
  cases r
  obtain ⟨o1, o2, o3⟩ := rows_sl G3 hr
  have R0 := G3.rows i _ hr
  have : c.n0 ≤ w.heap.size := Nat.le_trans c.hn G.kept.size
  refine .lst (row_lst o1 o2 (fun p k hp hk => ?_) (fun b hb => ?_))
  · obtain ⟨u, a, b, d⟩ := o3 p k hp hk
    exact ⟨u, a, b, d.up (Nat.le_refl _) (fun _ _ _ => rfl) (fun b _ h => .inl h) this⟩
  · rcases (R0.new b hb).1 with h | h
    · have h : w.heap.size ≤ b := h
      exact ⟨fun hA' => by have := hA b hA'; omega, fun _ => by omega⟩
    · exact h.elim
theorem HGoR_head {o : Oper} (h : HGoR P N o S T K) : dstLt N o.dst ∧ ∃ x, K (S.set o.dst x) ∧ ∀ (c : Ctx) (l : Env) (w : World) (ρ : Nat → Value) (xs : Nat → List Value), Good c T (lk l) w ρ xs →
    vcOp P l o.op o.type w (fun u w' => RepH w' (c.A ρ T.st) c.n0 ρ u x ∧ Below w.heap.size w w') (fun u w' => RepH w' (c.A ρ T.st) c.n0 ρ u x ∧ Below w.heap.size w w') := by
  unfold HGoR at h
  split at h
  · rename_i hd
    refine ⟨dstOk_lt hd, ?_⟩
    cases ho : hop P T (idOf o.dst) o.op with
    | go c' hv S' =>
      rw [ho] at h
      unfold HGoROut at h
      dsimp only at h
      split at h
      · rename_i hq
        obtain ⟨h0, h1⟩ := h
        refine ⟨hv, h1, fun c l w ρ xs G => ?_⟩
        obtain ⟨v, hK, hv'⟩ := vcQ_vc (ty := o.type) (sound_hops (ty := 0) G (agr_self _ _) ho hq h0)
        exact vcOp_mono (hv' w (Below.refl _ _)) fun u w' ⟨e, B⟩ => by subst e; exact ⟨hK.2.2.above B, B⟩
      · split at h
        · rename_i hm
          simp only [Bool.and_eq_true] at hm
          unfold HMade at h
          split at h
          · rename_i c2 i S2 hm2
            split at h
            · rename_i nw t sz els hr
              exact ⟨_, h.2, fun c l w ρ xs G => sound_made G hm.2 hm2 hr h.1⟩
            · exact h.elim
          · exact h.elim
        · exact h.elim
    | call f args =>
      rw [ho] at h
      obtain ⟨hf, x, hK, hc⟩ := h
      refine ⟨x, hK, fun c l w ρ xs G => ?_⟩
      obtain ⟨as, ats, e, has⟩ := hop_call ho
      rw [e]
      obtain ⟨vs, e1, e2, e3⟩ := G.evs (agr_self _ _) has
      unfold vcOp
      simp only [pureOp, effOp, e1]
      exact ⟨hf, hc c (lk l) w ρ xs vs G ⟨e2, e3⟩⟩
    | eqn t x y neg =>
      rw [ho] at h
      obtain ⟨r, h1, h2⟩ := h
      refine ⟨_, h2, fun c l w ρ xs G => ?_⟩
      exact vcOp_mono (sound_eqns G (agr_self _ l) ho h1) fun v w' ⟨e, _, r⟩ => by subst e; exact ⟨r, Below.refl _ _⟩
    | bad => rw [ho] at h; exact h.elim
  · exact h.elim
/-! ### all heads -/
def FrOk (ops : List Oper) (E0 : HEnv) (hs : Nat → HV) (i : Nat) (E : HEnv) : Prop := ∀ t h, hlk E t = some h → (∃ j, j < i ∧ dstAt ops j = some t ∧ hs j = h) ∨ ((∀ j, j < i → dstAt ops j ≠ some t) ∧ hlk E0 t = some h)
theorem FrOk.congr {ops : List Oper} {E0 E : HEnv} {hs hs' : Nat → HV} {i : Nat} (h : FrOk ops E0 hs i E) (he : ∀ j, j < i → hs' j = hs j) : FrOk ops E0 hs' i E := fun t x hx => by
  rcases h t x hx with ⟨j, a, b, d⟩ | r
  · exact .inl ⟨j, a, b, by rw [he j a]; exact d⟩
  · exact .inr r
theorem FrOk.env {ops : List Oper} {E0 E E' : HEnv} {hs : Nat → HV} {i : Nat} (h : FrOk ops E0 hs i E) (he : ∀ t x, hlk E' t = some x → hlk E t = some x) : FrOk ops E0 hs i E' := fun t x hx => h t x (he t x hx)
theorem FrOk.set {ops : List Oper} {E0 : HEnv} {hs : Nat → HV} {i : Nat} {S : HS} (h : FrOk ops E0 hs i S.env) {o : Oper} (ho : ops[i]? = some o) : FrOk ops E0 hs (i + 1) (S.set o.dst (hs i)).env := by
  have hd : dstAt ops i = o.dst := by unfold dstAt; rw [ho]; rfl
  intro t x hx
  cases e : o.dst with
  | none =>
    rw [e] at hx hd
    rcases h t x hx with ⟨j, a, b, d⟩ | ⟨a, b⟩
    · exact .inl ⟨j, by omega, b, d⟩
    · refine .inr ⟨fun j hj => ?_, b⟩
      by_cases ej : j = i
      · subst ej; rw [hd]; simp
      · exact a j (by omega)
  | some d =>
    rw [e] at hx hd
    simp only [HS.set, hlk] at hx
    by_cases et : d = t
    · rw [if_pos et] at hx
      simp only [Option.some.injEq] at hx
      exact .inl ⟨i, by omega, by rw [hd, et], hx⟩
    · rw [if_neg et] at hx
      rcases h t x hx with ⟨j, a, b, d'⟩ | ⟨a, b⟩
      · exact .inl ⟨j, by omega, b, d'⟩
      · refine .inr ⟨fun j hj => ?_, b⟩
        by_cases ej : j = i
        · subst ej; rw [hd]; simpa using et
        · exact a j (by omega)
structure HeadOk (P : Program) (N : Nat) (ops : List Oper) (E0 : HEnv) (st : Store) (hs : Nat → HV) (i : Nat) (o : Oper) : Prop where
  lt : dstLt N o.dst
  head : ∃ T : HEnv, FrOk ops E0 hs i T ∧ (∀ t h, hlk T t = some h → t ∈ slotG (dsts ops) o.guard ++ slotsOf o.op) ∧ ∀ (c : Ctx) (l : Env) (w : World) (ρ : Nat → Value) (xs : Nat → List Value), Good c ⟨T, st⟩ (lk l) w ρ xs →
    ∃ b, gd l (dsts ops) o.guard (· = b) ∧ (b = true → vcOp P l o.op o.type w (fun u w' => RepH w' (c.A ρ st) c.n0 ρ u (hs i) ∧ Below w.heap.size w w') (fun u w' => RepH w' (c.A ρ st) c.n0 ρ u (hs i) ∧ Below w.heap.size w w')) ∧ (b = false → hs i = .v undef)
theorem HSkip_head {d : Option Nat} (h : HSkip N d S K) : dstLt N d ∧ K (S.set d (.v undef)) := by
  unfold HSkip at h
  split at h
  · rename_i hd; exact ⟨dstOk_lt hd, h⟩
  · exact h.elim
theorem HVr_heads {ops : List Oper} {E0 : HEnv} {st : Store} : ∀ (rest : List Oper) (i : Nat) (S : HS) (hs0 : Nat → HV), (∀ k o, rest[k]? = some o → ops[i + k]? = some o) → S.st = st → FrOk ops E0 hs0 i S.env → HVr P N (dsts ops) K rest S →
    ∃ hs, (∀ j, j < i → hs j = hs0 j) ∧ (∀ k o, rest[k]? = some o → HeadOk P N ops E0 st hs (i + k) o) ∧ ∃ S', S'.st = st ∧ FrOk ops E0 hs (i + rest.length) S'.env ∧ K S'
  | [], i, S, hs0, hops, hst, F, h => ⟨hs0, fun _ _ => rfl, fun k o hk => by simp at hk, S, hst, F, h⟩
  | o :: rest, i, S, hs0, hops, hst, F, h => by
    have hoi : ops[i]? = some o := hops 0 o (by simp)
    rw [HVr] at h
    generalize hT : pickE S.env (slotG (dsts ops) o.guard ++ slotsOf o.op) = T at h
    have TF : ∀ t x, hlk T t = some x → t ∈ slotG (dsts ops) o.guard ++ slotsOf o.op ∧ hlk S.env t = some x := fun t x hx => by subst hT; exact pickE_get hx
    have key : ∀ (S1 : HS) (x : HV), S1.st = st → FrOk ops E0 hs0 i S1.env → HVr P N (dsts ops) K rest (S1.set o.dst x) → dstLt N o.dst →
        (∀ (c : Ctx) (l : Env) (w : World) (ρ : Nat → Value) (xs : Nat → List Value), Good c ⟨T, st⟩ (lk l) w ρ xs →
          ∃ b, gd l (dsts ops) o.guard (· = b) ∧ (b = true → vcOp P l o.op o.type w (fun u w' => RepH w' (c.A ρ st) c.n0 ρ u x ∧ Below w.heap.size w w') (fun u w' => RepH w' (c.A ρ st) c.n0 ρ u x ∧ Below w.heap.size w w')) ∧ (b = false → x = .v undef)) →
        ∃ hs, (∀ j, j < i → hs j = hs0 j) ∧ (∀ k o', (o :: rest)[k]? = some o' → HeadOk P N ops E0 st hs (i + k) o') ∧ ∃ S', S'.st = st ∧ FrOk ops E0 hs (i + (o :: rest).length) S'.env ∧ K S' := by
      intro S1 x hst1 F1 hK hlt hrun
      let hs1 : Nat → HV := fun j => if j = i then x else hs0 j
      have e1 : hs1 i = x := if_pos rfl
      have e2 : ∀ j, j < i → hs1 j = hs0 j := fun j hj => if_neg (by omega)
      have F2 : FrOk ops E0 hs1 (i + 1) (S1.set o.dst x).env := by
        have := (F1.congr e2).set hoi
        rw [e1] at this; exact this
      obtain ⟨hs, a, b, S', d, e, f⟩ := HVr_heads rest (i + 1) (S1.set o.dst x) hs1 (fun k o' hk => by
        have := hops (k + 1) o' (by simpa using hk)
        rw [show i + 1 + k = i + (k + 1) by omega]; exact this) (by cases o.dst <;> exact hst1) F2 hK
      have ei : hs i = x := by rw [a i (by omega), e1]
      have ej : ∀ j, j < i → hs j = hs0 j := fun j hj => by rw [a j (by omega), e2 j hj]
      refine ⟨hs, ej, fun k o' hk => ?_, S', d, ?_, f⟩
      · cases k with
        | zero =>
          simp only [List.getElem?_cons_zero, Option.some.injEq] at hk
          subst hk
          exact ⟨hlt, T, (F.congr ej).env (fun t x hx => (TF t x hx).2), fun t x hx => (TF t x hx).1, by rw [Nat.add_zero, ei]; exact hrun⟩
        | succ k =>
          have := b k o' (by simpa using hk)
          rw [show i + 1 + k = i + (k + 1) by omega] at this; exact this
      · rw [List.length_cons, show i + (rest.length + 1) = i + 1 + rest.length by omega]; exact e
    cases hg : hG T (dsts ops) o.guard with
    | yes =>
      rw [hg] at h
      obtain ⟨hlt, x, hK, hv⟩ := HGoR_head h
      refine key S x hst F hK hlt fun c l w ρ xs G => ⟨true, gd_yes (S := ⟨T, st⟩) hg rfl, fun _ => ?_, fun e => by cases e⟩
      have := hv c l w ρ xs (by rw [hst]; exact G)
      rw [hst] at this; exact this
    | no =>
      rw [hg] at h
      obtain ⟨hlt, hK⟩ := HSkip_head h
      exact key S _ hst F hK hlt fun c l w ρ xs G => ⟨false, gd_no (S := ⟨T, st⟩) ⟨ρ, xs, G⟩ hg rfl, fun e => (by cases e), fun _ => rfl⟩
    | ask d b want =>
      rw [hg] at h
      obtain ⟨j, hj, hd, hb⟩ := hG_ask (S := ⟨T, st⟩) hg
      have hbS := (TF d _ hb).2
      simp only [HStepR] at h
      split at h
      · rename_i e
        have e' : b = want := by simpa using e
        subst e'
        obtain ⟨hlt, x, hK, hv⟩ := HGoR_head h
        refine key (S.rep d (.v (.bool b))) x hst (F.env fun t x hx => by rw [← hrep_same hbS t]; exact hx) hK hlt fun c l w ρ xs G => ⟨true, (gd_ask (S := ⟨T, st⟩) ⟨ρ, xs, G⟩ hg (k := (· = true)) e).1, fun _ => ?_, fun e => by cases e⟩
        have := hv c l w ρ xs (by rw [hst]; exact G.sameEnv (hrep_same hb))
        simp only [HS.rep] at this
        rw [hst] at this; exact this
      · rename_i e
        have e' : b = !want := by cases b <;> cases want <;> simp_all
        subst e'
        obtain ⟨hlt, hK⟩ := HSkip_head h
        exact key (S.rep d (.v (.bool (!want)))) _ hst (F.env fun t x hx => by rw [← hrep_same hbS t]; exact hx) hK hlt fun c l w ρ xs G => ⟨false, (gd_ask (S := ⟨T, st⟩) ⟨ρ, xs, G⟩ hg (k := (· = false)) e).1, fun e => (by cases e), fun _ => rfl⟩
    | bad => rw [hg] at h; exact h.elim
end
end Go.Eng
