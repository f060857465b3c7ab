/-
  Regions that draw their order, appends to rows of one's own among their heads: the rule.
-/
import Derived.Test.YtppnicpbncfhnaaApd
set_option linter.unusedSimpArgs false
set_option linter.unusedVariables false
namespace Go.Eng
open Go Go.RowKit
abbrev Acc := List (Nat × Nat × Row)
def accD (a : Acc) (t : Nat) : Bool := match a with
  | [] => false
  | (d, _, _) :: r => d == t || accD r t
def accS (a : Acc) (st : Store) : Store := match a with
  | [] => st
  | (_, id, row) :: r => (id, row) :: accS r st
def finE (a : Acc) (p : Nat → Bool) : HEnv → HEnv
  | [] => []
  | (t, x) :: r => (t, bif accD a t then x else x.kill p) :: finE a p r
theorem hlk_finE (a : Acc) (p : Nat → Bool) : ∀ (E : HEnv) (t : Nat), hlk (finE a p E) t = (hlk E t).map fun x => bif accD a t then x else x.kill p
  | [], t => rfl
  | (k, x) :: r, t => by
    simp only [finE, hlk]
    by_cases e : k = t
    · subst e; rw [if_pos rfl, if_pos rfl]; rfl
    · rw [if_neg e, if_neg e]; exact hlk_finE a p r t
def HApd2 (id : Nat) (K : Row → Prop) : HOut → Prop
  | .go c (.own i) S' => (i = id ∧ c) ∧ match rlk S'.st id with
    | some (.sl nw ty sz els) => K (.sl nw ty sz els)
    | _ => False
  | _ => False
def HApd1 (P : Program) (T : HEnv) (id : Nat) (o : Oper) (d : Nat) (K : Row → Prop) : Option Row → Prop
  | some (.sl nw ty sz els) => HApd2 id K (hop P ⟨T, [(id, .sl nw ty sz els)]⟩ (idOf o.dst) o.op)
  | _ => False
def HApd (P : Program) (N : Nat) (st : Store) (T : HEnv) (id : Nat) (o : Oper) (K : Nat → Row → Prop) : Prop :=
  o.guard = none ∧ match o.dst with
    | some d => dstOk N (some d) = true ∧ HApd1 P T id o d (K d) (rlk st id)
    | none => False
def HVa (P : Program) (N : Nat) (ds : List (Option Nat)) (st st0 : Store) (W : Aps) (K : HEnv → Acc → Prop) : List Oper → Nat → HEnv → Acc → Prop
  | [], _, E, acc => K E acc
  | o :: rest, i, E, acc => ekill (inl (bad W i)) (pickE E (slotG ds o.guard ++ slotsOf o.op)) = pickE E (slotG ds o.guard ++ slotsOf o.op) ∧ match wat W i with
    | some id => HApd P N st (pickE E (slotG ds o.guard ++ slotsOf o.op)) id o (fun d row => HVa P N ds st st0 W K rest (i + 1) ((d, .own id) :: E) ((d, id, row) :: acc))
    | none => HStepR P N o ⟨E, st0⟩ ⟨pickE E (slotG ds o.guard ++ slotsOf o.op), st0⟩ (fun S' => HVa P N ds st st0 W K rest (i + 1) S'.env acc) (hG (pickE E (slotG ds o.guard ++ slotsOf o.op)) ds o.guard)
section
variable {P : Program} {N : Nat} {c : Ctx} {S T : HS} {Q : HPost} {l : Env} {look : Nat → Option Value} {w w' : World} {ρ : Nat → Value} {xs : Nat → List Value}
structure HeadA (P : Program) (N : Nat) (ops : List Oper) (E0 : HEnv) (st st0 : Store) (W : Aps) (hs : Nat → HV) (acc : Acc) (i : Nat) (o : Oper) : Prop where
  lt : dstLt N o.dst
  head : ∃ T : HEnv, FrOk ops E0 hs i T ∧ (∀ t h, hlk T t = some h → t ∈ slotG (dsts ops) o.guard ++ slotsOf o.op) ∧ (∀ t h, hlk T t = some h → h.kill (inl (bad W i)) = h) ∧
    ((wat W i = none ∧ ∀ (c : Ctx) (l : Env) (w : World) (ρ : Nat → Value) (xs : Nat → List Value), Good c ⟨T, st0⟩ (lk l) w ρ xs →
      ∃ b, gd l (dsts ops) o.guard (· = b) ∧ (b = true → vcOp P l o.op o.type w (fun u w' => RepH w' (c.A ρ st0) c.n0 ρ u (hs i) ∧ Below w.heap.size w w') (fun u w' => RepH w' (c.A ρ st0) c.n0 ρ u (hs i) ∧ Below w.heap.size w w')) ∧ (b = false → hs i = .v undef)) ∨
     ∃ id d nw ty sz els cnd S' nw' ty' sz' els', wat W i = some id ∧ o.guard = none ∧ o.dst = some d ∧ hs i = .own id ∧ rlk st id = some (.sl nw ty sz els) ∧ hop P ⟨T, [(id, .sl nw ty sz els)]⟩ (idOf o.dst) o.op = .go cnd (.own id) S' ∧ cnd ∧
       rlk S'.st id = some (.sl nw' ty' sz' els') ∧ (d, id, .sl nw' ty' sz' els') ∈ acc)
theorem HVa_heads {ops : List Oper} {n : Nat} {E0 : HEnv} {st st0 : Store} {W : Aps} {K : HEnv → Acc → Prop} (hwk : wok ops n W = true) : ∀ (rest : List Oper) (i : Nat) (E : HEnv) (acc : Acc) (hs0 : Nat → HV), (∀ k o, rest[k]? = some o → ops[i + k]? = some o) → FrOk ops E0 hs0 i E → (∀ x ∈ acc, ∃ a, a < i ∧ dstAt ops a = some x.1 ∧ wat W a = some x.2.1) → (∀ x ∈ acc, ∀ y ∈ acc, x.2.1 = y.2.1 → x = y) → HVa P N (dsts ops) st st0 W K rest i E acc →
    ∃ hs acc', (∀ j, j < i → hs j = hs0 j) ∧ (∀ x ∈ acc, x ∈ acc') ∧ (∀ x ∈ acc', ∀ y ∈ acc', x.2.1 = y.2.1 → x = y) ∧ (∀ x ∈ acc', ∃ a, a < i + rest.length ∧ dstAt ops a = some x.1 ∧ wat W a = some x.2.1) ∧ (∀ k o, rest[k]? = some o → HeadA P N ops E0 st st0 W hs acc' (i + k) o) ∧ ∃ E', FrOk ops E0 hs (i + rest.length) E' ∧ K E' acc'
  | [], i, E, acc, hs0, hops, F, hacc, hun, h => ⟨hs0, acc, fun _ _ => rfl, fun _ h => h, hun, hacc, fun k o hk => by simp at hk, E, F, h⟩
  | o :: rest, i, E, acc, hs0, hops, F, hacc, hun, h => by
    have hoi : ops[i]? = some o := hops 0 o (by simp)
    have hdi : dstAt ops i = o.dst := by unfold dstAt; rw [hoi]; rfl
    rw [HVa] at h
    obtain ⟨hcl, h⟩ := h
    generalize hT : pickE E (slotG (dsts ops) o.guard ++ slotsOf o.op) = T at h hcl
    have TF : ∀ t x, hlk T t = some x → t ∈ slotG (dsts ops) o.guard ++ slotsOf o.op ∧ hlk E t = some x := fun t x hx => by subst hT; exact pickE_get hx
    have TC : ∀ t x, hlk T t = some x → x.kill (inl (bad W i)) = x := fun t x hx => by
      have := hlk_ekill (inl (bad W i)) T t
      rw [hcl, hx] at this
      simpa using this.symm
    have key : ∀ (E1 : HEnv) (x : HV) (acc1 : Acc), FrOk ops E0 hs0 i E1 → (∀ y ∈ acc, y ∈ acc1) → (∀ y ∈ acc1, ∃ a, a < i + 1 ∧ dstAt ops a = some y.1 ∧ wat W a = some y.2.1) → (∀ x ∈ acc1, ∀ y ∈ acc1, x.2.1 = y.2.1 → x = y) →
        HVa P N (dsts ops) st st0 W K rest (i + 1) ((HS.mk E1 st0).set o.dst x).env acc1 →
        (∀ (hs : Nat → HV) (acc' : Acc), hs i = x → FrOk ops E0 hs i T → (∀ y ∈ acc1, y ∈ acc') → HeadA P N ops E0 st st0 W hs acc' i o) →
        ∃ hs acc', (∀ j, j < i → hs j = hs0 j) ∧ (∀ x ∈ acc, x ∈ acc') ∧ (∀ x ∈ acc', ∀ y ∈ acc', x.2.1 = y.2.1 → x = y) ∧ (∀ x ∈ acc', ∃ a, a < i + (o :: rest).length ∧ dstAt ops a = some x.1 ∧ wat W a = some x.2.1) ∧ (∀ k o', (o :: rest)[k]? = some o' → HeadA P N ops E0 st st0 W hs acc' (i + k) o') ∧ ∃ E', FrOk ops E0 hs (i + (o :: rest).length) E' ∧ K E' acc' := by
      intro E1 x acc1 F1 hm1 hm2 hm3 hK hd
      let hs1 : Nat → HV := fun j => if j = i then x else hs0 j
      have e1 : hs1 i = x := if_pos rfl
      have e2 : ∀ j, j < i → hs1 j = hs0 j := fun j hj => if_neg (by omega)
      have F2 : FrOk ops E0 hs1 (i + 1) ((HS.mk E1 st0).set o.dst x).env := by
        have := (F1.congr e2).set (S := ⟨E1, st0⟩) hoi
        rw [e1] at this; exact this
      obtain ⟨hs, acc', a, a2, au, a3, b, E', d, e⟩ := HVa_heads hwk rest (i + 1) ((HS.mk E1 st0).set o.dst x).env acc1 hs1 (fun k o' hk => by
        have := hops (k + 1) o' (by simpa using hk)
        rw [show i + 1 + k = i + (k + 1) by omega]; exact this) F2 hm2 hm3 hK
      have ei : hs i = x := by rw [a i (by omega), e1]
      have ej : ∀ j, j < i → hs j = hs0 j := fun j hj => by rw [a j (by omega), e2 j hj]
      refine ⟨hs, acc', ej, fun y hy => a2 y (hm1 y hy), au, fun y hy => ?_, fun k o' hk => ?_, E', ?_, e⟩
      · obtain ⟨q, q1, q2⟩ := a3 y hy
        exact ⟨q, by simp only [List.length_cons]; omega, q2⟩
      · cases k with
        | zero =>
          simp only [List.getElem?_cons_zero, Option.some.injEq] at hk
          subst hk
          exact hd hs acc' ei ((F.congr ej).env (fun t x hx => (TF t x hx).2)) a2
        | succ k =>
          have := b k o' (by simpa using hk)
          rw [show i + 1 + k = i + (k + 1) by omega] at this; exact this
      · rw [List.length_cons, show i + (rest.length + 1) = i + 1 + rest.length by omega]; exact d
    have hacc1 : ∀ y ∈ acc, ∃ a, a < i + 1 ∧ dstAt ops a = some y.1 ∧ wat W a = some y.2.1 := fun y hy => by
      obtain ⟨a, a1, a2⟩ := hacc y hy
      exact ⟨a, by omega, a2⟩
    cases hw : wat W i with
    | some id =>
      rw [hw] at h
      dsimp only at h
      unfold HApd at h
      obtain ⟨hg, h⟩ := h
      cases hd : o.dst with
      | none => rw [hd] at h; exact h.elim
      | some d =>
      rw [hd] at h
      obtain ⟨hok, h⟩ := h
      cases hr : rlk st id with
      | none => rw [hr] at h; exact h.elim
      | some row =>
      rw [hr] at h
      cases row with
      | bx => exact h.elim
      | hl => exact h.elim
      | sl nw ty sz els =>
      simp only [HApd1] at h
      rw [hd] at h
      cases ho : hop P ⟨T, [(id, .sl nw ty sz els)]⟩ (idOf (some d)) o.op with
      | call f a => rw [ho] at h; exact h.elim
      | eqn t x y n => rw [ho] at h; exact h.elim
      | bytes ok s => rw [ho] at h; exact h.elim
      | bad => rw [ho] at h; exact h.elim
      | go cnd hv S' =>
      rw [ho] at h
      cases hv with
      | v x => exact h.elim
      | lst fr xs => exact h.elim
      | vw a b c d => exact h.elim
      | ptr a b c d => exact h.elim
      | elt a b c d e => exact h.elim
      | agg cs => exact h.elim
      | tup cs => exact h.elim
      | junk => exact h.elim
      | own i' =>
      simp only [HApd2] at h
      obtain ⟨⟨rfl, hc⟩, h⟩ := h
      cases hr' : rlk S'.st i' with
      | none => rw [hr'] at h; exact h.elim
      | some row' =>
      rw [hr'] at h
      cases row' with
      | bx => exact h.elim
      | hl => exact h.elim
      | sl nw' ty' sz' els' =>
      dsimp only at h
      refine key E (.own i') ((d, i', .sl nw' ty' sz' els') :: acc) F (fun y hy => List.mem_cons_of_mem _ hy) (fun y hy => ?_) (fun x hx y hy exy => ?_) (by rw [hd]; exact h) (fun hs acc' e1 e2 e3 => ?_)
      · rcases List.mem_cons.1 hy with rfl | hy
        · exact ⟨i, by omega, by rw [hdi, hd], hw⟩
        · exact hacc1 y hy
      · have old : ∀ z ∈ acc, z.2.1 ≠ i' := fun z hz e => by
          obtain ⟨a, a1, a2, a3⟩ := hacc z hz
          rw [e] at a3
          have := wat_inj hwk a3 hw
          omega
        rcases List.mem_cons.1 hx with rfl | hx <;> rcases List.mem_cons.1 hy with rfl | hy
        · rfl
        · exact absurd exy.symm (old y hy)
        · exact absurd exy (old x hx)
        · exact hun x hx y hy exy
      · exact ⟨by rw [hd]; exact dstOk_lt hok, T, e2, fun t x hx => (TF t x hx).1, TC, .inr ⟨i', d, nw, ty, sz, els, cnd, S', nw', ty', sz', els', hw, hg, hd, e1, hr, by rw [hd]; exact ho, hc, hr', e3 _ (List.mem_cons_self ..)⟩⟩
    | none =>
    rw [hw] at h
    dsimp only at h
    have plain : ∀ (E1 : HEnv) (x : HV), FrOk ops E0 hs0 i E1 → HVa P N (dsts ops) st st0 W K rest (i + 1) ((HS.mk E1 st0).set o.dst x).env acc → dstLt N o.dst →
        (∀ (c : Ctx) (l : Env) (w : World) (ρ : Nat → Value) (xs : Nat → List Value), Good c ⟨T, st0⟩ (lk l) w ρ xs →
          ∃ b, gd l (dsts ops) o.guard (· = b) ∧ (b = true → vcOp P l o.op o.type w (fun u w' => RepH w' (c.A ρ st0) c.n0 ρ u x ∧ Below w.heap.size w w') (fun u w' => RepH w' (c.A ρ st0) c.n0 ρ u x ∧ Below w.heap.size w w')) ∧ (b = false → x = .v undef)) → _ := fun E1 x F1 hK hlt hrun =>
      key E1 x acc F1 (fun _ h => h) hacc1 hun hK fun hs acc' e1 e2 e3 => ⟨hlt, T, e2, fun t x hx => (TF t x hx).1, TC, .inl ⟨hw, by rw [e1]; exact hrun⟩⟩
    cases hg : hG T (dsts ops) o.guard with
    | yes =>
      rw [hg] at h
      obtain ⟨hlt, x, hK, hv⟩ := HGoR_head h
      exact plain E x F hK hlt fun c l w ρ xs G => ⟨true, gd_yes (S := ⟨T, st0⟩) hg rfl, fun _ => hv c l w ρ xs G, fun e => by cases e⟩
    | no =>
      rw [hg] at h
      obtain ⟨hlt, hK⟩ := HSkip_head (N := N) (d := o.dst) (S := ⟨E, st0⟩) (K := fun S' => HVa P N (dsts ops) st st0 W K rest (i + 1) S'.env acc) h
      exact plain E _ F hK hlt fun c l w ρ xs G => ⟨false, gd_no (S := ⟨T, st0⟩) ⟨ρ, xs, G⟩ hg rfl, fun e => (by cases e), fun _ => rfl⟩
    | ask d b want =>
      rw [hg] at h
      obtain ⟨j, hj, hd, hb⟩ := hG_ask (S := ⟨T, st0⟩) hg
      have hbS := (TF d _ hb).2
      simp only [HStepR] at h
      split at h
      · rename_i e
        have e' : b = want := by simpa using e
        subst e'
        obtain ⟨hlt, x, hK, hv⟩ := HGoR_head h
        refine plain (hrep d (.v (.bool b)) E) x (F.env fun t x hx => by rw [← hrep_same hbS t]; exact hx) hK hlt fun c l w ρ xs G => ⟨true, (gd_ask (S := ⟨T, st0⟩) ⟨ρ, xs, G⟩ hg (k := (· = true)) e).1, fun _ => ?_, fun e => by cases e⟩
        exact hv c l w ρ xs (G.sameEnv (hrep_same hb))
      · rename_i e
        have e' : b = !want := by cases b <;> cases want <;> first | rfl | exact absurd e (by decide)
        subst e'
        obtain ⟨hlt, hK⟩ := HSkip_head h
        exact plain (hrep d (.v (.bool (!want))) E) _ (F.env fun t x hx => by rw [← hrep_same hbS t]; exact hx) hK hlt fun c l w ρ xs G => ⟨false, (gd_ask (S := ⟨T, st0⟩) ⟨ρ, xs, G⟩ hg (k := (· = false)) e).1, fun e => (by cases e), fun _ => rfl⟩
    | bad => rw [hg] at h; exact h.elim
/-! ### the rule -/
/-- a row as another call sees it -/
theorem RowOk.ctx {A : Nat → Prop} {c c' : Ctx} {id : Nat} {r : Row} {ys : List Value} (h : RowOk w A c ρ id r ys) (e1 : c'.n0 = c.n0) (e2 : c'.B = c.B) (hn : ∀ b, (ρ id).ownBlock = some b → c'.w0.heap.size ≤ b ∨ c'.T b) : RowOk w A c' ρ id r ys := by
  refine ⟨h.own, ?_, fun b hb => ⟨hn b hb, fun e => by rw [e1]; exact (h.new b hb).2 e⟩⟩
  have := h.rep
  cases r with
  | sl => rw [e1]; exact this
  | bx => rw [e1, e2]; exact this
  | hl => rw [e1]; exact this
/-- where the frame and the heads' values lie side by side -/
def lkB (l : Env) (vs : Nat → Value) (k : Nat) : Option Value := if k % 2 = 0 then lk l (k / 2) else some (vs (k / 2))
/-- the state when the heads of L have run -/
structure Jn (c : Ctx) (S : HS) (W : Aps) (acc : Acc) (hs : Nat → HV) (n : Nat) (l : Env) (L : Nat → Bool) (vs : Nat → Value) (w : World) (ρ : Nat → Value) (xs : Nat → List Value) (E : HEnv) (st' : Store) : Prop where
  good : Good c ⟨E, st'⟩ (lkB l vs) w ρ xs
  env : ∀ k x, hlk S.env k = some x → hlk E (2 * k) = some (x.kill (pL W L))
  hds : ∀ j, j < n → L j = true → hlk E (2 * j + 1) = some (match wat W j with | some id => .own id | none => (hs j).kill (pL W L))
  rows : ∀ k r, rlk S.st k = some r → (pL W L k = false → rlk st' k = some (r.kill (pL W L))) ∧ ∀ d row, (d, k, row) ∈ acc → pL W L k = true → rlk st' k = some row
  none : ∀ k, rlk S.st k = none → rlk st' k = none
theorem A_of_less {st st' : Store} (h : ∀ k r, rlk st k = some r → ∃ r', rlk st' k = some r') (b : Nat) (hb : Owns ρ st b) : Owns ρ st' b := by
  obtain ⟨i, r, h1, h2⟩ := hb
  obtain ⟨r', h3⟩ := h i r h1
  exact ⟨i, r', h3, h2⟩
theorem A_eq {c c' : Ctx} {st st' : Store} (h0 : ∀ b, c'.A0 b ↔ c.A ρ st' b ∧ ¬ Owns ρ st b) (h1 : ∀ b, Owns ρ st b → Owns ρ st' b) (b : Nat) : c'.A ρ st b ↔ c.A ρ st' b := by
  constructor
  · rintro (h | h)
    · exact ((h0 b).1 h).1
    · exact .inr (h1 b h)
  · intro h
    by_cases e : Owns ρ st b
    · exact .inr e
    · exact .inl ((h0 b).2 ⟨h, e⟩)
/-- another call's world begins here: some rows are its own, the others may not be looked at -/
theorem Good.sub {E T : HEnv} {st st1 : Store} {look1 : Nat → Option Value} (G : Good c ⟨E, st⟩ look w ρ xs) (h1 : ∀ k r, rlk st1 k = some r → ∃ r', rlk st k = some r' ∧ (∀ ys, RowOk w (c.A ρ st) c ρ k r' ys → RowOk w (c.A ρ st) c ρ k r ys))
    (hT : ∀ t x, hlk T t = some x → ∃ v, look1 t = some v ∧ RepH w (c.A ρ st) c.n0 ρ v x) :
    Good ⟨w, Owns ρ st1, fun b => c.A ρ st b ∧ ¬ Owns ρ st1 b, c.n0, Nat.le_trans c.hn G.kept.size, c.B⟩ ⟨T, st1⟩ look1 w ρ xs ∧
      (∀ b, Ctx.A ⟨w, Owns ρ st1, fun b => c.A ρ st b ∧ ¬ Owns ρ st1 b, c.n0, Nat.le_trans c.hn G.kept.size, c.B⟩ ρ st1 b ↔ c.A ρ st b) := by
  have hO : ∀ b, Owns ρ st1 b → Owns ρ st b := A_of_less fun k r hr => by obtain ⟨r', e, _⟩ := h1 k r hr; exact ⟨r', e⟩
  have hA := fun b => A_eq (ρ := ρ) (c := c) (c' := ⟨w, Owns ρ st1, fun b => c.A ρ st b ∧ ¬ Owns ρ st1 b, c.n0, Nat.le_trans c.hn G.kept.size, c.B⟩) (st := st1) (st' := st) (fun _ => Iff.rfl) hO b
  refine ⟨⟨fun id r hr => ?_, fun i j r s b hne hi hj hbi hbj => ?_, fun k x hk => ?_, Kept.refl _ _, fun b hb => ⟨?_, hb.2⟩⟩, hA⟩
  · obtain ⟨r', e, f⟩ := h1 id r hr
    exact ((f _ (G.rows id r' e)).up (Nat.le_refl _) (fun _ _ _ => rfl) (fun b _ => (hA b).1) (fun _ _ => rfl)).ctx rfl rfl fun b hb => .inr ⟨id, r, hr, hb⟩
  · obtain ⟨r', e, _⟩ := h1 i r hi
    obtain ⟨s', e', _⟩ := h1 j s hj
    exact G.apart i j r' s' b hne e e' hbi hbj
  · obtain ⟨v, a, b⟩ := hT k x hk
    exact ⟨v, a, b.up (Nat.le_refl _) (fun _ _ _ => rfl) (fun b _ => (hA b).1) (Nat.le_refl _)⟩
  · rcases hb.1 with h0 | ⟨i, r, hi, hbi⟩
    · have := (G.a0 b h0).1; have := G.kept.size; show b < w.heap.size; omega
    · exact G.lt hi hbi
/-- A region that draws its order: n heads in any order, appends to rows of one's own among them; the others behind them. -/
theorem HW_drwA {id : Nat} {ops : List Oper} (n : Nat) (W : Aps) (hm : P.follows .mixedOrders = true) (hok : regOk (hkeys S.env) ops n = true) (hwk : wok ops n W = true) {st0 : Store} (hst : skill (inl (wids W)) S.st = st0)
    (h : ∀ K : HS → Prop, (∀ S', Q .normal S' → K S') → ∀ K1 : HS → Prop, (∀ S', HStop (HV2 P N (dsts ops) K (ops.drop n)) S' → K1 S') → HVa P N (dsts ops) S.st st0 W (fun E acc => K1 ⟨finE acc (inl (wids W)) E, accS acc st0⟩) (ops.take n) 0 S.env []) : HW P N (.region id ops.toArray true) Q S := fun c l w I => by
  have hks : ∀ k ∈ hkeys S.env, ∃ v, lk l k = some v := fun k hk => by
    obtain ⟨x, hx⟩ := hkeys_get hk
    obtain ⟨ρ, xs, G⟩ := I
    obtain ⟨v, h1, -⟩ := G.env k x hx
    exact ⟨v, h1⟩
  refine W_keep (hkeys S.env) ?_
  have I' : Inv c S (lk (keep (hkeys S.env) l)) w := I.agree fun k x hk => keep_lk (hkeys_mem hk)
  have hkk : keysE (keep (hkeys S.env) l) = hkeys S.env := keysE_keep hks
  generalize keep (hkeys S.env) l = l' at I' hkk
  obtain ⟨ρ0, xs0, G0⟩ := I'
  have ok := regOk_spec hok
  have hlen : (ops.take n).length = n := by rw [List.length_take]; have := ok.hn; omega
  have get_take : ∀ {i : Nat} {o : Oper}, (ops.take n)[i]? = some o → i < n ∧ ops[i]? = some o := fun {i o} h => by
    have hi := (List.getElem?_eq_some_iff.1 h).1
    rw [hlen] at hi
    rw [List.getElem?_take_of_lt hi] at h
    exact ⟨hi, h⟩
  obtain ⟨hs, acc, -, -, hun, hacc, heads, E1, F1, h1⟩ := HVa_heads (E0 := S.env) (st := S.st) (st0 := st0) hwk (ops.take n) 0 S.env [] (fun _ => .junk) (fun k o hk => by rw [Nat.zero_add]; exact (get_take hk).2) (fun t x hx => .inr ⟨fun j hj => absurd hj (Nat.not_lt_zero _), hx⟩) (fun x hx => by simp at hx) (fun x hx => by simp at hx) (h (Q .normal) (fun _ h => h) _ fun _ h => h)
  rw [hlen, Nat.zero_add] at F1 hacc
  have head : ∀ i o, i < n → ops[i]? = some o → HeadA P N ops S.env S.st st0 W hs acc i o := fun i o hi ho => by
    have := heads i o (by rw [List.getElem?_take_of_lt hi]; exact ho)
    rw [Nat.zero_add] at this; exact this
  have uniq : ∀ i j t, i < n → j < n → dstAt ops i = some t → dstAt ops j = some t → i = j := by
    intro i j t hi hj h1 h2
    rcases Nat.lt_trichotomy i j with h | h | h
    · rcases ok.uniq j i hj h with e | e
      · rw [h2] at e; cases e
      · exact absurd (h2.trans h1.symm) e
    · exact h
    · rcases ok.uniq i j hi h with e | e
      · rw [h1] at e; cases e
      · exact absurd (h1.trans h2.symm) e
  have hlt : DLt N ops n := fun i t hi hd => by
    obtain ⟨o, ho, hod⟩ := dstAt_some hd
    have := (head i o hi ho).lt
    rw [hod] at this; exact this
  have hst0 : ∀ k r, rlk st0 k = some r → inl (wids W) k = false ∧ ∃ r0, rlk S.st k = some r0 ∧ r = r0.kill (inl (wids W)) := fun k r hr => by
    rw [← hst, rlk_skill] at hr
    cases e : inl (wids W) k with
    | true => rw [e] at hr; cases hr
    | false =>
      rw [e] at hr
      simp only [cond_false] at hr
      cases hs : rlk S.st k with
      | none => rw [hs] at hr; cases hr
      | some r0 => rw [hs] at hr; simp only [Option.map_some, Option.some.injEq] at hr; exact ⟨rfl, r0, rfl, hr.symm⟩
  -- what a head looks at
  have frame : ∀ (L : Nat → Bool) (vs : Nat → Value) (w' : World) (ρ : Nat → Value) (xs : Nat → List Value) (E : HEnv) (st' : Store) (q : Nat → Bool) (i : Nat) (T : HEnv), i ≤ n → Jn c S W acc hs n l' L vs w' ρ xs E st' → (∀ k, pL W L k = true → q k = true) → FrOk ops S.env hs i T →
      (∀ j t x, j < i → dstAt ops j = some t → hlk T t = some x → L j = true ∧ ((match wat W j with | some id => HV.own id | none => (hs j).kill (pL W L)).kill q = x)) → (∀ t x, hlk T t = some x → x.kill q = x) →
      ∀ t x, hlk T t = some x → ∃ v, lk (envE l' ops vs i) t = some v ∧ RepH w' (c.A ρ st') c.n0 ρ v x := fun L vs w' ρ xs E st' q i T hi J hq F hd hc t x hx => by
    rcases F t x hx with ⟨j, a, b, d⟩ | ⟨a, b⟩
    · obtain ⟨h1, h2⟩ := hd j t x a b hx
      obtain ⟨v, v1, v2⟩ := J.good.env _ _ (J.hds j (by omega) h1)
      have hv : v = vs j := by
        simp only [lkB] at v1
        rw [if_neg (by omega), show (2 * j + 1) / 2 = j by omega] at v1
        exact (Option.some.inj v1).symm
      subst hv
      refine ⟨vs j, (envE_new (l := l') (vs := vs) hlt (base := Array.replicate N undef) (by simp) b (fun q hq hne e => hne (uniq q j t hq (by omega) e b)) i hi a).1, ?_⟩
      rw [← h2]
      exact v2.kill fun _ _ => rfl
    · obtain ⟨v, v1, v2⟩ := J.good.env _ _ (J.env t x b)
      simp only [lkB] at v1
      rw [if_pos (by omega), show 2 * t / 2 = t by omega] at v1
      refine ⟨v, by rw [(envE_old (l := l') (vs := vs) #[] t i a).1]; exact v1, ?_⟩
      have := v2.kill (p := q) (ρ' := ρ) fun _ _ => rfl
      rw [HV.kill_le hq, hc t x hx] at this
      exact this
  refine W_drawnJ (hkeys S.env) n hm hkk hok hlt (J := fun L vs w' => ∃ ρ xs E st', Jn c S W acc hs n l' L vs w' ρ xs E st') ?_ ?_ ?_
  · -- at the beginning
    have e0 : pL W (fun _ => false) = fun _ => false := funext fun _ => pL_none
    have m1 : ∀ (E : HEnv) (k : Nat), hlk (E.map fun p => (2 * p.1, p.2)) (2 * k) = hlk E k := by
      intro E k
      induction E with
      | nil => rfl
      | cons p r ih =>
        obtain ⟨j, x⟩ := p
        simp only [List.map_cons, hlk, ih]
        by_cases e : j = k
        · rw [if_pos e, if_pos (by omega)]
        · rw [if_neg e, if_neg (by omega)]
    have m2 : ∀ (E : HEnv) (k : Nat) (x : HV), hlk (E.map fun p => (2 * p.1, p.2)) k = some x → k % 2 = 0 := by
      intro E k x
      induction E with
      | nil => intro h; simp [hlk] at h
      | cons p r ih =>
        obtain ⟨j, y⟩ := p
        simp only [List.map_cons, hlk]
        intro h
        by_cases e : 2 * j = k
        · omega
        · rw [if_neg e] at h; exact ih h
    have G1 := G0.below (Below.refl _ _).drew
    refine ⟨ρ0, xs0, S.env.map fun p => (2 * p.1, p.2), S.st, ⟨⟨G1.rows, G1.apart, fun k x hk => ?_, G1.kept, G1.a0⟩, fun k x hk => ?_, fun j _ e => (by cases e), fun k r hr => ⟨fun _ => ?_, fun d row _ e => ?_⟩, fun k h => h⟩⟩
    · have hk2 := m2 _ _ _ hk
      obtain ⟨j, rfl⟩ : ∃ j, k = 2 * j := ⟨k / 2, by omega⟩
      rw [m1] at hk
      obtain ⟨v, v1, v2⟩ := G1.env j x hk
      refine ⟨v, ?_, v2⟩
      simp only [lkB]
      rw [if_pos (by omega), show 2 * j / 2 = j by omega]; exact v1
    · rw [m1, e0, HV.kill_no]; exact hk
    · rw [e0, Row.kill_no]; exact hr
    · rw [e0] at e; cases e
  · -- a head
    intro i o hi ho L vs w1 hJ hL hdep hclos
    obtain ⟨ρ, xs, E, st', J⟩ := hJ
    have HA := head i o hi ho
    obtain ⟨T, TF, TS, TC, hh⟩ := HA.head
    have hq : ∀ k, pL W L k = true → inl (bad W i) k = true := fun k hk => pL_bad hwk hL hclos hk
    have fr := frame L vs w1 ρ xs E st' (inl (bad W i)) i T (by omega) J hq TF (fun j t x hj hd hx => by
      obtain ⟨l1, -⟩ := ok.looks i o t hi ho (looks_slots (TS t x hx))
      refine ⟨hdep j (l1 j (by omega) hd).2, ?_⟩
      have hjx : hs j = x := by
        rcases TF t x hx with ⟨j', a, b, d⟩ | ⟨a, b⟩
        · rw [uniq j j' t (by omega) (by omega) hd b]; exact d
        · exact absurd hd (a j hj)
      have hcx := TC t x hx
      cases hwj : wat W j with
      | none => dsimp only; rw [HV.kill_le hq, hjx]; exact hcx
      | some id' =>
        obtain ⟨oj, hoj, -⟩ := dstAt_some hd
        obtain ⟨Tj, -, -, -, hhj⟩ := (head j oj (by omega) hoj).head
        rcases hhj with ⟨e, -⟩ | ⟨id2, d2, _, _, _, _, _, _, _, _, _, _, e, _, _, e2, _⟩
        · rw [e] at hwj; cases hwj
        · rw [hwj] at e; cases e
          dsimp only
          rw [← e2, hjx]; exact hcx) TC
    have lkN : ∀ (u : Value) (k : Nat), k ≠ 2 * i + 1 → lkB l' (fun j => if j = i then u else vs j) k = lkB l' vs k := fun u k hk => by
      simp only [lkB]
      by_cases e : k % 2 = 0
      · rw [if_pos e, if_pos e]
      · rw [if_neg e, if_neg e, if_neg (by omega)]
    have lkI : ∀ (u : Value), lkB l' (fun j => if j = i then u else vs j) (2 * i + 1) = some u := fun u => by
      simp only [lkB]
      rw [if_neg (by omega), if_pos (by omega)]
    have Lne : ∀ j, j ≠ i → (if j = i then true else L j) = true → L j = true := fun j e h => by rw [if_neg e] at h; exact h
    rcases hh with ⟨hwat, run⟩ | ⟨id', d, nw, ty, sz, els, cnd, S1, nw', ty', sz', els', hwat, hg, hd, hhs, hrow, hop', hc, hr', hmem⟩
    · have hpS := pL_same (L := L) hwat
      obtain ⟨GT, hA⟩ := J.good.sub (T := T) (st1 := st0) (look1 := lk (envE l' ops vs i)) (fun k r hr => by
        obtain ⟨h1, r0, h2, rfl⟩ := hst0 k r hr
        have hp : pL W L k = false := by
          cases e : pL W L k with
          | false => rfl
          | true => have := pL_wids e; rw [h1] at this; cases this
        refine ⟨_, (J.rows k r0 h2).1 hp, fun ys R => ?_⟩
        have := R.kill (p := inl (wids W)) (ρ' := ρ) (fun _ _ => rfl) h1
        rw [Row.kill_le (fun i h => pL_wids h)] at this
        exact this) fr
      obtain ⟨b, b1, b2, b3⟩ := run _ _ w1 ρ xs GT
      have step : ∀ u w2, Below w1.heap.size w1 w2 → RepH w2 (c.A ρ st') c.n0 ρ u (hs i) → ∃ ρ xs E st', Jn c S W acc hs n l' (fun j => if j = i then true else L j) (fun j => if j = i then u else vs j) w2 ρ xs E st' := fun u w2 hB hu => by
        have G2 := J.good.below hB
        refine ⟨ρ, xs, (2 * i + 1, (hs i).kill (pL W L)) :: E, st', ⟨⟨G2.rows, G2.apart, fun k x hk => ?_, G2.kept, G2.a0⟩, fun k x hk => ?_, fun j hj hLj => ?_, ?_, J.none⟩⟩
        · simp only [hlk] at hk
          by_cases e : 2 * i + 1 = k
          · subst e
            rw [if_pos rfl] at hk
            simp only [Option.some.injEq] at hk
            subst hk
            exact ⟨u, lkI u, hu.kill fun _ _ => rfl⟩
          · rw [if_neg e] at hk
            obtain ⟨v, v1, v2⟩ := G2.env k x hk
            exact ⟨v, by rw [lkN u k (Ne.symm e)]; exact v1, v2⟩
        · rw [hpS]
          simp only [hlk]
          rw [if_neg (by omega)]
          exact J.env k x hk
        · rw [hpS]
          by_cases e : j = i
          · subst e
            simp only [hlk, if_true, hwat]
          · simp only [hlk]
            rw [if_neg (by omega)]
            exact J.hds j hj (Lne j e hLj)
        · rw [hpS]; exact J.rows
      refine ⟨b, b1, fun hb => ?_, fun hb => ?_⟩
      · exact (vcOp_ok (fun x X hx => by simp [evD, hx]) (b2 hb)).mono fun u w2 ⟨hu, hB⟩ => step u w2 hB (hu.up (Nat.le_refl _) (fun _ _ _ => rfl) (fun b _ => (hA b).2) (Nat.le_refl _))
      · exact step undef w1 (Below.refl _ _) (by rw [b3 hb]; exact .v _)
    · have hp0 := (pL_more hwk hwat).2 hL
      have hp1 := (pL_more (L := L) hwk hwat).1
      have hst' : rlk st' id' = some (.sl nw ty sz els) := (J.rows id' _ hrow).1 hp0
      have hO : ∀ b, Owns ρ [(id', Row.sl nw ty sz els)] b ↔ (ρ id').ownBlock = some b := fun b => by
        constructor
        · rintro ⟨k, r, h1, h2⟩
          simp only [rlk] at h1
          split at h1
          · rename_i e; subst e; exact h2
          · cases h1
        · exact fun h => ⟨id', .sl nw ty sz els, by simp only [rlk, if_true], h⟩
      obtain ⟨GT, hA⟩ := J.good.sub (T := T) (st1 := [(id', .sl nw ty sz els)]) (look1 := lk (envE l' ops vs i)) (fun k r hr => by
        simp only [rlk] at hr
        split at hr
        · rename_i e
          subst e
          simp only [Option.some.injEq] at hr
          subst hr
          exact ⟨_, hst', fun _ h => h⟩
        · cases hr) fr
      refine ⟨true, by rw [hg]; exact (rfl : true = true), fun _ => ?_, fun e => by cases e⟩
      refine (vcOp_ok (o := o) (l := envE l' ops vs i) (fun x X hx => by simp [evD, hx]) (sound_hop (ty := o.type) GT (agr_self _ _) hop' hc)).mono fun u w2 hKV => ?_
      obtain ⟨ρ2, xs2, G2, hu⟩ := hKV
      obtain ⟨hu1, rfl⟩ : (ρ2 id').oneCell' = true ∧ u = ρ2 id' := by cases hu with | own _ h1 => exact ⟨h1, rfl⟩
      have kp := G2.kept
      have R2 := G2.rows id' _ hr'
      have R0 := J.good.rows id' _ hst'
      have GP := J.good.put id' (.sl nw' ty' sz' els') (xs2 id') (w' := w2) (ρ' := fun k => if k = id' then ρ2 id' else ρ k) kp.size kp.os kp.tape kp.output (ρ id').ownBlock (fun b hb => ⟨_, hst', hb⟩)
        (fun b hb hne => kp.block b hb fun h => hne ((hO b).1 h).symm) (fun k hk => if_neg hk) (fun b hb => by
          simp only [if_true] at hb
          rcases (R2.new b hb).1 with h | h
          · exact .inl h
          · exact .inr ((hO b).1 h)) (fun tr trF => by
          refine ⟨by simp only [if_true]; exact R2.own, ?_, fun b hb => ?_⟩
          · have rp := R2.rep
            refine ⟨rp.1, fun p k hp hk => ?_⟩
            obtain ⟨v, v1, v2, v3⟩ := rp.2 p k hp hk
            refine ⟨v, v1, v2, v3.up (Nat.le_refl _) (fun _ _ _ => rfl) (fun b _ hA' => ?_) (Nat.le_refl _)⟩
            rcases hA' with h0 | ⟨k', s, hk', hb'⟩
            · refine .inl ⟨.inl h0, fun h => ?_⟩
              have h1 := J.good.a0 b h0
              rcases (R0.new b ((hO b).1 h)).1 with h2 | h2
              · omega
              · exact h1.2 h2
            · simp only [rlk] at hk'
              by_cases e : id' = k'
              · subst e
                simp only [if_true] at hb'
                exact .inr ⟨id', _, hr', hb'⟩
              · rw [if_neg e, rlk_skill, only_ne (Ne.symm e), cond_false] at hk'
                simp only [if_neg (Ne.symm e)] at hb'
                cases hs0 : rlk st' k' with
                | none => rw [hs0] at hk'; cases hk'
                | some s0 => exact .inl ⟨.inr ⟨k', s0, hs0, hb'⟩, fun h => J.good.apart id' k' _ s0 b e hst' hs0 ((hO b).1 h) hb'⟩
          · simp only [if_true] at hb
            obtain ⟨a1, a2⟩ := R2.new b hb
            refine ⟨?_, a2⟩
            rcases a1 with h | h
            · have h : w1.heap.size ≤ b := h
              have := J.good.kept.size
              exact .inl (by omega)
            · exact (R0.new b ((hO b).1 h)).1)
      refine ⟨fun k => if k = id' then ρ2 id' else ρ k, fun k => if k = id' then xs2 id' else xs k, (2 * i + 1, .own id') :: ekill (only id') E, (id', .sl nw' ty' sz' els') :: skill (only id') st', ⟨⟨GP.rows, GP.apart, fun k x hk => ?_, GP.kept, GP.a0⟩, fun k x hk => ?_, fun j hj hLj => ?_, fun k r hr => ⟨fun hp => ?_, fun d2 row hm2 hp => ?_⟩, fun k hk => ?_⟩⟩
      · simp only [hlk] at hk
        by_cases e : 2 * i + 1 = k
        · subst e
          rw [if_pos rfl] at hk
          simp only [Option.some.injEq] at hk
          subst hk
          refine ⟨_, lkI _, ?_⟩
          have := RepH.own (w := w2) (A := c.A (fun k => if k = id' then ρ2 id' else ρ k) ((id', .sl nw' ty' sz' els') :: skill (only id') st')) (n0 := c.n0) (ρ := fun k => if k = id' then ρ2 id' else ρ k) id' (by simp only [if_true]; exact hu1)
          simp only [if_true] at this
          exact this
        · rw [if_neg e] at hk
          obtain ⟨v, v1, v2⟩ := GP.env k x hk
          exact ⟨v, by rw [lkN _ k (Ne.symm e)]; exact v1, v2⟩
      · simp only [hlk]
        rw [if_neg (by omega), hlk_ekill, J.env k x hk]
        simp only [Option.map_some, HV.kill_or]
        congr 2
        funext m
        exact (hp1 m).symm
      · by_cases e : j = i
        · subst e
          simp only [hlk, if_true, hwat]
        · simp only [hlk]
          rw [if_neg (by omega), hlk_ekill, J.hds j hj (Lne j e hLj)]
          simp only [Option.map_some]
          congr 1
          cases hwj : wat W j with
          | some id2 =>
            dsimp only
            have : id2 ≠ id' := fun e2 => e (wat_inj hwk hwj (by rw [hwat, e2]))
            rw [HV.kill, only_ne this]; rfl
          | none =>
            dsimp only
            rw [HV.kill_or]
            congr 1
            funext m
            exact (hp1 m).symm
      · rw [hp1] at hp
        simp only [Bool.or_eq_false_iff] at hp
        have hne := ne_of_only hp.2
        simp only [rlk]
        rw [if_neg (Ne.symm hne), rlk_skill, only_ne hne, cond_false, (J.rows k r hr).1 hp.1]
        simp only [Option.map_some, Row.kill_or]
        congr 2
        funext m
        exact (hp1 m).symm
      · by_cases e : k = id'
        · subst e
          have := hun _ hm2 _ hmem rfl
          simp only [Prod.mk.injEq] at this
          simp only [rlk, if_true]
          rw [this.2.2]
        · rw [hp1, only_ne e, Bool.or_false] at hp
          simp only [rlk]
          rw [if_neg (Ne.symm e), rlk_skill, only_ne e, cond_false, (J.rows k r hr).2 d2 row hm2 hp]
          obtain ⟨a, a1, -, a3⟩ := hacc _ hm2
          obtain ⟨oa, hoa⟩ : ∃ oa, ops[a]? = some oa := ⟨ops[a]'(by have := ok.hn; omega), List.getElem?_eq_getElem _⟩
          obtain ⟨Ta, -, -, -, hha⟩ := (head a oa a1 hoa).head
          rcases hha with ⟨e', -⟩ | ⟨id2, d3, _, _, _, _, _, _, _, _, _, _, e', _, _, _, _, _, _, _, hm3⟩
          · rw [e'] at a3; cases a3
          · dsimp only at a3
            rw [a3] at e'; cases e'
            have := hun _ hm2 _ hm3 rfl
            simp only [Prod.mk.injEq] at this
            rw [this.2.2]; rfl
      · have hne : k ≠ id' := fun e => by subst e; rw [hrow] at hk; cases hk
        simp only [rlk]
        rw [if_neg (Ne.symm hne), rlk_skill, only_ne hne, cond_false, J.none k hk]; rfl
  · -- all of them have run
    intro L vs w1 hJ hall
    obtain ⟨ρ, xs, E, st', J⟩ := hJ
    have hp := pL_all hwk hall
    have accMem : ∀ (a : Acc) (k : Nat) (r : Row), rlk (accS a st0) k = some r → (∃ d, (d, k, r) ∈ a) ∨ rlk st0 k = some r := by
      intro a k r
      induction a with
      | nil => exact fun h => .inr h
      | cons y s ih =>
        obtain ⟨d, k', r'⟩ := y
        simp only [accS, rlk]
        intro h
        by_cases e : k' = k
        · subst e
          rw [if_pos rfl] at h
          simp only [Option.some.injEq] at h
          subst h
          exact .inl ⟨d, List.mem_cons_self ..⟩
        · rw [if_neg e] at h
          rcases ih h with ⟨d', h'⟩ | h'
          · exact .inl ⟨d', List.mem_cons_of_mem _ h'⟩
          · exact .inr h'
    have accDm : ∀ (a : Acc) (t : Nat), accD a t = true ↔ ∃ y ∈ a, y.1 = t := by
      intro a t
      induction a with
      | nil => simp [accD]
      | cons y s ih =>
        obtain ⟨d, k', r'⟩ := y
        simp only [accD, Bool.or_eq_true, beq_iff_eq, ih, List.mem_cons]
        constructor
        · rintro (h | ⟨z, z1, z2⟩)
          · exact ⟨_, .inl rfl, h⟩
          · exact ⟨z, .inr z1, z2⟩
        · rintro ⟨z, rfl | z1, z2⟩
          · exact .inl z2
          · exact .inr ⟨z, z1, z2⟩
    have hlow : ∀ k r, rlk (accS acc st0) k = some r → rlk st' k = some r := fun k r hr => by
      rcases accMem acc k r hr with ⟨d, hm⟩ | h
      · obtain ⟨a, a1, -, a3⟩ := hacc _ hm
        obtain ⟨oa, hoa⟩ : ∃ oa, ops[a]? = some oa := ⟨ops[a]'(by have := ok.hn; omega), List.getElem?_eq_getElem _⟩
        obtain ⟨Ta, -, -, -, hha⟩ := (head a oa a1 hoa).head
        rcases hha with ⟨e', -⟩ | ⟨id2, d3, _, _, _, _, _, _, _, _, _, _, e', _, _, _, hrow, _⟩
        · rw [e'] at a3; cases a3
        · dsimp only at a3
          rw [a3] at e'; cases e'
          exact (J.rows k _ hrow).2 d r hm (by rw [hp]; exact wat_wids a3)
      · obtain ⟨h2, r0, h3, rfl⟩ := hst0 k r h
        have := (J.rows k r0 h3).1 (by rw [hp]; exact h2)
        rw [hp] at this; exact this
    have hAA : ∀ b, c.A ρ (accS acc st0) b → c.A ρ st' b := by
      rintro b (h0 | h0)
      · exact .inl h0
      · exact .inr (A_of_less (fun k r hr => ⟨r, hlow k r hr⟩) b h0)
    have GF : Good c ⟨finE acc (inl (wids W)) E1, accS acc st0⟩ (lk (envE l' ops vs n)) w1 ρ xs := by
      refine ⟨fun k r hr => (J.good.rows k r (hlow k r hr)).up (Nat.le_refl _) (fun _ _ _ => rfl) (fun b _ => hAA b) (fun _ _ => rfl), fun i j r s b hne hi hj => J.good.apart i j r s b hne (hlow i r hi) (hlow j s hj), fun t x hx => ?_, J.good.kept, J.good.a0⟩
      rw [hlk_finE] at hx
      cases hy : hlk E1 t with
      | none => rw [hy] at hx; cases hx
      | some y =>
      rw [hy] at hx
      simp only [Option.map_some, Option.some.injEq] at hx
      rcases F1 t y hy with ⟨j, a, b, d⟩ | ⟨a, b⟩
      · obtain ⟨v, v1, v2⟩ := J.good.env _ _ (J.hds j a (hall j a))
        have hv : v = vs j := by
          simp only [lkB] at v1
          rw [if_neg (by omega), show (2 * j + 1) / 2 = j by omega] at v1
          exact (Option.some.inj v1).symm
        subst hv
        refine ⟨vs j, (envE_new (l := l') (vs := vs) hlt (base := Array.replicate N undef) (by simp) b (fun q hq hne e => hne (uniq q j t hq a e b)) n (Nat.le_refl _) a).1, ?_⟩
        obtain ⟨oj, hoj, hdj⟩ := dstAt_some b
        obtain ⟨Tj, -, -, -, hhj⟩ := (head j oj a hoj).head
        rcases hhj with ⟨e, -⟩ | ⟨id2, d2, _, _, _, _, _, _, _, _, _, _, e, _, e3, e2, _, _, _, _, hm3⟩
        · have hD : accD acc t = false := by
            cases hD : accD acc t with
            | false => rfl
            | true =>
              obtain ⟨y', y1, y2⟩ := (accDm acc t).1 hD
              obtain ⟨q, q1, q2, q3⟩ := hacc y' y1
              rw [y2] at q2
              have := uniq q j t q1 a q2 b
              subst this
              rw [e] at q3; cases q3
          rw [hD, cond_false] at hx
          rw [e] at v2
          dsimp only at v2
          rw [hp, d] at v2
          subst hx
          exact v2.up (Nat.le_refl _) (fun _ _ _ => rfl) (fun b _ => hAA b) (Nat.le_refl _)
        · have hD : accD acc t = true := (accDm acc t).2 ⟨_, hm3, by rw [hdj] at e3; exact (Option.some.inj e3).symm⟩
          rw [hD, cond_true] at hx
          subst hx
          rw [e] at v2
          dsimp only at v2
          rw [← d, e2]
          exact v2.up (Nat.le_refl _) (fun _ _ _ => rfl) (fun b _ => hAA b) (Nat.le_refl _)
      · have hD : accD acc t = false := by
          cases hD : accD acc t with
          | false => rfl
          | true =>
            obtain ⟨y', y1, y2⟩ := (accDm acc t).1 hD
            obtain ⟨q, q1, q2, q3⟩ := hacc y' y1
            rw [y2] at q2
            exact absurd q2 (a q q1)
        rw [hD, cond_false] at hx
        subst hx
        obtain ⟨v, v1, v2⟩ := J.good.env _ _ (J.env t y b)
        simp only [lkB] at v1
        rw [if_pos (by omega), show 2 * t / 2 = t by omega] at v1
        rw [hp] at v2
        exact ⟨v, by rw [(envE_old (l := l') (vs := vs) #[] t n a).1]; exact v1, v2.up (Nat.le_refl _) (fun _ _ _ => rfl) (fun b _ => hAA b) (Nat.le_refl _)⟩
    exact HW_drw.V2.mono' (HV2_VC _ _ _ _ h1 ⟨ρ, xs, GF⟩) fun l2 w2 h2 => h2
end
/-! ### the equations -/
theorem ner {p q : Prop} (h : p = q) : p = q := by rw [h]
theorem ner' {α : Sort _} {p q : α} (h : p = q) : p = q := by rw [h]
theorem inl_nil (i : Nat) : inl [] i = false := ner' rfl
theorem inl_cons (k : Nat) (r : List Nat) (i : Nat) : inl (k :: r) i = (k == i || inl r i) := ner' rfl
theorem wids_nil : wids [] = [] := ner' rfl
theorem wids_cons (a id : Nat) (D : List Nat) (r : Aps) : wids ((a, id, D) :: r) = id :: wids r := ner' rfl
theorem bad_nil (i : Nat) : bad [] i = [] := ner' rfl
theorem bad_cons (a id : Nat) (D : List Nat) (r : Aps) (i : Nat) : bad ((a, id, D) :: r) i = bif a == i || inl D i then bad r i else id :: bad r i := ner' rfl
theorem wat_nil (i : Nat) : wat [] i = none := ner' rfl
theorem wat_cons (a id : Nat) (D : List Nat) (r : Aps) (i : Nat) : wat ((a, id, D) :: r) i = bif a == i then some id else wat r i := ner' rfl
theorem accD_nil (t : Nat) : accD [] t = false := ner' rfl
theorem accD_cons (d id : Nat) (row : Row) (r : Acc) (t : Nat) : accD ((d, id, row) :: r) t = (d == t || accD r t) := ner' rfl
theorem accS_nil (st : Store) : accS [] st = st := ner' rfl
theorem accS_cons (d id : Nat) (row : Row) (r : Acc) (st : Store) : accS ((d, id, row) :: r) st = (id, row) :: accS r st := ner' rfl
theorem finE_nil (a : Acc) (p : Nat → Bool) : finE a p [] = [] := ner' rfl
theorem finE_cons (a : Acc) (p : Nat → Bool) (t : Nat) (x : HV) (r : HEnv) : finE a p ((t, x) :: r) = (t, bif accD a t then x else x.kill p) :: finE a p r := ner' rfl
theorem hapd2_go (id : Nat) (K : Row → Prop) (c : Prop) (i : Nat) (S' : HS) : HApd2 id K (.go c (.own i) S') = ((i = id ∧ c) ∧ match rlk S'.st id with
    | some (.sl nw ty sz els) => K (.sl nw ty sz els)
    | _ => False) := ner rfl
theorem hapd1_sl (P : Program) (T : HEnv) (id : Nat) (o : Oper) (d : Nat) (K : Row → Prop) (nw : Bool) (ty sz : Nat) (els : List (List FV)) : HApd1 P T id o d K (some (.sl nw ty sz els)) = HApd2 id K (hop P ⟨T, [(id, .sl nw ty sz els)]⟩ (idOf o.dst) o.op) := ner rfl
theorem hapd_eq (P : Program) (N : Nat) (st : Store) (T : HEnv) (id : Nat) (o : Oper) (K : Nat → Row → Prop) : HApd P N st T id o K = (o.guard = none ∧ match o.dst with
    | some d => dstOk N (some d) = true ∧ HApd1 P T id o d (K d) (rlk st id)
    | none => False) := ner rfl
theorem hva_nil (P : Program) (N : Nat) (ds : List (Option Nat)) (st st0 : Store) (W : Aps) (K : HEnv → Acc → Prop) (i : Nat) (E : HEnv) (acc : Acc) : HVa P N ds st st0 W K [] i E acc = K E acc := ner rfl
theorem hva_cons (P : Program) (N : Nat) (ds : List (Option Nat)) (st st0 : Store) (W : Aps) (K : HEnv → Acc → Prop) (o : Oper) (rest : List Oper) (i : Nat) (E : HEnv) (acc : Acc) : HVa P N ds st st0 W K (o :: rest) i E acc = (ekill (inl (bad W i)) (pickE E (slotG ds o.guard ++ slotsOf o.op)) = pickE E (slotG ds o.guard ++ slotsOf o.op) ∧ match wat W i with
    | some id => HApd P N st (pickE E (slotG ds o.guard ++ slotsOf o.op)) id o (fun d row => HVa P N ds st st0 W K rest (i + 1) ((d, .own id) :: E) ((d, id, row) :: acc))
    | none => HStepR P N o ⟨E, st0⟩ ⟨pickE E (slotG ds o.guard ++ slotsOf o.op), st0⟩ (fun S' => HVa P N ds st st0 W K rest (i + 1) S'.env acc) (hG (pickE E (slotG ds o.guard ++ slotsOf o.op)) ds o.guard)) := ner rfl
end Go.Eng
