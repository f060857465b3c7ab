/-
  Code over values: regions, ways, loops, functions.
-/
import Derived.Test.YtppnicpbncfhnaaHy
set_option linter.unusedSimpArgs false
set_option linter.unusedVariables false
namespace Go.Eng
open Go Go.RowKit

section
variable {c : Ctx} {S S' : HS} {look : Nat → Option Value} {w w' : World} {ρ ρ' : Nat → Value} {xs : Nat → List Value} {A A' : Nat → Prop} {n0 n1 : Nat}
/-- a row as a list -/
theorem row_lst {v : Value} {ty sz : Nat} {els : List (List FV)} {l : List Value} {fr : Bool} (o1 : Own w 0 ty sz v els.length l) (o2 : ∀ x ∈ els, x.length = sz)
    (o3 : ∀ i k (hi : i < els.length) (hk : k < els[i].length), ∃ u, l[i * sz + k]? = some u ∧ u.oneCell' = true ∧ RepF w A n0 u els[i][k]) (hA : ∀ b, v.ownBlock = some b → ¬ A b ∧ (fr = true → n0 ≤ b)) : RepF w A n0 v (.lst fr els) := by
  have hl := o1.1
  have hh := o1
  have val : ∀ i k (hi : i < els.length) (hk : k < els[i].length), ∃ u, l.getD (i * sz + k) (.bool false) = u ∧ l[i * sz + k]? = some u ∧ u.oneCell' = true ∧ RepF w A n0 u els[i][k] := fun i k hi hk => by
    obtain ⟨u, a, b, d⟩ := o3 i k hi hk
    exact ⟨u, by rw [List.getD_eq_getElem?_getD, a]; rfl, a, b, d⟩
  rcases o1.2 with ⟨rfl, h0⟩ | ⟨g, cap, cur, rfl, -, hg, hn, hm, hs, ht⟩
  · have : els = [] := List.eq_nil_of_length_eq_zero h0
    subst this
    exact .lst sz (fun _ _ => .bool false) rfl (Nat.le_refl _) (Nat.zero_le _) (fun _ => rfl) (by simp) (fun h => absurd h (Nat.lt_irrefl _)) (fun i k hi => absurd hi (Nat.not_lt_zero _)) (fun i k hi => absurd hi (by simp))
  · obtain ⟨h1, h2⟩ := hA g rfl
    refine .lst sz (fun i k => l.getD (i * sz + k) (.bool false)) rfl hn hm (fun h => by cases h) o2 (fun _ => ⟨g, 0, rfl, h1, (Array.getElem?_eq_some_iff.1 hg).1, h2, fun i k hi hk => ?_⟩) (fun i k hi hk => ?_) (fun i k hi hk => ?_)
    · obtain ⟨u, a, b, -⟩ := val i k hi (by rw [o2 _ (List.getElem_mem hi)]; exact hk)
      rw [Nat.zero_add, World.ownsRow.cellAt hh _ (by rw [← hl]; exact (List.getElem?_eq_some_iff.1 b).1), b, a]
    · obtain ⟨u, a, b, d, -⟩ := val i k hi (by rw [o2 _ (List.getElem_mem hi)]; exact hk)
      rw [a]; exact d
    · obtain ⟨u, a, b, -, d⟩ := val i k hi hk
      rw [a]; exact d
/-! ### a row comes to rest -/
def vwSub (x : HV) (sz o n : Nat) : HV := match x with
  | .lst fr xs => bif xs.all (fun y => y.length == sz) then .lst fr ((xs.take (o + n)).drop o) else .junk
  | _ => .junk
def HV.sub (id : Nat) (x : HV) : HV → HV
  | .own i => if i = id then x else .own i
  | .vw i sz o n => if i = id then vwSub x sz o n else .vw i sz o n
  | .ptr i sz j k => if i = id then .junk else .ptr i sz j k
  | .agg cs => .agg (cs.map (sub id x))
  | .tup cs => .tup (cs.map (sub id x))
  | .v x => .v x
  | .lst fr xs => .lst fr xs
  | .elt fr xs sz i k => .elt fr xs sz i k
  | .junk => .junk
def Row.sub (id : Nat) (x : HV) : Row → Row
  | .sl n t s xs => .sl n t s xs
  | .bx n t cs => .bx n t (cs.map (HV.sub id x))
def esub (id : Nat) (x : HV) : HEnv → HEnv
  | [] => []
  | (k, h) :: s => (k, HV.sub id x h) :: esub id x s
def ssub (id : Nat) (x : HV) : Store → Store
  | [] => []
  | (k, r) :: s => if k = id then ssub id x s else (k, r.sub id x) :: ssub id x s
def HS.rest (S : HS) (id : Nat) (x : HV) : HS := ⟨esub id x S.env, ssub id x S.st⟩
theorem hlk_esub (id : Nat) (x : HV) : ∀ (l : HEnv) (k : Nat), hlk (esub id x l) k = (hlk l k).map (HV.sub id x)
  | [], k => rfl
  | (j, h) :: r, k => by
    simp only [esub, hlk]
    split
    · rfl
    · exact hlk_esub id x r k
theorem rlk_ssub (id : Nat) (x : HV) : ∀ (l : Store) (k : Nat), rlk (ssub id x l) k = if k = id then none else (rlk l k).map (Row.sub id x)
  | [], k => by simp [ssub, rlk]
  | (j, h) :: r, k => by
    simp only [ssub, rlk]
    by_cases e2 : j = k
    · subst e2
      by_cases e : j = id
      · rw [if_pos e, if_pos e, rlk_ssub id x r j, if_pos e]
      · rw [if_neg e, if_neg e, if_pos rfl]; simp [rlk]
    · rw [if_neg e2]
      by_cases e : j = id
      · rw [if_pos e]; exact rlk_ssub id x r k
      · rw [if_neg e]; simp only [rlk, if_neg e2]; exact rlk_ssub id x r k
theorem repH_lst {v : Value} {fr : Bool} {l : List (List FV)} (h : RepH w A n0 ρ v (.lst fr l)) : RepF w A n0 v (.lst fr l) := by
  cases h with
  | lst h => exact h
theorem RepH.sub {v : Value} {h x : HV} {id : Nat} (hr : RepH w A n0 ρ v h) (hx : RepH w A n0 ρ (ρ id) x) : RepH w A n0 ρ v (HV.sub id x h) := by
  induction hr with
  | v y => rw [HV.sub]; exact .v y
  | lst h => rw [HV.sub]; exact .lst h
  | own j h1 =>
    rw [HV.sub]
    split
    · rename_i e; subst e; exact hx
    · exact .own j h1
  | vw sz o m hg hm hc hn' hx' ha =>
    rw [HV.sub]
    split
    · rename_i e
      subst e
      unfold vwSub
      split
      · rename_i fr l
        cases hall : l.all (fun y => y.length == sz) with
        | false => exact .junk _
        | true =>
        have hF := repH_lst hx
        rw [hg] at hF
        cases hF with
        | lst s vals hn hcap hm' hnil hsz ha' h1 hr =>
        refine .lst (.lst s (fun i k => vals (o + i) k) (by simp; omega) (by omega) hx' hn' (fun y hy => hsz y (List.mem_of_mem_take (List.mem_of_mem_drop hy))) (fun h0 => ?_) (fun i k hi hk => h1 _ _ (by omega) hk) (fun i k hi hk => ?_))
        · obtain ⟨b, off, e1, h2, h3, h4, h5⟩ := ha' (by omega)
          obtain ⟨g, e2, e3⟩ := ha (by omega)
          rw [e1] at e2
          simp only [Option.some.injEq, Addr.mk.injEq] at e2
          obtain ⟨rfl, rfl, -⟩ := e2
          have hss : s = sz := by
            have hmem := List.getElem_mem (l := l) (n := 0) (by omega)
            have := List.all_eq_true.1 hall _ hmem
            rw [← hsz _ hmem]; simpa using this
          subst hss
          refine ⟨b, o * s, e3, h2, h3, h4, fun i k hi hk => ?_⟩
          rw [← h5 (o + i) k (by omega) hk]
          congr 2
          rw [Nat.add_mul]; omega
        · simp only [List.getElem_drop, List.getElem_take] at hk ⊢
          exact hr (o + i) k _ hk
      · exact .junk _
    · exact .vw sz o m hg hm hc hn' hx' ha
  | ptr sz i k h =>
    rw [HV.sub]
    split
    · exact .junk _
    · exact .ptr sz i k h
  | elt h h1 h2 => rw [HV.sub]; exact .elt h h1 h2
  | agg hn h1 h ih => rw [HV.sub]; exact .agg (by simpa using hn) h1 (fun j a b => by rw [List.getElem_map]; exact ih j a (by simpa using b))
  | tup hn h ih => rw [HV.sub]; exact .tup (by simpa using hn) (fun j a b => by rw [List.getElem_map]; exact ih j a (by simpa using b))
  | junk v => rw [HV.sub]; exact .junk v
theorem Row.sub_facts (id : Nat) (x : HV) (r : Row) : (r.sub id x).ty = r.ty ∧ (r.sub id x).sz = r.sz ∧ (r.sub id x).len = r.len ∧ (r.sub id x).nw = r.nw := by cases r <;> simp [Row.sub, Row.ty, Row.sz, Row.len, Row.nw]
theorem Inv.rest (I : Inv c S look w) {id ty sz : Nat} {nw : Bool} {els : List (List FV)} (hr : rlk S.st id = some (.sl nw ty sz els)) : Inv c (S.rest id (.lst nw els)) look w := by
  obtain ⟨ρ, xs, G⟩ := I
  obtain ⟨o1, o2, o3⟩ := rows_sl G hr
  have hA : ∀ b, c.A ρ (S.rest id (.lst nw els)).st b → c.A ρ S.st b ∧ ((ρ id).ownBlock = some b → c.A0 b) := by
    rintro b (h0 | ⟨i, s, hi, hb⟩)
    · exact ⟨.inl h0, fun _ => h0⟩
    · simp only [HS.rest, rlk_ssub] at hi
      by_cases e : i = id
      · rw [if_pos e] at hi; cases hi
      · rw [if_neg e] at hi
        cases hs : rlk S.st i with
        | none => rw [hs] at hi; cases hi
        | some s0 => exact ⟨.inr ⟨i, s0, hs, hb⟩, fun h => (G.apart i id s0 _ b e hs hr hb h).elim⟩
  have hx : RepH w (c.A ρ (S.rest id (.lst nw els)).st) c.n0 ρ (ρ id) (.lst nw els) := by
    refine .lst (row_lst o1 o2 (fun i k hi hk => ?_) (fun b hb => ?_))
    · obtain ⟨u, a, b, d⟩ := o3 i k hi hk
      exact ⟨u, a, b, d.up (Nat.le_refl _) (fun _ _ _ => rfl) (fun b _ h => (hA b h).1) (Nat.le_refl _)⟩
    · obtain ⟨h1, h2⟩ := (G.rows id _ hr).new b hb
      refine ⟨fun h' => ?_, h2⟩
      rcases h1 with h | h
      · have := (G.a0 b ((hA b h').2 hb)).1; omega
      · exact (G.a0 b ((hA b h').2 hb)).2 h
  have tr : ∀ v x, RepH w (c.A ρ S.st) c.n0 ρ v x → RepH w (c.A ρ (S.rest id (.lst nw els)).st) c.n0 ρ v (HV.sub id (.lst nw els) x) := fun v x h => (h.up (Nat.le_refl _) (fun _ _ _ => rfl) (fun b _ h => (hA b h).1) (Nat.le_refl _)).sub hx
  have back : ∀ i r, rlk (S.rest id (.lst nw els)).st i = some r → ∃ r0, i ≠ id ∧ rlk S.st i = some r0 ∧ r = r0.sub id (.lst nw els) := by
    intro i r hi
    simp only [HS.rest, rlk_ssub] at hi
    by_cases e : i = id
    · rw [if_pos e] at hi; cases hi
    · rw [if_neg e] at hi
      cases hs : rlk S.st i with
      | none => rw [hs] at hi; cases hi
      | some s0 => rw [hs] at hi; simp only [Option.map_some, Option.some.injEq] at hi; exact ⟨s0, e, rfl, hi.symm⟩
  refine ⟨ρ, xs, fun i r hi => ?_, fun i j r s b hne hi hj => ?_, fun k x hk => ?_, G.kept, G.a0⟩
  · obtain ⟨r0, hne, h0, rfl⟩ := back i r hi
    have R := G.rows i r0 h0
    obtain ⟨f1, f2, f3, f4⟩ := Row.sub_facts id (.lst nw els) r0
    refine ⟨by rw [f1, f2, f3]; exact R.own, ?_, fun b hb => by rw [f4]; exact R.new b hb⟩
    have := R.rep
    cases r0 with
    | sl n' t' s' els' =>
      refine ⟨this.1, fun p k hp hk => ?_⟩
      obtain ⟨u, u1, u2, u3⟩ := this.2 p k hp hk
      exact ⟨u, u1, u2, u3.up (Nat.le_refl _) (fun _ _ _ => rfl) (fun b _ h => (hA b h).1) (Nat.le_refl _)⟩
    | bx n' t' cells =>
      refine ⟨this.1, fun k hk => ?_⟩
      rw [List.length_map] at hk
      obtain ⟨u, u1, u2, u3⟩ := this.2 k hk
      refine ⟨u, u1, u2, ?_⟩
      rw [List.getElem_map]
      exact tr _ _ u3
  · obtain ⟨r0, h1, h2, -⟩ := back i r hi
    obtain ⟨s0, h3, h4, -⟩ := back j s hj
    exact G.apart i j r0 s0 b hne h2 h4
  · simp only [HS.rest, hlk_esub] at hk
    cases hx0 : hlk S.env k with
    | none => rw [hx0] at hk; cases hk
    | some x0 =>
      rw [hx0] at hk
      simp only [Option.map_some, Option.some.injEq] at hk
      subst hk
      obtain ⟨v, h1, h2⟩ := G.env k x0 hx0
      exact ⟨v, h1, tr v x0 h2⟩
/-- what goes into an element comes to rest -/
def ownCell : HV → List Nat
  | .own i => [i]
  | _ => []
def ownIds : HV → List Nat
  | .own i => [i]
  | .agg cs => cs.flatMap ownCell
  | _ => []
def restOne (S : HS) (i : Nat) : HS := match rlk S.st i with
  | some (.sl nw _ _ els) => S.rest i (.lst nw els)
  | _ => S
def restAll (S : HS) : List Nat → HS
  | [] => S
  | i :: r => restAll (restOne S i) r
def ownsR (S : HS) (h : HV) : Option Row → List Nat
  | some (.sl _ _ _ _) => ownIds h
  | _ => []
def ownsS (S : HS) : Option HV → Option HV → List Nat
  | some (.ptr id _ _ _), some h => ownsR S h (rlk S.st id)
  | _, _ => []
def ownsP : Option (List (Nat × HV)) → List Nat
  | some ps => ps.flatMap fun p => ownIds p.2
  | none => []
def hpre (S : HS) : Op → HS
  | .store _ x y => restAll S (ownsS S (hev S.env x) (hev S.env y))
  | .buildSlice _ _ ps => restAll S (ownsP (partsH S.env ps.toList))
  | _ => S
theorem Inv.restAll : ∀ {ids : List Nat} {S : HS}, Inv c S look w → Inv c (restAll S ids) look w
  | [], S, I => I
  | i :: r, S, I => by
    rw [Eng.restAll]
    refine Inv.restAll ?_
    unfold restOne
    split
    · rename_i nw ty sz els hr; exact I.rest hr
    · exact I
theorem Inv.pre (I : Inv c S look w) (o : Op) : Inv c (hpre S o) look w := by
  unfold hpre
  split
  · exact I.restAll
  · exact I.restAll
  · exact I
end
inductive GOut where
  | yes
  | no
  | ask (d : Nat) (b want : Bool)
  | bad
def hGv (d : Nat) (want : Bool) : Option HV → GOut
  | some (.v (.bool b)) => .ask d b want
  | some (.v (.tuple _)) => .no
  | _ => .bad
def hG (l : HEnv) (ds : List (Option Nat)) : Option (Nat × Bool) → GOut
  | none => .yes
  | some (j, want) => match ds[j]? with
    | some (some d) => hGv d want (hlk l d)
    | _ => .bad
def hrep (d : Nat) (h : HV) : HEnv → HEnv
  | [] => []
  | (k, x) :: r => if k = d then (k, h) :: r else (k, x) :: hrep d h r
def HS.rep (S : HS) (d : Nat) (h : HV) : HS := ⟨hrep d h S.env, S.st⟩
def HS.set (S : HS) (d : Option Nat) (h : HV) : HS := match d with
  | none => S
  | some k => ⟨(k, h) :: S.env, S.st⟩
def idOf : Option Nat → Nat
  | some k => 8 * k
  | none => 0
/-- where simp is to stop -/
def HStop (K : HS → Prop) (S : HS) : Prop := K S
theorem hstop {K : HS → Prop} {S : HS} (h : K S) : HStop K S := h
def HGoOut (P : Program) (d : Option Nat) (S : HS) (K : HS → Prop) : HOut → Prop
  | .go c h S' => c ∧ K (S'.set d h)
  | .call f args => HAt P f args S (fun h S' => HStop K (S'.set d h))
  | .eqn t x y neg => ∃ r, EqR P t x.toArray y.toArray r ∧ HStop K (S.set d (.v (.bool (neg ^^ r))))
  | .bad => False
def HGo1 (P : Program) (N : Nat) (o : Oper) (S : HS) (K : HS → Prop) : Prop := match dstOk N o.dst with
  | true => HGoOut P o.dst S K (hop P S (idOf o.dst) o.op)
  | false => False
def HGo (P : Program) (N : Nat) (o : Oper) (S : HS) (K : HS → Prop) : Prop := HGo1 P N o (hpre S o.op) K
def HSkip (N : Nat) (d : Option Nat) (S : HS) (K : HS → Prop) : Prop := match dstOk N d with
  | true => K (S.set d (.v undef))
  | false => False
def HStep (P : Program) (N : Nat) (o : Oper) (S : HS) (K : HS → Prop) : GOut → Prop
  | .yes => HGo P N o S K
  | .no => HSkip N o.dst S K
  | .ask d b want => match b == want with
    | true => HGo P N o (S.rep d (.v (.bool want))) K
    | false => HSkip N o.dst (S.rep d (.v (.bool (!want)))) K
  | .bad => False
def HV2 (P : Program) (N : Nat) (ds : List (Option Nat)) (K : HS → Prop) : List Oper → HS → Prop
  | [], S => K S
  | o :: rest, S => HStep P N o S (HV2 P N ds K rest) (hG S.env ds o.guard)

section
variable {P : Program} {N : Nat} {c : Ctx} {S S' : HS} {l : Env} {look : Nat → Option Value} {w : World} {ρ : Nat → Value} {xs : Nat → List Value}
theorem hlk_hrep (d : Nat) (h : HV) : ∀ (l : HEnv) (k : Nat), hlk (hrep d h l) k = if k = d then (hlk l d).map (fun _ => h) else hlk l k
  | [], k => by simp [hrep, hlk]
  | (j, x) :: r, k => by
    simp only [hrep]
    by_cases e : j = d
    · subst e
      simp only [if_true, hlk]
      by_cases e2 : j = k
      · subst e2; simp
      · rw [if_neg e2, if_neg (by omega), if_neg e2]
    · simp only [if_neg e, hlk]
      by_cases e2 : j = k
      · subst e2; simp [e]
      · rw [if_neg e2, if_neg e2, hlk_hrep d h r k]
theorem Inv.rep (I : Inv c S look w) {d : Nat} {h : HV} (hd : hlk S.env d = some h) : Inv c (S.rep d h) look w := by
  obtain ⟨ρ, xs, G⟩ := I
  refine ⟨ρ, xs, G.rows, G.apart, fun k x hk => ?_, G.kept, G.a0⟩
  simp only [HS.rep, hlk_hrep] at hk
  by_cases e : k = d
  · subst e
    rw [if_pos rfl, hd] at hk
    simp only [Option.map_some, Option.some.injEq] at hk
    subst hk
    exact G.env k _ hd
  · rw [if_neg e] at hk; exact G.env k x hk
theorem InvV.set {h : HV} {v : Value} (I : InvV c S h v (lk l) w) (d : Option Nat) : Inv c (S.set d h) (lk (stp d v l)) w := by
  obtain ⟨ρ, xs, G, hr⟩ := I
  cases d with
  | none => exact ⟨ρ, xs, G⟩
  | some d =>
    refine ⟨ρ, xs, G.rows, G.apart, fun k x hk => ?_, G.kept, G.a0⟩
    simp only [HS.set, hlk] at hk
    simp only [stp, lk]
    by_cases e : d = k
    · rw [if_pos e] at hk ⊢
      simp only [Option.some.injEq] at hk
      subst hk
      exact ⟨v, rfl, hr⟩
    · rw [if_neg e] at hk ⊢; exact G.env k x hk
theorem agr_self (env : HEnv) (l : Env) : Agr env (lk l) l := fun _ _ _ _ h => h
theorem HGo_vc {o : Oper} {K : HS → Prop} (I : Inv c S (lk l) w) (h : HGo P N o S K) :
    dstLt N o.dst ∧ vcOp P l o.op o.type w (fun v w' => ∃ S', Inv c S' (lk (stp o.dst v l)) w' ∧ K S') (fun v w' => ∃ S', Inv c S' (lk (stp o.dst v l)) w' ∧ K S') := by
  unfold HGo HGo1 at h
  have I := I.pre o.op
  generalize hpre S o.op = S at *
  split at h
  · rename_i hd
    refine ⟨dstOk_lt hd, ?_⟩
    obtain ⟨ρ, xs, G⟩ := I
    cases ho : hop P S (idOf o.dst) o.op with
    | go c' hv S' =>
      rw [ho] at h
      obtain ⟨h1, h2⟩ := h
      exact vcOp_mono (sound_hop G (agr_self _ _) ho h1) fun v w' hv => ⟨_, InvV.set hv o.dst, h2⟩
    | call f args =>
      rw [ho] at h
      exact vcOp_mono (sound_call G (agr_self _ _) ho h) fun v w' ⟨x, S1, hK, hI⟩ => ⟨_, InvV.set hI o.dst, hK⟩
    | eqn t x y neg =>
      rw [ho] at h
      obtain ⟨r, h1, h2⟩ := h
      exact vcOp_mono (sound_eqn G (agr_self _ _) ho h1) fun v w' hv => ⟨_, InvV.set hv o.dst, h2⟩
    | bad => rw [ho] at h; exact h.elim
  · exact h.elim
theorem HSkip_vc {d : Option Nat} {K : HS → Prop} (I : Inv c S (lk l) w) (h : HSkip N d S K) : dstLt N d ∧ ∃ S', Inv c S' (lk (stp d undef l)) w ∧ K S' := by
  unfold HSkip at h
  split at h
  · rename_i hd
    obtain ⟨ρ, xs, G⟩ := I
    exact ⟨dstOk_lt hd, _, InvV.set ⟨ρ, xs, G, .v undef⟩ d, h⟩
  · exact h.elim
theorem hG_ask {ds : List (Option Nat)} {g : Option (Nat × Bool)} {d : Nat} {b want : Bool} (h : hG S.env ds g = .ask d b want) : ∃ j, g = some (j, want) ∧ ds[j]? = some (some d) ∧ hlk S.env d = some (.v (.bool b)) := by
  unfold hG at h
  split at h
  · cases h
  · rename_i j want'
    split at h
    · rename_i d' hd
      unfold hGv at h
      split at h
      · rename_i b' hb
        simp only [GOut.ask.injEq] at h
        obtain ⟨rfl, rfl, rfl⟩ := h
        exact ⟨j, rfl, hd, hb⟩
      · cases h
      · cases h
    · cases h
theorem hG_no {ds : List (Option Nat)} {g : Option (Nat × Bool)} (h : hG S.env ds g = .no) : ∃ j want d vs, g = some (j, want) ∧ ds[j]? = some (some d) ∧ hlk S.env d = some (.v (.tuple vs)) := by
  unfold hG at h
  split at h
  · cases h
  · rename_i j want'
    split at h
    · rename_i d' hd
      unfold hGv at h
      split at h
      · cases h
      · rename_i vs hb
        exact ⟨j, want', d', vs, rfl, hd, hb⟩
      · cases h
    · cases h
theorem hG_yes {ds : List (Option Nat)} {g : Option (Nat × Bool)} (h : hG S.env ds g = .yes) : g = none := by
  unfold hG at h
  split at h
  · rfl
  · split at h
    · unfold hGv at h
      split at h <;> cases h
    · cases h
/-- what a guard says -/
theorem gd_yes {ds : List (Option Nat)} {g : Option (Nat × Bool)} {k : Bool → Prop} (h : hG S.env ds g = .yes) (hk : k true) : gd l ds g k := by
  rw [hG_yes h]; exact hk
theorem gd_no (I : Inv c S (lk l) w) {ds : List (Option Nat)} {g : Option (Nat × Bool)} {k : Bool → Prop} (h : hG S.env ds g = .no) (hk : k false) : gd l ds g k := by
  obtain ⟨j, want, d, vs, rfl, hd, hb⟩ := hG_no h
  obtain ⟨ρ, xs, G⟩ := I
  obtain ⟨v, h1, h2⟩ := G.env d _ hb
  have := repH_v h2
  subst this
  simp only [gd, hd, h1]
  exact hk
theorem gd_ask (I : Inv c S (lk l) w) {ds : List (Option Nat)} {g : Option (Nat × Bool)} {k : Bool → Prop} {d : Nat} {b want : Bool} (h : hG S.env ds g = .ask d b want) (hk : k (b == want)) : gd l ds g k ∧ hlk S.env d = some (.v (.bool b)) := by
  obtain ⟨j, rfl, hd, hb⟩ := hG_ask h
  refine ⟨?_, hb⟩
  obtain ⟨ρ, xs, G⟩ := I
  obtain ⟨v, h1, h2⟩ := G.env d _ hb
  have := repH_v h2
  subst this
  simp only [gd, hd, h1]
  exact hk
theorem HV2_VC {ds : List (Option Nat)} {K : HS → Prop} : ∀ (ops : List Oper) (S : HS) (l : Env) (w : World), HV2 P N ds K ops S → Inv c S (lk l) w → VC P N ds (fun l' w' => ∃ S', Inv c S' (lk l') w' ∧ K S') ops l w
  | [], S, l, w, h, I => ⟨S, I, h⟩
  | o :: rest, S, l, w, h, I => by
    rw [HV2] at h
    rw [VC]
    have ih := HV2_VC (ds := ds) (K := K) rest
    have go : ∀ S, Inv c S (lk l) w → HGo P N o S (HV2 P N ds K rest) → dstLt N o.dst ∧ vcOp P l o.op o.type w (fun v w' => VC P N ds (fun l' w' => ∃ S', Inv c S' (lk l') w' ∧ K S') rest (stp o.dst v l) w') (fun v w' => VC P N ds (fun l' w' => ∃ S', Inv c S' (lk l') w' ∧ K S') rest (stp o.dst v l) w') := fun S I h => by
      obtain ⟨a, b⟩ := HGo_vc I h
      exact ⟨a, vcOp_mono b fun v w' ⟨S', hI, hK⟩ => ih S' _ _ hK hI⟩
    have sk : ∀ S, Inv c S (lk l) w → HSkip N o.dst S (HV2 P N ds K rest) → dstLt N o.dst ∧ VC P N ds (fun l' w' => ∃ S', Inv c S' (lk l') w' ∧ K S') rest (stp o.dst undef l) w := fun S I h => by
      obtain ⟨a, S', hI, hK⟩ := HSkip_vc I h
      exact ⟨a, ih S' _ _ hK hI⟩
    cases hg : hG S.env ds o.guard with
    | yes => rw [hg] at h; exact gd_yes hg (go S I h)
    | no => rw [hg] at h; exact gd_no I hg (sk S I h)
    | ask d b want =>
      rw [hg] at h
      have hlook := (gd_ask I hg (k := fun _ => True) trivial).2
      refine (gd_ask I hg ?_).1
      simp only [HStep] at h
      split at h
      · rename_i e
        have e' : b = want := by simpa using e
        subst e'
        rw [e]
        exact go _ (I.rep hlook) h
      · rename_i e
        have e' : b = !want := by cases b <;> cases want <;> simp_all
        subst e'
        rw [e]
        exact sk _ (I.rep hlook) h
    | bad => rw [hg] at h; exact h.elim
end

/-! ## regions that draw their order -/
def quiet : Op → Bool
  | .move _ | .assign _ | .pick .. | .extract .. | .field .. | .fieldAddr .. | .nilCheck _ | .indexAddr .. | .slice .. | .load .. | .build .. | .binOp .. | .unOp .. | .convert .. | .index .. => true
  | .call ⟨.builtin .len, _, _⟩ => true
  | _ => false
def HAtQ (P : Program) (f : FuncId) (args : List HV) (S : HS) (K : Value → Prop) : Prop :=
  callable P f = true ∧ ∃ x, K x ∧ ∀ (c : Ctx) (look : Nat → Option Value) (w : World) (ρ : Nat → Value) (xs : Nat → List Value) (vs : List Value), Good c S look w ρ xs → Reps w (c.A ρ S.st) c.n0 ρ vs args →
    Calls P f vs.toArray w (Ret fun u w' => u = x ∧ Below w.heap.size w w')
def HGoQOut (P : Program) (o : Oper) (S : HS) (K : HS → Prop) : HOut → Prop
  | .go c h _ => quiet o.op = true ∧ c ∧ K (S.set o.dst h)
  | .call f args => HAtQ P f args S (fun x => HStop K (S.set o.dst (.v x)))
  | .eqn t x y neg => ∃ r, EqR P t x.toArray y.toArray r ∧ HStop K (S.set o.dst (.v (.bool (neg ^^ r))))
  | .bad => False
def HGoQ (P : Program) (N : Nat) (o : Oper) (S : HS) (K : HS → Prop) : Prop := match dstOk N o.dst with
  | true => HGoQOut P o S K (hop P S (idOf o.dst) o.op)
  | false => False
def HStepQ (P : Program) (N : Nat) (o : Oper) (S : HS) (K : HS → Prop) : GOut → Prop
  | .yes => HGoQ P N o S K
  | .no => HSkip N o.dst S K
  | .ask d b want => match b == want with
    | true => HGoQ P N o (S.rep d (.v (.bool want))) K
    | false => HSkip N o.dst (S.rep d (.v (.bool (!want)))) K
  | .bad => False
def HVq (P : Program) (N : Nat) (ds : List (Option Nat)) (K : HS → Prop) : List Oper → HS → Prop
  | [], S => K S
  | o :: rest, S => HStepQ P N o S (HVq P N ds K rest) (hG S.env ds o.guard)
section
variable {P : Program} {N : Nat} {c : Ctx} {S S' : HS} {l : Env} {look : Nat → Option Value} {w : World} {ρ : Nat → Value} {xs : Nat → List Value}
theorem vcQ_pure {o : Op} (ho : quiet o = true) (h1 : ∀ t x, o ≠ .load t x) (h2 : ∀ t x, o ≠ .build t x) {ty : TypeId} {K : Value → World → Prop} (h : vcOp P l o ty w K (fun _ _ => False)) : vcQ P l o w (fun v => K v w) (fun v => K v w) := by
  unfold vcOp at h
  unfold vcQ
  split at h
  · exact h
  · exfalso
    have fin : (∀ x ∈ o.operands, (ev l x).isSome = true) ∧ (∃ v w', (execOp (evD l) (opOf o ty)).run P w = .ok (.value v) w' ∧ False) → False := fun h => by obtain ⟨_, _, _, _, h⟩ := h; exact h
    cases o with
    | load t x => exact h1 t x rfl
    | build t x => exact h2 t x rfl
    | binOp b t x y yt =>
      unfold effOp at h
      dsimp only at h
      split at h
      · split at h
        · unfold effEq at h
          split at h
          · obtain ⟨_, _, h⟩ := h; exact h
          · obtain ⟨_, _, h⟩ := h; exact h
          · exact h
        · exact h
      · exact h
    | call cl =>
      obtain ⟨callee, args, ats⟩ := cl
      cases callee with
      | builtin b => cases b <;> first | (simp [quiet] at ho; done) | exact fin h
      | value f => simp [quiet] at ho
      | invoke r m => simp [quiet] at ho
    | _ => first | (simp [quiet] at ho; done) | exact fin h
theorem vcQ_load {t : TypeId} {x : Operand} {ty : TypeId} {K : Value → World → Prop} (h : vcOp P l (.load t x) ty w K K) : vcQ P l (.load t x) w (fun v => K v w) (fun v => K v w) := h
theorem vcQ_build {t : TypeId} {x : Array (Nat × Operand)} {ty : TypeId} {K : Value → World → Prop} (h : vcOp P l (.build t x) ty w K K) : vcQ P l (.build t x) w (fun v => K v w) (fun v => K v w) := h
theorem vcQ_mono {o : Op} {K K' : Value → Prop} (h : vcQ P l o w K K) (hk : ∀ v, K v → K' v) : vcQ P l o w K' K' := by
  unfold vcQ at *
  split at h
  · exact ⟨h.1, hk _ h.2⟩
  · exact effQ_left h hk hk
theorem sound_hops {lw : Env} (G : Good c S look w ρ xs) (hl : Agr S.env look lw) {id : Nat} {o : Op} {ty : TypeId} {cnd : Prop} {hv : HV} (h : hop P S id o = .go cnd hv S') (hq : quiet o = true) (hc : cnd) : vcQ P lw o w (fun v => KVs c S hv look ρ xs w v w) (fun v => KVs c S hv look ρ xs w v w) := by
  unfold hop hPure at h
  split at h
  · rename_i c' v hp
    simp only [HOut.go.injEq] at h
    obtain ⟨rfl, rfl, rfl⟩ := h
    have := pureOp_mono (fun x X hx => low_leaf G hl hx) hp
    unfold vcQ
    simp only [this]
    exact ⟨hc, rfl, G, .v v⟩
  · unfold heff at h
    split at h
    · have e : S' = S := by unfold hMove at h; (repeat' split at h) <;> cases h; rfl
      subst e
      exact vcQ_pure (ty := 0) hq (fun _ _ e => by cases e) (fun _ _ e => by cases e) (sound_move G hl (.inl rfl) h hc)
    · have e : S' = S := by unfold hMove at h; (repeat' split at h) <;> cases h; rfl
      subst e
      exact vcQ_pure (ty := 0) hq (fun _ _ e => by cases e) (fun _ _ e => by cases e) (sound_move G hl (.inr rfl) h hc)
    · have e : S' = S := by unfold hPick at h; (repeat' split at h) <;> cases h; rfl
      subst e
      exact vcQ_pure (ty := 0) hq (fun _ _ e => by cases e) (fun _ _ e => by cases e) (sound_pick G hl h hc)
    · have e : S' = S := by unfold hExtract at h; (repeat' split at h) <;> cases h; rfl
      subst e
      exact vcQ_pure (ty := 0) hq (fun _ _ e => by cases e) (fun _ _ e => by cases e) (sound_extract G hl h hc)
    · have e : S' = S := by unfold hField at h; (repeat' split at h) <;> cases h <;> rfl
      subst e
      exact vcQ_pure (ty := 0) hq (fun _ _ e => by cases e) (fun _ _ e => by cases e) (sound_field G hl h hc)
    · have e : S' = S := by unfold hFAddr at h; (repeat' split at h) <;> cases h <;> rfl
      subst e
      exact vcQ_pure (ty := 0) hq (fun _ _ e => by cases e) (fun _ _ e => by cases e) (sound_faddr G hl h hc)
    · have e : S' = S := by unfold hNil at h; (repeat' split at h) <;> cases h <;> rfl
      subst e
      exact vcQ_pure (ty := 0) hq (fun _ _ e => by cases e) (fun _ _ e => by cases e) (sound_nil G hl h hc)
    · have e : S' = S := by unfold hIAddr hIAddrR hIAddrL hIAddrP hIAddrE hIAddrV at h; (repeat' split at h) <;> cases h <;> rfl
      subst e
      exact vcQ_pure (ty := 0) hq (fun _ _ e => by cases e) (fun _ _ e => by cases e) (sound_iaddr G hl h hc)
    · have e : S' = S := by unfold hSlice hSliceL hSliceR hSliceV at h; (repeat' split at h) <;> cases h <;> rfl
      subst e
      exact vcQ_pure (ty := 0) hq (fun _ _ e => by cases e) (fun _ _ e => by cases e) (sound_slice G hl h hc)
    · have e : S' = S := by unfold hLoad hLoadR hLoadE at h; (repeat' split at h) <;> cases h <;> rfl
      subst e
      exact vcQ_load (ty := 0) (sound_load G hl h hc)
    · simp [quiet] at hq
    · simp [quiet] at hq
    · simp [quiet] at hq
    · have e : S' = S := by unfold hBuild hBuildF at h; (repeat' split at h) <;> cases h <;> rfl
      subst e
      exact vcQ_build (ty := 0) (sound_build G hl h hc)
    · simp [quiet] at hq
    · simp [quiet] at hq
    · split at h
      · rename_i y hy
        have e : S' = S := by unfold hLen hLenR at h; (repeat' split at h) <;> cases h <;> rfl
        subst e
        exact vcQ_pure (ty := 0) hq (fun _ _ e => by cases e) (fun _ _ e => by cases e) (sound_len G hl hy h hc)
      · cases h
    · simp [quiet] at hq
    · simp [quiet] at hq
    · have e : S' = S := by unfold hEq hEqL at h; (repeat' split at h) <;> cases h <;> rfl
      subst e
      exact vcQ_pure (ty := 0) hq (fun _ _ e => by cases e) (fun _ _ e => by cases e) (sound_eqp (neg := false) G hl h hc)
    · have e : S' = S := by unfold hEq hEqL at h; (repeat' split at h) <;> cases h <;> rfl
      subst e
      exact vcQ_pure (ty := 0) hq (fun _ _ e => by cases e) (fun _ _ e => by cases e) (sound_eqp (neg := true) G hl h hc)
    · exact sound_convq G hl h hc
    · cases h
theorem sound_hopq {lw : Env} (G : Good c S look w ρ xs) (hl : Agr S.env look lw) {id : Nat} {o : Op} {ty : TypeId} {cnd : Prop} {hv : HV} (h : hop P S id o = .go cnd hv S') (hq : quiet o = true) (hc : cnd) : vcQ P lw o w (fun v => InvV c S hv v look w) (fun v => InvV c S hv v look w) :=
  vcQ_mono (sound_hops (ty := ty) G hl h hq hc) fun v ⟨_, G', r⟩ => ⟨ρ, xs, G', r⟩
theorem HGoQ_vc {o : Oper} {K : HS → Prop} (I : Inv c S (lk l) w) (h : HGoQ P N o S K) :
    dstLt N o.dst ∧ vcQ P l o.op w (fun v => ∃ S', Inv c S' (lk (stp o.dst v l)) w ∧ K S') (fun v => ∃ S', Inv c S' (lk (stp o.dst v l)) w ∧ K S') := by
  unfold HGoQ at h
  split at h
  · rename_i hd
    refine ⟨dstOk_lt hd, ?_⟩
    obtain ⟨ρ, xs, G⟩ := I
    cases ho : hop P S (idOf o.dst) o.op with
    | go c' hv S' =>
      rw [ho] at h
      obtain ⟨h0, h1, h2⟩ := h
      exact vcQ_mono (sound_hopq (ty := 0) G (agr_self _ _) ho h0 h1) fun v hv => ⟨_, InvV.set hv o.dst, h2⟩
    | call f args =>
      rw [ho] at h
      obtain ⟨hf, x, hK, hc⟩ := h
      obtain ⟨as, ats, e, has⟩ := hop_call ho
      rw [e]
      obtain ⟨vs, e1, e2, e3⟩ := G.evs (agr_self _ _) has
      unfold vcQ
      simp only [pureOp, effQ, e1]
      exact ⟨hf, x, fun w' hw' => Ret.mono (hc c (lk l) w' ρ xs vs (G.below hw') ⟨e2, fun i a b => (e3 i a b).up hw'.size (fun b hlt _ => hw'.block b hlt) (fun b _ h => h) (Nat.le_refl _)⟩) fun u w'' hu => ⟨hu.1, hw'.trans (hu.2.mono hw'.size)⟩, _, InvV.set ⟨ρ, xs, G, .v x⟩ o.dst, hK⟩
    | eqn t x y neg =>
      rw [ho] at h
      obtain ⟨r, h1, h2⟩ := h
      have := sound_eqn (ty := 0) G (agr_self _ l) ho h1
      obtain ⟨a, b, t', hx, hy, e, ha, hb, e1, e2⟩ := hop_eqn ho
      rw [e] at this ⊢
      refine vcQ_mono (K := fun v => InvV c S (.v (.bool (neg ^^ r))) v (lk l) w) ?_ fun v hv => ⟨_, InvV.set hv o.dst, h2⟩
      unfold vcOp at this
      unfold vcQ
      split at this
      · exact this
      · exact this
    | bad => rw [ho] at h; exact h.elim
  · exact h.elim
theorem HVq_VCq {ds : List (Option Nat)} {K : HS → Prop} : ∀ (ops : List Oper) (S : HS) (l : Env), HVq P N ds K ops S → Inv c S (lk l) w → VCq P N ds w (fun l' => ∃ S', Inv c S' (lk l') w ∧ K S') ops l
  | [], S, l, h, I => ⟨S, I, h⟩
  | o :: rest, S, l, h, I => by
    rw [HVq] at h
    rw [VCq]
    have ih := HVq_VCq (ds := ds) (K := K) rest
    have go : ∀ S, Inv c S (lk l) w → HGoQ P N o S (HVq P N ds K rest) → dstLt N o.dst ∧ vcQ P l o.op w (fun v => VCq P N ds w (fun l' => ∃ S', Inv c S' (lk l') w ∧ K S') rest (stp o.dst v l)) (fun v => VCq P N ds w (fun l' => ∃ S', Inv c S' (lk l') w ∧ K S') rest (stp o.dst v l)) := fun S I h => by
      obtain ⟨a, b⟩ := HGoQ_vc I h
      exact ⟨a, vcQ_mono b fun v ⟨S', hI, hK⟩ => ih S' _ hK hI⟩
    have sk : ∀ S, Inv c S (lk l) w → HSkip N o.dst S (HVq P N ds K rest) → dstLt N o.dst ∧ VCq P N ds w (fun l' => ∃ S', Inv c S' (lk l') w ∧ K S') rest (stp o.dst undef l) := fun S I h => by
      obtain ⟨a, S', hI, hK⟩ := HSkip_vc I h
      exact ⟨a, ih S' _ hK hI⟩
    cases hg : hG S.env ds o.guard with
    | yes => rw [hg] at h; exact gd_yes hg (go S I h)
    | no => rw [hg] at h; exact gd_no I hg (sk S I h)
    | ask d b want =>
      rw [hg] at h
      have hlook := (gd_ask I hg (k := fun _ => True) trivial).2
      refine (gd_ask I hg ?_).1
      simp only [HStepQ] at h
      split at h
      · rename_i e
        have e' : b = want := by simpa using e
        subst e'
        rw [e]
        exact go _ (I.rep hlook) h
      · rename_i e
        have e' : b = !want := by cases b <;> cases want <;> simp_all
        subst e'
        rw [e]
        exact sk _ (I.rep hlook) h
    | bad => rw [hg] at h; exact h.elim
end
end Go.Eng
