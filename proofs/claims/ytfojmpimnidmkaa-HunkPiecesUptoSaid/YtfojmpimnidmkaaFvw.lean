/-
  Functions that answer views of what they were handed.
-/
import Derived.Test.YtfojmpimnidmkaaFap
set_option linter.unusedSimpArgs false
set_option linter.unusedVariables false
namespace Go.Eng
open Go Go.RowKit
abbrev cxV (w : World) (A : Nat → Prop) (n0 : Nat) (hn : n0 ≤ w.heap.size) : Ctx := ⟨w, fun _ => False, A, n0, hn, fun _ _ => False⟩
def HResV (S : HS) (h : HV) (Q : HV → Store → Prop) : Prop :=
 ∃ ids, ids.length ≤ 8 ∧ dup ids = false ∧ (∀ id ∈ ids, ∀ r, rlk S.st id = some r → ∃ nw ty sz els, r = .sl nw ty sz els) ∧ Q (h.ren (pos ids)) (rpick (pos ids) S.st 0 ids)
def hfunVQ (P : Program) (rs : List ResultVar) (Q : HV → Store → Prop) : HPost
 | .normal, S => resH P S rs fun hs => HResV S (htup hs) Q
 | .ret, S => resH P S rs fun hs => HResV S (htup hs) Q
 | _, _ => False
section
variable {P : Program} {N : Nat} {c c1 : Ctx} {F : List Leaf} {S S' : HS} {Q : HV → Store → Prop} {l : Env} {look look' : Nat → Option Value} {w w' : World} {ρ ρ' : Nat → Value} {xs xs' : Nat → List Value}
def HFunV (P : Program) (f : FuncId) (args : List HV) (Q : HV → Store → Prop) : Prop :=
 ∀ (w : World) (vs : List Value) (A : Nat → Prop) (n0 : Nat) (hn : n0 ≤ w.heap.size), (∀ b, A b → b < w.heap.size) → Reps w A n0 (fun _ => undef) vs args →
  Calls P f vs.toArray w (Ret fun v w' => Below w.heap.size w w' ∧ ∃ h st', (∀ i r, rlk st' i = some r → i < 8 ∧ ∃ nw ty sz els, r = .sl nw ty sz els) ∧ Q h st' ∧ InvV (cxV w A n0 hn) ⟨[], st'⟩ h v (fun _ => none) w')
theorem res_goodV {w0 : World} {A : Nat → Prop} {n0 : Nat} {hn : n0 ≤ w0.heap.size} (hA0 : ∀ b, A b → b < w0.heap.size) (G : Good (cxV w0 A n0 hn) S look w ρ xs) {v : Value} {h : HV} (hr : RepH w (Ctx.A (cxV w0 A n0 hn) ρ S.st) n0 ρ v h) {Q : HV → Store → Prop} (R : HResV S h Q) :
  Below w0.heap.size w0 w ∧ ∃ h st', (∀ i r, rlk st' i = some r → i < 8 ∧ ∃ nw ty sz els, r = .sl nw ty sz els) ∧ Q h st' ∧ InvV (cxV w0 A n0 hn) ⟨[], st'⟩ h v (fun _ => none) w := by
 obtain ⟨ids, hlen, hd, hfr, q⟩ := R
 refine ⟨G.kept.below (fun _ _ h => h), h.ren (pos ids), _, fun i r hi => ?_, q, fun j => ρ (ids.getD j 0), fun j => xs (ids.getD j 0), ?_, ?_⟩
 ·obtain ⟨_, id, r0, h2, h3, rfl⟩ := rpick_get hi
  have := (List.getElem?_eq_some_iff.1 h2).1
  obtain ⟨nw, ty, sz, els, rfl⟩ := hfr id (List.mem_of_getElem? h2) r0 h3
  exact ⟨by omega, nw, ty, sz, els, rfl⟩
 ·have hm : ∀ i j, pos ids i = some j → ρ (ids.getD j 0) = ρ i := fun i j h => by rw [List.getD_eq_getElem?_getD, pos_get h]; rfl
  have hA : ∀ b, Ctx.A (cxV w0 A n0 hn) (fun j => ρ (ids.getD j 0)) (rpick (pos ids) S.st 0 ids) b → Ctx.A (cxV w0 A n0 hn) ρ S.st b := by
   rintro b (h0 | ⟨i, s, hi, hb⟩)
   ·exact .inl h0
   ·obtain ⟨_, id, r0, h2, h3, -⟩ := rpick_get hi
    rw [Nat.sub_zero] at h2
    try dsimp only at hb
    rw [List.getD_eq_getElem?_getD, h2, Option.getD_some] at hb
    exact .inr ⟨id, r0, h3, hb⟩
  refine ⟨fun i r hi => ?_, fun i j r s b hne hi hj hbi hbj => ?_, fun k x hk => by simp [hlk] at hk, G.kept, G.a0⟩
  ·obtain ⟨_, id, r0, h2, h3, rfl⟩ := rpick_get hi
   rw [Nat.sub_zero] at h2
   have e : ids.getD i 0 = id := by rw [List.getD_eq_getElem?_getD, h2]; rfl
   have R0 := G.rows id r0 h3
   have F0 := hfr id (List.mem_of_getElem? h2) r0 h3
   obtain ⟨f1, f2, f3, f4⟩ := Row.ren_facts (pos ids) r0
   refine ⟨by rw [f1, f2, f3]; (try dsimp only); rw [e]; exact R0.own, ?_, fun b hb => ?_⟩
   ·have := R0.rep
    cases r0 with
    | sl nw ty sz els =>
     refine ⟨this.1, fun a k ha hk => ?_⟩
     obtain ⟨u, u1, u2, u3⟩ := this.2 a k ha hk
     try dsimp only
     rw [e]
     refine ⟨u, u1, u2, ?_⟩
     exact u3.up (Nat.le_refl _) (fun _ _ _ => rfl) (fun b _ => hA b) (Nat.le_refl _)
    | bx nw ty cells => obtain ⟨_, _, _, _, e⟩ := F0; cases e
    | hl nw ty sz els => obtain ⟨_, _, _, _, e⟩ := F0; cases e
   ·try dsimp only at hb
    rw [e] at hb
    rw [f4]
    exact R0.new b hb
  ·obtain ⟨_, a, r0, h2, h3, -⟩ := rpick_get hi
   obtain ⟨_, d, s0, h4, h5, -⟩ := rpick_get hj
   rw [Nat.sub_zero] at h2 h4
   try dsimp only at hbi hbj
   rw [List.getD_eq_getElem?_getD, h2, Option.getD_some] at hbi
   rw [List.getD_eq_getElem?_getD, h4, Option.getD_some] at hbj
   exact G.apart a d r0 s0 b (fun e => hne (by subst e; exact dup_ne hd h2 h4)) h3 h5 hbi hbj
 ·have hm : ∀ i j, pos ids i = some j → ρ (ids.getD j 0) = ρ i := fun i j h => by rw [List.getD_eq_getElem?_getD, pos_get h]; rfl
  refine (hr.up (Nat.le_refl _) (fun _ _ _ => rfl) (fun b _ => ?_) (Nat.le_refl _)).ren hm
  rintro (h0 | ⟨i, s, hi, hb⟩)
  ·exact .inl h0
  ·obtain ⟨_, id, r0, h2, h3, -⟩ := rpick_get hi
   rw [Nat.sub_zero] at h2
   try dsimp only at hb
   rw [List.getD_eq_getElem?_getD, h2, Option.getD_some] at hb
   exact .inr ⟨id, r0, h3, hb⟩
theorem hfunV {f : FuncId} {fn : Func} {x : Code} {args : List HV} {rs : Array ResultVar} {Q : HV → Store → Prop} (hf : P.funcs[f]? = some fn) (hb : fn.body = some x) (hN : fn.ntmps = N) (hrs : fn.results = rs) (hle : args.length ≤ N)
  (h : HW P N x (hfunVQ P rs.toList Q) ⟨argsH 0 args, []⟩) : HFunV P f args Q := fun w vs A n0 hn hA0 R => by
 refine calls_W hf hb hN hrs (by rw [R.1]; exact hle) ?_
 have I : Inv (cxV w A n0 hn) ⟨argsH 0 args, []⟩ (lk (argsE 0 vs)) w := by
  refine ⟨fun _ => undef, fun _ => [], fun id r hr => by simp [rlk] at hr, fun i j r s b hne hi => by simp [rlk] at hi, fun k h hk => ?_, Kept.refl _ _, fun b hb => ⟨hA0 b hb, fun h => h⟩⟩
  obtain ⟨-, h2⟩ := argsH_get args 0 k h hk
  rw [Nat.sub_zero] at h2
  obtain ⟨hlt, rfl⟩ := List.getElem?_eq_some_iff.1 h2
  have hlt' : k < vs.length := by rw [R.1]; exact hlt
  refine ⟨vs[k], argsE_at vs 0 k _ (Nat.zero_le _) (by simp [hlt']), (R.2 k hlt' hlt).up (Nat.le_refl _) (fun _ _ _ => rfl) (fun b _ hA => ?_) (Nat.le_refl _)⟩
  rcases hA with h0 | ⟨i, r, hi, -⟩
  ·exact h0
  ·simp [rlk] at hi
 refine (h _ _ _ I).mono fun e l' w' ⟨S', I', q⟩ => ?_
 obtain ⟨ρ, xs, G⟩ := I'
 have fin : resH P S' rs.toList (fun hs => HResV S' (htup hs) Q) → resE P l' w' rs.toList fun vs => Below w.heap.size w w' ∧ ∃ h st', (∀ i r, rlk st' i = some r → i < 8 ∧ ∃ nw ty sz els, r = .sl nw ty sz els) ∧ Q h st' ∧ InvV (cxV w A n0 hn) ⟨[], st'⟩ h (tup vs) (fun _ => none) w' := fun hr =>
  resH_resE.resE_mono (resH_resE G _ _ hr) fun vs ⟨hs, hR, hv⟩ => res_goodV hA0 G (htup_rep hv) hR
 cases e with
 | normal => exact fin q
 | ret => exact fin q
 | _ => exact q.elim
theorem Good.addsV (G : Good c S look w ρ xs) (B : Below w.heap.size w w') {st : Store} (h8 : ∀ i r, rlk st i = some r → i < 8 ∧ ∃ nw ty sz els, r = .sl nw ty sz els) {ρ' : Nat → Value} {xs' : Nat → List Value} (hn : c.n0 ≤ w.heap.size) (G' : Good (cxV w (c.A ρ S.st) c.n0 hn) ⟨[], st⟩ (fun _ => none) w' ρ' xs') {v : Value} {h : HV}
  (hr : RepH w' (Ctx.A (cxV w (c.A ρ S.st) c.n0 hn) ρ' st) c.n0 ρ' v h) (n : Nat) : InvV c (S.adds n st) (h.ren (sh n)) v look w' := by
 have hbase : ∀ i, eight n i = true → rlk (skill (eight n) S.st) i = none := fun i hi => by rw [rlk_skill, hi]; rfl
 have hw0 : c.n0 ≤ w.heap.size := Nat.le_trans c.hn G.kept.size
 have hw1 := G.kept.size
 let ρ2 : Nat → Value := fun i => bif eight n i then ρ' (i - n) else ρ i
 have q1 : ∀ i, eight n i = false → ρ2 i = ρ i := fun i hi => by show (bif eight n i then _ else _) = _; rw [hi]; rfl
 have q2 : ∀ i j, sh n i = some j → ρ2 j = ρ' i := fun i j hj => by
  unfold sh at hj
  cases e : Nat.blt i 8 with
  | false => rw [e] at hj; cases hj
  | true =>
   rw [e] at hj
   simp only [cond_true, Option.some.injEq] at hj
   subst hj
   have : i < 8 := by simpa [Nat.blt_eq] using e
   show (bif eight n (n + i) then _ else _) = _
   rw [eight_iff.2 ⟨by omega, by omega⟩, cond_true, show n + i - n = i by omega]
 have cases2 : ∀ i r, rlk (S.adds n st).st i = some r → (∃ s, eight n i = true ∧ rlk st (i - n) = some s ∧ r = s.ren (sh n) ∧ ρ2 i = ρ' (i - n)) ∨ (∃ s, eight n i = false ∧ rlk S.st i = some s ∧ r = s.kill (eight n) ∧ ρ2 i = ρ i) := by
  intro i r hi
  rcases rlk_radds hbase (fun i r h => (h8 i r h).1) hi with ⟨s, a1, a2, a3⟩ | ⟨a1, a2⟩
  ·left
   have := (h8 _ _ a2).1
   have e : eight n i = true := eight_iff.2 ⟨a1, by omega⟩
   exact ⟨s, e, a2, a3, by show (bif eight n i then _ else _) = _; rw [e]; rfl⟩
  ·right
   rw [rlk_skill, a1, cond_false] at a2
   cases hs : rlk S.st i with
   | none => rw [hs] at a2; cases a2
   | some s => rw [hs] at a2; simp only [Option.map_some, Option.some.injEq] at a2; exact ⟨s, a1, rfl, a2.symm, q1 i a1⟩
 have new : ∀ i s b, rlk st i = some s → (ρ' i).ownBlock = some b → w.heap.size ≤ b := fun i s b hs hb => by
  rcases ((G'.rows i s hs).new b hb).1 with h | h
  ·exact h
  ·exact h.elim
 have hA1 : ∀ b, b < w.heap.size → c.A ρ2 (S.adds n st).st b → c.A ρ S.st b := by
  rintro b hlt (h0 | ⟨i, r, hi, hb⟩)
  ·exact .inl h0
  ·rcases cases2 i r hi with ⟨s, _, a2, _, a4⟩ | ⟨s, _, a2, _, a4⟩
   ·rw [a4] at hb; have := new _ s b a2 hb; omega
   ·rw [a4] at hb; exact .inr ⟨i, s, a2, hb⟩
 have hA2 : ∀ b, c.A ρ2 (S.adds n st).st b → Ctx.A (cxV w (c.A ρ S.st) c.n0 hn) ρ' st b := by
  rintro b (h0 | ⟨i, r, hi, hb⟩)
  ·exact .inl (.inl h0)
  ·rcases cases2 i r hi with ⟨s, _, a2, _, a4⟩ | ⟨s, _, a2, _, a4⟩
   ·rw [a4] at hb; exact .inr ⟨_, s, a2, hb⟩
   ·rw [a4] at hb; exact .inl (.inr ⟨i, s, a2, hb⟩)
 have tr1 : ∀ v x, RepH w (c.A ρ S.st) c.n0 ρ v x → RepH w' (c.A ρ2 (S.adds n st).st) c.n0 ρ2 v (x.kill (eight n)) := fun v x hx => (hx.up B.size (fun b hlt _ => B.block b hlt) hA1 (Nat.le_refl _)).kill q1
 have tr2 : ∀ v x, RepH w' (Ctx.A (cxV w (c.A ρ S.st) c.n0 hn) ρ' st) c.n0 ρ' v x → RepH w' (c.A ρ2 (S.adds n st).st) c.n0 ρ2 v (x.ren (sh n)) := fun v x hx => (hx.up (Nat.le_refl _) (fun _ _ _ => rfl) (fun b _ => hA2 b) (Nat.le_refl _)).ren q2
 refine ⟨ρ2, fun i => bif eight n i then xs' (i - n) else xs i, ⟨fun i r hi => ?_, fun i j r s b hne hi hj hbi hbj => ?_, fun k x hk => ?_, ?_, G.a0⟩, tr2 _ _ hr⟩
 ·rcases cases2 i r hi with ⟨s, a1, a2, rfl, a4⟩ | ⟨s, a1, a2, rfl, a4⟩
  ·have R := G'.rows _ s a2
   obtain ⟨f1, f2, f3, f4⟩ := Row.ren_facts (sh n) s
   rw [a1, cond_true]
   refine ⟨by rw [f1, f2, f3, a4]; exact R.own, ?_, fun b hb => ?_⟩
   ·have := R.rep
    cases s with
    | sl nw ty sz els =>
     refine ⟨this.1, fun p k hp hk => ?_⟩
     obtain ⟨u, u1, u2, u3⟩ := this.2 p k hp hk
     exact ⟨u, u1, u2, u3.up (Nat.le_refl _) (fun _ _ _ => rfl) (fun b _ => hA2 b) (Nat.le_refl _)⟩
    | bx nw ty cells => obtain ⟨_, _, _, _, _, e⟩ := h8 _ _ a2; cases e
    | hl nw ty sz els =>
     refine ⟨fun x hx => ?_, fun p k hp hk => ?_⟩
     ·obtain ⟨y, hy, rfl⟩ := List.mem_map.1 hx
      rw [List.length_map]; exact this.1 y hy
     ·simp only [List.length_map] at hp
      simp only [List.getElem_map, List.length_map] at hk ⊢
      obtain ⟨u, u1, u2, u3⟩ := this.2 p k hp hk
      exact ⟨u, u1, u2, tr2 _ _ u3⟩
   ·rw [a4] at hb
    have := new _ s b a2 hb
    exact ⟨.inl (by omega), fun _ => by omega⟩
  ·rw [a1, cond_false]
   have R := (G.rows i s a2).up B.size (fun b hlt _ => B.block b hlt) hA1 (fun b hb => B.block b (G.lt a2 hb))
   exact R.kill q1 a1
 ·rcases cases2 i r hi with ⟨s1, a1, a2, -, a4⟩ | ⟨s1, a1, a2, -, a4⟩ <;> rcases cases2 j s hj with ⟨s2, b1, b2, -, b4⟩ | ⟨s2, b1, b2, -, b4⟩
  ·rw [a4] at hbi; rw [b4] at hbj
   have e1 := eight_iff.1 a1
   have e2 := eight_iff.1 b1
   exact G'.apart _ _ s1 s2 b (by omega) a2 b2 hbi hbj
  ·rw [a4] at hbi; rw [b4] at hbj
   have := new _ s1 b a2 hbi
   have := G.lt b2 hbj
   omega
  ·rw [a4] at hbi; rw [b4] at hbj
   have := new _ s2 b b2 hbj
   have := G.lt a2 hbi
   omega
  ·rw [a4] at hbi; rw [b4] at hbj
   exact G.apart i j s1 s2 b hne a2 b2 hbi hbj
 ·simp only [HS.adds, hlk_ekill] at hk
  cases hx : hlk S.env k with
  | none => rw [hx] at hk; cases hk
  | some x0 =>
   rw [hx] at hk
   simp only [Option.map_some, Option.some.injEq] at hk
   subst hk
   obtain ⟨v, h1, h2⟩ := G.env k x0 hx
   exact ⟨v, h1, tr1 v x0 h2⟩
 ·exact G.kept.trans (T' := fun _ => False) ⟨B.os, B.tape, B.output, B.size, fun b hlt _ => B.block b hlt⟩ (fun _ _ h => h.elim)
inductive Plain0 : HV → Prop
 | v (x : Value) : Plain0 (.v x)
 | lst (fr : Bool) (xs : List (List FV)) : Plain0 (.lst fr xs)
theorem HV2F_view {ds : List (Option Nat)} {K : List Leaf → HS → Prop} {o : Oper} {rest : List Oper} {f : FuncId} {args : List HV} {R : HV → Store → Prop} {x : Operand} {as : Array Operand} {ats : Array TypeId} (n : Nat) (hc : callable P f = true) (H : HFunV P f args R)
  (hop : o.op = .call ⟨.value x, as, ats⟩) (hg : goes (hG S.env ds o.guard) = true) (hd : dstOk N o.dst = true) (hfn : fnH (hev S.env x) = some f) (has : hevs S.env as.toList = some args) (hl : ∀ a ∈ args, Plain0 a)
  (h : ∀ h st, R h st → HV2F P N ds K rest F ((S.adds n st).set o.dst (h.ren (sh n)))) : HV2F P N ds K (o :: rest) F S := fun c l w ⟨c1, hs, ρ, xs, G⟩ => by
 rw [VC]
 refine gd_goes ⟨ρ, xs, G⟩ hg ⟨dstOk_lt hd, ?_⟩
 obtain ⟨vs, e1, e2, e3⟩ := G.evs (agr_self _ _) has
 rw [hop]
 unfold vcOp
 simp only [doOr, pureOp, effOp, e1, G.fn (agr_self _ _) hfn]
 have hn : c1.n0 ≤ w.heap.size := Nat.le_trans c1.hn G.kept.size
 have hA0 : ∀ b, c1.A ρ S.st b → b < w.heap.size := by
  rintro b (h0 | ⟨i, r, hi, hb⟩)
  ·have := (G.a0 b h0).1; have := G.kept.size; omega
  ·exact G.lt hi hb
 refine ⟨hc, Ret.mono (H w vs (c1.A ρ S.st) c1.n0 hn hA0 ⟨e2, fun i h1 h2 => ?_⟩) fun v w' ⟨B, h', st, h8, q, ρ', xs', G', hr⟩ => ?_⟩
 ·have e := e3 i h1 h2
  have p := hl _ (List.getElem_mem h2)
  generalize args[i] = a at e p ⊢
  generalize vs[i] = v0 at e ⊢
  cases p with
  | v x => cases e; exact .v _
  | lst fr ys => cases e with | lst e => exact .lst e
 ·have I2 := G.addsV B h8 hn G' hr n
  refine h h' st q c _ w' ⟨c1, hs.same fun b hb => ?_, I2.set o.dst⟩
  have := (G.a0 b (hs.L b hb).1).1
  have := G.kept.size
  exact B.block b (by omega)
end
end Go.Eng
