/- What the walk of the law stands on. -/
import Derived.Test.YtlfenddhppoflaaGd
set_option linter.unusedSimpArgs false
set_option linter.unusedVariables false
namespace Go.Eng
open Go Go.RowKit
section
variable {P : Program} {N : Nat} {Q : HPost} {c : Ctx} {S : HS}
def thin : HV → Bool
 | .v _ => true
 | .own _ => true
 | .vw _ _ _ _ => true
 | .ptr _ _ _ _ => true
 | _ => false
theorem thin_rep {w w' : World} {A A' : Nat → Prop} {n0 : Nat} {ρ : Nat → Value} {v : Value} {h : HV} (ht : thin h = true) (hr : RepH w A n0 ρ v h) : RepH w' A' n0 ρ v h := by
 cases hr with
 | v => exact .v _
 | own id h1 => exact .own id h1
 | vw sz off m h a b d x e => exact .vw sz off m h a b d x e
 | ptr sz i k h => exact .ptr sz i k h
 | lst => cases ht
 | elt => cases ht
 | agg => cases ht
 | tup => cases ht
 | junk => cases ht
structure HeadO (P : Program) (N : Nat) (ops : List Oper) (E0 : HEnv) (st st' : Store) (hs : Nat → HV) (k i : Nat) (o : Oper) : Prop where
 guard : o.guard = none
 lt : dstLt N o.dst
 thin : thin (hs i) = true
 head : ∃ T : HEnv, FrOk ops E0 hs i T ∧ (∀ t x, hlk T t = some x → t ∈ slotsOf o.op) ∧
  (i ≠ k → quiet o.op = true ∧ (∃ cnd, cnd ∧ hop P ⟨T, st⟩ 0 o.op = .go cnd (hs i) ⟨T, st⟩) ∧ ∃ cnd, cnd ∧ hop P ⟨T, st'⟩ 0 o.op = .go cnd (hs i) ⟨T, st'⟩) ∧
  (i = k → ∃ args ats, o.op = .call ⟨.builtin .copy, args, ats⟩ ∧ (∃ cnd, cnd ∧ hCopy ⟨T, st⟩ (ats == #[ats0 ats, ats0 ats]) (uSlice P (ats0 ats)) (hevs T args.toList) = .go cnd (hs i) ⟨T, st'⟩) ∧
   ∃ cnd, cnd ∧ hCopy ⟨T, st'⟩ (ats == #[ats0 ats, ats0 ats]) (uSlice P (ats0 ats)) (hevs T args.toList) = .go cnd (hs i) ⟨T, st'⟩)
theorem HW_drwO {id : Nat} {ops : List Oper} (n k : Nat) (st' : Store) (hs : Nat → HV) (E1 : HEnv) (hkn : k < n) (hm : P.follows .mixedOrders = true) (hok : regOk (hkeys S.env) ops n = true)
  (heads : ∀ i o, i < n → ops[i]? = some o → HeadO P N ops S.env S.st st' hs k i o) (hE : FrOk ops S.env hs n E1)
  (h : ∀ K : HS → Prop, (∀ S', Q .normal S' → K S') → HStop (HV2 P N (dsts ops) K (ops.drop n)) ⟨E1, st'⟩) : HW P N (.region id ops.toArray true) Q S := fun c l w I => by
 have hks : ∀ k ∈ hkeys S.env, ∃ v, lk l k = some v := fun k hk => by
  obtain ⟨x, hx⟩ := hkeys_get hk
  obtain ⟨ρ, xs, G⟩ := I
  obtain ⟨v, h1, -⟩ := G.env k x hx
  exact ⟨v, h1⟩
 refine W_keep (hkeys S.env) ?_
 have I' : Inv c S (lk (keep (hkeys S.env) l)) w := I.agree fun k x hk => keep_lk (hkeys_mem hk)
 have hkk : keysE (keep (hkeys S.env) l) = hkeys S.env := keysE_keep hks
 generalize keep (hkeys S.env) l = l' at I' hkk
 obtain ⟨ρ, xs, G⟩ := I'
 have ok := regOk_spec hok
 have uniq : ∀ i j t, i < n → j < n → dstAt ops i = some t → dstAt ops j = some t → i = j := by
  intro i j t hi hj h1 h2
  rcases Nat.lt_trichotomy i j with h | h | h
  ·rcases ok.uniq j i hj h with e | e
   ·rw [h2] at e; cases e
   ·exact absurd (h2.trans h1.symm) e
  ·exact h
  ·rcases ok.uniq i j hi h with e | e
   ·rw [h1] at e; cases e
   ·exact absurd (h1.trans h2.symm) e
 have hlt : DLt N ops n := fun i t hi hd => by
  obtain ⟨o, ho, hod⟩ := dstAt_some hd
  have := (heads i o hi ho).lt
  rw [hod] at this; exact this
 -- the rows as they were, or as they are behind the copy
 let C : World → Prop := fun w' => ∃ st1 xs', (st1 = S.st ∨ st1 = st') ∧ Good c ⟨S.env, st1⟩ (lk l') w' ρ xs'
 let R : Nat → Value → World → Prop := fun i u w' => (∀ (w2 : World) A, RepH w2 A c.n0 ρ u (hs i)) ∧ (i = k → ∃ xs', Good c ⟨S.env, st'⟩ (lk l') w' ρ xs')
 have frame : ∀ (vs : Nat → Value) (w' : World) (i : Nat) (E : HEnv) (st1 : Store) (xs' : Nat → List Value), i ≤ n → Good c ⟨S.env, st1⟩ (lk l') w' ρ xs' → FrOk ops S.env hs i E →
   (∀ j t x, j < i → dstAt ops j = some t → hlk E t = some x → R j (vs j) w') → Good c ⟨E, st1⟩ (lk (envE l' ops vs i)) w' ρ xs' := fun vs w' i E st1 xs' hi GB F hv => by
  refine ⟨GB.rows, GB.apart, fun k x hk => ?_, GB.kept, GB.a0⟩
  rcases F k x hk with ⟨j, a, b, d⟩ | ⟨a, b⟩
  ·refine ⟨vs j, (envE_new (l := l') (vs := vs) hlt (base := Array.replicate N undef) (by simp) b (fun q hq hne e => hne (uniq q j k hq (by omega) e b)) i hi a).1, ?_⟩
   rw [← d]; exact (hv j k x a b hk).1 _ _
  ·obtain ⟨v, v1, v2⟩ := GB.env k x b
   exact ⟨v, by rw [(envE_old (l := l') (vs := vs) #[] k i a).1]; exact v1, v2⟩
 refine W_drawnL (hkeys S.env) n hm hkk hok hlt (C := C) (R := R) (Le := fun i w1 w2 => i = k ∨ Below w1.heap.size w1 w2) ⟨S.st, xs, .inl rfl, G.below (Below.refl _ _).drew⟩ (fun i w1 => .inr (Below.refl _ _)) ?_ ?_ ?_
 ·rintro j i u w1 w2 hj hi hne - ⟨r1, r2⟩ hle
  refine ⟨r1, fun e => ?_⟩
  subst e
  rcases hle with e2 | hB
  ·exact absurd e2.symm hne
  ·obtain ⟨xs', G'⟩ := r2 rfl
   exact ⟨xs', G'.below hB⟩
 ·intro i o hi ho vs w1 hC hR
  obtain ⟨st1, xs', hst, G1⟩ := hC
  have H := heads i o hi ho
  obtain ⟨T, TF, TS, q1, q2⟩ := H.head
  have GT : Good c ⟨T, st1⟩ (lk (envE l' ops vs i)) w1 ρ xs' := frame vs w1 i T st1 xs' (by omega) G1 TF fun j t x hj hd hx => hR j t hj hd (looks_slots (List.mem_append.2 (.inr (TS t x hx))))
  refine ⟨true, by rw [H.guard]; rfl, fun _ => ?_, fun e => by cases e⟩
  by_cases hik : i = k
  ·obtain ⟨args, ats, eo, ⟨c1, p1, h1⟩, ⟨c2, p2, h2⟩⟩ := q2 hik
   have key : vcOp P (envE l' ops vs i) o.op o.type w1 (KVr c ⟨T, st1⟩ ⟨T, st'⟩ (hs i) (lk (envE l' ops vs i)) ρ w1) (KVr c ⟨T, st1⟩ ⟨T, st'⟩ (hs i) (lk (envE l' ops vs i)) ρ w1) := by
    rw [eo]
    rcases hst with rfl | rfl
    ·exact sound_copyS GT (agr_self _ _) h1 p1
    ·exact sound_copyS GT (agr_self _ _) h2 p2
   refine (vcOp_ok (fun x X hx => by simp [evD, hx]) key).mono fun u w2 ⟨xs2, g2, r2, t2⟩ => ?_
   have g3 : Good c ⟨S.env, st'⟩ (lk l') w2 ρ xs2 := ⟨g2.rows, g2.apart, fun t x ht => by obtain ⟨v, a, b⟩ := G1.env t x ht; exact ⟨v, a, t2 _ _ b⟩, g2.kept, g2.a0⟩
   exact ⟨⟨fun w3 A => thin_rep H.thin r2, fun _ => ⟨xs2, g3⟩⟩, ⟨st', xs2, .inr rfl, g3⟩, .inl hik⟩
  ·obtain ⟨hq, ⟨c1, p1, h1⟩, ⟨c2, p2, h2⟩⟩ := q1 hik
   have key : vcQ P (envE l' ops vs i) o.op w1 (fun v => KVs c ⟨T, st1⟩ (hs i) (lk (envE l' ops vs i)) ρ xs' w1 v w1) (fun v => KVs c ⟨T, st1⟩ (hs i) (lk (envE l' ops vs i)) ρ xs' w1 v w1) := by
    rcases hst with rfl | rfl
    ·exact sound_hops (ty := 0) GT (agr_self _ _) h1 hq p1
    ·exact sound_hops (ty := 0) GT (agr_self _ _) h2 hq p2
   obtain ⟨v, ⟨-, -, hv⟩, hvc⟩ := vcQ_vc (ty := o.type) key
   refine (vcOp_ok (fun x X hx => by simp [evD, hx]) (hvc w1 (Below.refl _ _))).mono fun u w2 ⟨hu, hB⟩ => ?_
   subst hu
   exact ⟨⟨fun w3 A => thin_rep H.thin hv, fun e => absurd e hik⟩, ⟨st1, xs', hst, G1.below hB⟩, .inr hB⟩
 ·intro vs w1 hC hR
  obtain ⟨xs', G1⟩ := (hR k hkn).2 rfl
  have G2 := frame vs w1 n E1 st' xs' (Nat.le_refl _) G1 hE fun j t x hj _ _ => hR j hj
  exact HW_drw.V2.mono' (HV2_VC _ _ _ _ (h (Q .normal) fun _ h => h) ⟨ρ, xs', G2⟩) fun l2 w2 h2 => h2
theorem frOk_nil {ops : List Oper} {E0 : HEnv} {hs : Nat → HV} {i : Nat} : FrOk ops E0 hs i [] := fun t h e => by simp [hlk] at e
theorem frOk_new {ops : List Oper} {E0 E : HEnv} {hs : Nat → HV} {i k : Nat} {x : HV} (j : Nat) (hj : (decide (j < i) && (dstAt ops j == some k)) = true) (hx : hs j = x) (h : FrOk ops E0 hs i E) : FrOk ops E0 hs i ((k, x) :: E) := fun t y e => by
 simp only [hlk] at e
 by_cases ek : k = t
 ·subst ek
  rw [if_pos rfl] at e
  cases e
  simp only [Bool.and_eq_true, decide_eq_true_eq, beq_iff_eq] at hj
  exact .inl ⟨j, hj.1, hj.2, hx⟩
 ·rw [if_neg ek] at e; exact h t y e
theorem frOk_old {ops : List Oper} {E0 E : HEnv} {hs : Nat → HV} {i k : Nat} {x : HV} (hj : ((List.range i).all fun j => dstAt ops j != some k) = true) (hx : hlk E0 k = some x) (h : FrOk ops E0 hs i E) : FrOk ops E0 hs i ((k, x) :: E) := fun t y e => by
 simp only [hlk] at e
 by_cases ek : k = t
 ·subst ek
  rw [if_pos rfl] at e
  cases e
  refine .inr ⟨fun j h => ?_, hx⟩
  have := List.all_eq_true.1 hj j (List.mem_range.2 h)
  simpa using this
 ·rw [if_neg ek] at e; exact h t y e
theorem slots_ok {T : HEnv} {op : Op} (h : ((hkeys T).all fun t => (slotsOf op).contains t) = true) : ∀ t x, hlk T t = some x → t ∈ slotsOf op := fun t x e => by
 have := List.all_eq_true.1 h t (hkeys_mem e)
 simpa using this
theorem hop_move {T : HEnv} {st : Store} {t : Nat} {h : HV} (e : hlk T t = some h) : ∃ cnd, cnd ∧ hop P ⟨T, st⟩ 0 (.move (.tmp t)) = .go cnd h ⟨T, st⟩ := by
 refine ⟨True, trivial, ?_⟩
 unfold hop
 cases h <;> simp [pureOp, ev, lk_lo, e, leaf, hPure, heff, hMove, hev]
end
end Go.Eng
