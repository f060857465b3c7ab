/-
  Regions that draw their order, over values: the rule whose heads may make memory; calls among them.
-/
import Derived.Test.YtppnicpbncfhnaaHk
set_option linter.unusedSimpArgs false
set_option linter.unusedVariables false
namespace Go.Eng
open Go Go.RowKit
section
variable {P : Program} {N : Nat} {c : Ctx} {S T : HS} {Q : HPost} {l : Env} {look : Nat → Option Value} {w w' : World} {ρ : Nat → Value} {xs : Nat → List Value} {K : HS → Prop}
theorem looks_slots {ops : List Oper} {o : Oper} {t : Nat} (h : t ∈ slotG (dsts ops) o.guard ++ slotsOf o.op) : t ∈ o.looksAt ops.toArray := by
  rcases List.mem_append.1 h with h | h
  · cases hg : o.guard with
    | none => rw [hg] at h; simp [slotG] at h
    | some p =>
      obtain ⟨g, b⟩ := p
      rw [hg] at h
      simp only [slotG] at h
      split at h
      · rename_i d hd
        simp only [List.mem_singleton] at h
        subst h
        refine looks_guard hg ?_
        unfold dstAt
        simp only [dsts, List.getElem?_map, Option.map_eq_some_iff] at hd
        obtain ⟨x, hx, hx'⟩ := hd
        simp [hx, hx']
      · simp at h
  · exact looks_tmp (slotsOf_mem h)
theorem hkeys_mem {x : HV} {k : Nat} : ∀ {e : HEnv}, hlk e k = some x → k ∈ hkeys e
  | [], h => by simp [hlk] at h
  | (j, y) :: r, h => by
    simp only [hlk] at h
    by_cases ej : j = k
    · simp [hkeys, ej]
    · rw [if_neg ej] at h
      have := hkeys_mem h
      simp only [hkeys, List.map_cons, List.mem_cons]
      exact .inr this
/-- A region that draws its order: n heads in any order, each answering what stands; the others behind them. -/
theorem HW_drwR {id : Nat} {ops : List Oper} (n : Nat) (hm : P.follows .mixedOrders = true) (hok : regOk (hkeys S.env) ops n = true)
    (h : ∀ K : HS → Prop, (∀ S', Q .normal S' → K S') → HVr P N (dsts ops) (fun S' => HStop (HV2 P N (dsts ops) K (ops.drop n)) S') (ops.take n) S) : HW P N (.region id ops.toArray true) Q S := fun c l w I => by
  have hks : ∀ k ∈ hkeys S.env, ∃ v, lk l k = some v := fun k hk => by
    obtain ⟨x, hx⟩ := hkeys_get hk
    obtain ⟨ρ, xs, G⟩ := I
    obtain ⟨v, h1, -⟩ := G.env k x hx
    exact ⟨v, h1⟩
  refine W_keep (hkeys S.env) ?_
  have I' : Inv c S (lk (keep (hkeys S.env) l)) w := I.agree fun k x hk => keep_lk (hkeys_mem hk)
  have hkk : keysE (keep (hkeys S.env) l) = hkeys S.env := keysE_keep hks
  generalize keep (hkeys S.env) l = l' at I' hkk
  obtain ⟨ρ, xs, G⟩ := I'
  have ok := regOk_spec hok
  have hlen : (ops.take n).length = n := by rw [List.length_take]; have := ok.hn; omega
  have get_take : ∀ {i : Nat} {o : Oper}, (ops.take n)[i]? = some o → i < n ∧ ops[i]? = some o := fun {i o} h => by
    have hi := (List.getElem?_eq_some_iff.1 h).1
    rw [hlen] at hi
    rw [List.getElem?_take_of_lt hi] at h
    exact ⟨hi, h⟩
  obtain ⟨hs, -, heads, S1, e1, F1, h1⟩ := HVr_heads (E0 := S.env) (st := S.st) (ops.take n) 0 S (fun _ => .junk) (fun k o hk => by rw [Nat.zero_add]; exact (get_take hk).2) rfl (fun t x hx => .inr ⟨fun j hj => absurd hj (Nat.not_lt_zero _), hx⟩) (h (Q .normal) fun _ h => h)
  rw [hlen, Nat.zero_add] at F1
  have head : ∀ i o, i < n → ops[i]? = some o → HeadOk P N ops S.env S.st hs i o := fun i o hi ho => by
    have := heads i o (by rw [List.getElem?_take_of_lt hi]; exact ho)
    rw [Nat.zero_add] at this; exact this
  have uniq : ∀ i j t, i < n → j < n → dstAt ops i = some t → dstAt ops j = some t → i = j := by
    intro i j t hi hj h1 h2
    rcases Nat.lt_trichotomy i j with h | h | h
    · rcases ok.uniq j i hj h with e | e
      · rw [h2] at e; cases e
      · exact absurd (h2.trans h1.symm) e
    · exact h
    · rcases ok.uniq i j hi h with e | e
      · rw [h1] at e; cases e
      · exact absurd (h1.trans h2.symm) e
  have hlt : DLt N ops n := fun i t hi hd => by
    obtain ⟨o, ho, hod⟩ := dstAt_some hd
    have := (head i o hi ho).lt
    rw [hod] at this; exact this
  -- what a frame of the heads' names reads
  have frame : ∀ (vs : Nat → Value) (w' : World) (i : Nat) (E : HEnv), i ≤ n → Below w.heap.size w w' → FrOk ops S.env hs i E →
      (∀ j t x, j < i → dstAt ops j = some t → hlk E t = some x → RepH w' (c.A ρ S.st) c.n0 ρ (vs j) (hs j)) → Good c ⟨E, S.st⟩ (lk (envE l' ops vs i)) w' ρ xs := fun vs w' i E hi hB F hv => by
    have GB := G.below hB
    refine ⟨GB.rows, GB.apart, fun k x hk => ?_, GB.kept, GB.a0⟩
    rcases F k x hk with ⟨j, a, b, d⟩ | ⟨a, b⟩
    · refine ⟨vs j, (envE_new (l := l') (vs := vs) hlt (base := Array.replicate N undef) (by simp) b (fun q hq hne e => hne (uniq q j k hq (by omega) e b)) i hi a).1, ?_⟩
      rw [← d]; exact hv j k x a b hk
    · obtain ⟨v, v1, v2⟩ := GB.env k x b
      exact ⟨v, by rw [(envE_old (l := l') (vs := vs) #[] k i a).1]; exact v1, v2⟩
  refine W_drawnR (hkeys S.env) n hm hkk hok hlt (C := fun w' => Below w.heap.size w w') (R := fun j u w' => RepH w' (c.A ρ S.st) c.n0 ρ u (hs j)) (Below.refl _ _).drew (fun i u w1 w2 _ hr hB => hr.above hB) ?_ ?_
  · intro i o hi ho vs w1 hC hR
    obtain ⟨T, TF, TS, run⟩ := (head i o hi ho).head
    have GT : Good c ⟨T, S.st⟩ (lk (envE l' ops vs i)) w1 ρ xs := frame vs w1 i T (by omega) hC TF fun j t x hj hd hx => hR j t hj hd (looks_slots (TS t x hx))
    obtain ⟨b, b1, b2, b3⟩ := run c _ w1 ρ xs GT
    refine ⟨b, b1, fun hb => ?_, fun hb => ?_⟩
    · exact (vcOp_ok (fun x X hx => by simp [evD, hx]) (b2 hb)).mono fun u w2 ⟨hu, hB⟩ => ⟨hu, hC.trans (hB.mono hC.size), hB⟩
    · rw [b3 hb]; exact .v _
  · intro vs w1 hC hR
    obtain ⟨E1, st1⟩ := S1
    have e1 : st1 = S.st := e1
    subst e1
    have G1 := frame vs w1 n E1 (Nat.le_refl _) hC F1 fun j t x hj _ _ => hR j hj
    exact HW_drw.V2.mono' (HV2_VC _ _ _ _ h1 ⟨ρ, xs, G1⟩) fun l2 w2 h2 => h2
/-- a call among heads, by what is known of the function: what it answers stands by itself -/
theorem hatR {f : FuncId} {args args' : List HV} {x : HV} {K : HV → Prop} (hc : callable P f = true) (H : HFun P f args' (fun h st => h = x ∧ st = [])) (hf : FreshH x) (hn : ∀ ρ ρ' : Nat → Value, ∀ (w : World) (A : Nat → Prop) (n : Nat) (v : Value), RepH w A n ρ v x → RepH w A n ρ' v x) (hl : Lends T.st args args') (hK : K x) : HAtR P f args T K :=
  ⟨hc, x, hK, fun c look w ρ xs vs G R => Ret.mono (H w vs (lends_rep G R hl)) fun v w' ⟨B, h, st, h8, ⟨e1, e2⟩, ρ', xs', G', hr⟩ => ⟨by
    subst e1; subst e2
    have hw : c.n0 ≤ w.heap.size := Nat.le_trans c.hn G.kept.size
    refine hn ρ' ρ _ _ _ _ (hr.up (Nat.le_refl _) (fun _ _ _ => rfl) (fun b _ hA => ?_) hw)
    left
    show b < w.heap.size
    rcases hA with h0 | ⟨i, r, hi, hb⟩
    · have := (G.a0 b h0).1; have := G.kept.size; omega
    · exact G.lt hi hb, B⟩⟩
/-- .. one plain value -/
theorem hatRv {f : FuncId} {args args' : List HV} {x : Value} {K : HV → Prop} (hc : callable P f = true) (H : HFun P f args' (fun h st => h = .v x)) (hl : Lends T.st args args') (hK : K (.v x)) : HAtR P f args T K :=
  ⟨hc, .v x, hK, fun c look w ρ xs vs G R => Ret.mono (H w vs (lends_rep G R hl)) fun v w' ⟨B, h, st, h8, q, ρ', xs', G', hr⟩ => ⟨by subst q; have := repH_v hr; subst this; exact .v _, B⟩⟩
end
end Go.Eng
