/- What the walk of the law stands on. -/
import Derived.Test.YtlfenddhppoflaaEng
import Derived.Test.YtlfenddhppoflaaGb
section
set_option linter.unusedSimpArgs false
set_option linter.unusedVariables false
namespace Go.Eng
open Go Go.RowKit
section
variable {P : Program} {N : Nat} {C : World → Prop} {ops : List Oper} {n : Nat} {l : Env} {R : Nat → Value → World → Prop}
def envE (l : Env) (ops : List Oper) (vs : Nat → Value) : Nat → Env
 | 0 => l
 | i + 1 => stp (dstAt ops i) (vs i) (envE l ops vs i)
def DLt (N : Nat) (ops : List Oper) (n : Nat) : Prop := ∀ i t, i < n → dstAt ops i = some t → t < N
variable {vs : Nat → Value}
theorem envE_keys (hl : DLt N ops n) (hk : keysLt N l = true) : ∀ i, i ≤ n → keysLt N (envE l ops vs i) = true
 | 0, _ => hk
 | i + 1, hi => keysLt_put (envE_keys hl hk i (by omega)) (fun k e => hl i k (by omega) e)
theorem envE_old (base : Array Value) (t : Nat) : ∀ i, (∀ j, j < i → dstAt ops j ≠ some t) →
  lk (envE l ops vs i) t = lk l t ∧ (sets base (envE l ops vs i))[t]? = (sets base l)[t]?
 | 0, _ => ⟨rfl, rfl⟩
 | i + 1, h => by
  obtain ⟨h1, h2⟩ := envE_old base t i (fun j hj => h j (by omega))
  have hne := h i (by omega)
  simp only [envE]
  cases hd : dstAt ops i with
  | none => exact ⟨h1, h2⟩
  | some d =>
   have : d ≠ t := fun e => hne (by rw [hd, e])
   simp only [stp, lk, sets, if_neg this]
   exact ⟨h1, by rw [Array.getElem?_setIfInBounds_ne this]; exact h2⟩
theorem envE_new (hl : DLt N ops n) {base : Array Value} (hbase : base.size = N) {t j : Nat} (hj : dstAt ops j = some t) (huniq : ∀ k, k < n → k ≠ j → dstAt ops k ≠ some t) : ∀ i, i ≤ n → j < i →
  lk (envE l ops vs i) t = some (vs j) ∧ (sets base (envE l ops vs i))[t]? = some (vs j)
 | 0, _, h => absurd h (Nat.not_lt_zero _)
 | i + 1, hi, h => by
  simp only [envE]
  by_cases e : j = i
  ·subst e
   rw [hj]
   simp only [stp, lk, sets, if_true, true_and]
   rw [Array.getElem?_setIfInBounds_self_of_lt (by rw [sets_size, hbase]; exact hl j t (by omega) hj)]
  ·obtain ⟨h1, h2⟩ := envE_new hl hbase hj huniq i (by omega) (by omega)
   have hne := huniq i (by omega) (Ne.symm e)
   cases hd : dstAt ops i with
   | none => exact ⟨h1, h2⟩
   | some d =>
    have : d ≠ t := fun e => hne (by rw [hd, e])
    simp only [stp, lk, sets, if_neg this]
    exact ⟨h1, by rw [Array.getElem?_setIfInBounds_ne this]; exact h2⟩
theorem drawn_rel {keys : List Nat} (ok : RegOk keys ops n) (F : Fr N) (hk : keysLt N l = true) (hkeys : ∀ t ∈ keys, ∃ v, lk l t = some v) (hlt : DLt N ops n)
  {Le : Nat → World → World → Prop} (hLe : ∀ i w, Le i w w) (hS : ∀ j i u w w', j < n → i < n → j ≠ i → C w → R j u w → Le i w w' → R j u w')
  (H : ∀ i o, i < n → ops[i]? = some o → ∀ (vs : Nat → Value) (w : World), C w → (∀ j t, j < i → dstAt ops j = some t → t ∈ o.looksAt ops.toArray → R j (vs j) w) →
   ∃ b, gd (envE l ops vs i) (dsts ops) o.guard (· = b) ∧ (b = true → Yields P (execOp (evD (envE l ops vs i)) o) w fun u w' => R i u w' ∧ C w' ∧ Le i w w') ∧ (b = false → R i undef w))
  {Q : Exit → Act → World → Prop} (hT : ∀ (vs : Nat → Value) (w : World), C w → (∀ j, j < n → R j (vs j) w) → wpList P ops.toArray Q (ops.drop n) (mk F (envE l ops vs n)) w) :
  ∀ (fuel : Nat) (listed : Array Bool) (a : Act) (w : World) (vs : Nat → Value), unl listed = fuel → Mid N C ops n (sets F.base l) vs listed a w → (∀ j, j < n → listed.getD j false = true → R j (vs j) w) → wpAny P .any ops.toArray Q fuel listed a w := by
 have uniq : ∀ i j t, i < n → j < n → dstAt ops i = some t → dstAt ops j = some t → i = j := by
  intro i j t hi hj h1 h2
  rcases Nat.lt_trichotomy i j with h | h | h
  ·rcases ok.uniq j i hj h with e | e
   ·rw [h2] at e; cases e
   ·exact absurd (h2.trans h1.symm) e
  ·exact h
  ·rcases ok.uniq i j hi h with e | e
   ·rw [h1] at e; cases e
   ·exact absurd (h1.trans h2.symm) e
 have final : ∀ (listed : Array Bool) (a : Act) (w : World) (vs : Nat → Value), Mid N C ops n (sets F.base l) vs listed a w → (∀ j, j < n → listed.getD j false = true) → a = mk F (envE l ops vs n) := by
  intro listed a w vs M hall
  obtain ⟨tm, df⟩ := a
  have hd : df = [] := M.defers
  subst hd
  show Act.mk _ _ = Act.mk _ _
  congr 1
  apply Array.ext_getElem?
  intro t
  by_cases h : ∃ j, j < n ∧ dstAt ops j = some t
  ·obtain ⟨j, hj, hd⟩ := h
   have h1 := M.new j t hj (hall j hj) hd
   have h2 := (envE_new (l := l) (vs := vs) hlt F.hN hd (fun k hk hne e => hne (uniq k j t hk hj e hd)) n (Nat.le_refl _) hj).2
   exact h1.trans h2.symm
  ·have h' : ∀ j, j < n → dstAt ops j ≠ some t := fun j hj e => h ⟨j, hj, e⟩
   have h1 := M.old t (fun j hj _ => h' j hj)
   have h2 := (envE_old (l := l) (vs := vs) F.base t n h').2
   exact h1.trans h2.symm
 have slot : ∀ (listed : Array Bool) (a : Act) (w : World) (vs : Nat → Value) (i : Nat) (o : Oper) (t : Nat), Mid N C ops n (sets F.base l) vs listed a w → i < n → ops[i]? = some o → i ∈ Region.ready .any ops.toArray listed → t ∈ o.looksAt ops.toArray →
   ∃ X, a.tmps[t]? = some X ∧ lk (envE l ops vs i) t = some X := by
  intro listed a w vs i o t M hi ho hr ht
  obtain ⟨l1, l2⟩ := ok.looks i o t hi ho ht
  by_cases h : ∃ j, j < n ∧ dstAt ops j = some t
  ·obtain ⟨j, hj, hd⟩ := h
   obtain ⟨hji, he⟩ := l1 j hj hd
   exact ⟨vs j, M.new j t hj (ready_edge hr he) hd, (envE_new (l := l) (vs := vs) hlt F.hN hd (fun k hk hne e => hne (uniq k j t hk hj e hd)) i (by omega) hji).1⟩
  ·have h' : ∀ j, j < n → dstAt ops j ≠ some t := fun j hj e => h ⟨j, hj, e⟩
   rcases l2 with ⟨j, hj, hd⟩ | hkey
   ·exact absurd hd (h' j (by omega))
   ·obtain ⟨v, hv⟩ := hkeys t hkey
    refine ⟨v, ?_, ?_⟩
    ·rw [M.old t (fun j hj _ => h' j hj)]; exact get_sets F hk hv
    ·rw [(envE_old (l := l) (vs := vs) F.base t i (fun j hj => h' j (by omega))).1]; exact hv
 intro fuel
 induction fuel with
 | zero =>
  intro listed a w vs hu M MR
  have hall : ∀ j, j < ops.length → listed.getD j false = true := fun j hj => unl_zero hu (by rw [M.size]; exact hj)
  have hn : n = ops.length := by
   rcases Nat.lt_or_ge n ops.length with h | h
   ·have := M.heads n (hall n h); omega
   ·have := ok.hn; omega
  have ha := final listed a w vs M (fun j hj => hall j (by omega))
  subst ha
  exact drawn_tail ok 0 n listed _ w (by omega) (Nat.le_refl _) M.size (fun i hi => ⟨fun _ => by omega, fun _ => hall i hi⟩) (hT vs w M.cls fun j hj => MR j hj (hall j (by omega)))
 | succ fuel ih =>
  intro listed a w vs hu M MR
  by_cases hdone : ∀ j, j < n → listed.getD j false = true
  ·have ha := final listed a w vs M hdone
   subst ha
   have hcount : ∀ (m : Nat) (x : Array Bool), x.size = ops.length → (∀ i, i < ops.length → (x.getD i false = true ↔ i < m)) → m ≤ ops.length → m + unl x = ops.length := by
    intro m
    generalize hd : ops.length - m = d
    induction d generalizing m with
    | zero =>
     intro x hx hl hm
     have : unl x = 0 := by
      unfold unl
      rw [List.length_eq_zero_iff, List.filter_eq_nil_iff]
      intro b hb
      obtain ⟨i, hi, rfl⟩ := List.getElem_of_mem hb
      have hi' : i < x.size := by simpa using hi
      have := (hl i (by omega)).2 (by omega)
      simp only [Array.getD, hi', dite_true] at this
      simp [show x.toList[i] = true from this]
     omega
    | succ d ihd =>
     intro x hx hl hm
     have hmlt : m < ops.length := by omega
     have h0 : x.getD m true = false := by
      have : ¬ x.getD m false = true := fun e => by have := (hl m hmlt).1 e; omega
      have hm' : m < x.size := by omega
      simp only [Array.getD, hm', dite_true] at this ⊢
      simpa using this
     have := ihd (m + 1) (by omega) (x.setIfInBounds m true) (by simpa using hx) (fun i hi => by
      by_cases e : m = i
      ·subst e
       have : m < x.size := by omega
       simp [this]
      ·rw [getD_set_ne false e, hl i hi]; omega) (by omega)
     have := unl_set h0
     omega
   have hl : ∀ i, i < ops.length → (listed.getD i false = true ↔ i < n) := fun i hi => ⟨M.heads i, hdone i⟩
   have := hcount n listed M.size hl ok.hn
   exact drawn_tail ok (fuel + 1) n listed _ w (by omega) (Nat.le_refl _) M.size hl (hT vs w M.cls fun j hj => MR j hj (hdone j hj))
  ·have hex : ∃ j, j < n ∧ listed.getD j false ≠ true := by
    refine Classical.byContradiction fun hne => hdone fun j hj => ?_
    refine Classical.byContradiction fun h => hne ⟨j, hj, h⟩
   have hn := ok.hn
   have hready : ∃ j, j ∈ Region.ready .any ops.toArray listed := by
    obtain ⟨j, hj, hjl⟩ := hex
    have : ∀ d j, j = d → j < n → listed.getD j false ≠ true → ∃ j, j ∈ Region.ready .any ops.toArray listed := by
     intro d
     induction d using Nat.strongRecOn with
     | _ d ihd =>
      intro j hd hj hjl
      subst hd
      have ho : ops[j]? = some (ops[j]'(by omega)) := List.getElem?_eq_getElem _
      by_cases hall : ∀ e ∈ (ops[j]'(by omega)).after, Region.binds .any e = true → listed.getD e.on false = true
      ·refine ⟨j, mem_ready.2 ⟨?_, ops[j]'(by omega), by simp, hall⟩⟩
       have h2 : j < listed.size := by rw [M.size]; omega
       simp only [Array.getD, h2, dite_true] at hjl ⊢
       simpa using hjl
      ·have : ∃ e ∈ (ops[j]'(by omega)).after, Region.binds .any e = true ∧ listed.getD e.on false ≠ true := by
        refine Classical.byContradiction fun hne => hall fun e he hb => ?_
        refine Classical.byContradiction fun h => hne ⟨e, he, hb, h⟩
       obtain ⟨e, he, hb, hl⟩ := this
       have hlt := ok.down j _ e ho he hb
       exact ihd e.on hlt e.on rfl (by omega) hl
    exact this j j rfl hj hjl
   obtain ⟨j0, hj0⟩ := hready
   refine ⟨fun h0 => absurd hj0 (by rw [h0]; simp), fun i hi => ?_⟩
   obtain ⟨hun, o, ho, hall⟩ := mem_ready.1 hi
   have ho' : ops[i]? = some o := by simpa using ho
   have hilt : i < ops.length := (List.getElem?_eq_some_iff.1 ho').1
   have hin : i < n := by
    rcases Nat.lt_or_ge i n with h | h
    ·exact h
    ·exfalso
     apply hdone
     have key : ∀ d j, i - j = d → j < i → listed.getD j false = true := by
      intro d
      induction d using Nat.strongRecOn with
      | _ d ihd =>
       intro j hd hji
       obtain ⟨k, hk1, hk2, hk3⟩ := ok.tail i j hilt h hji
       rcases Nat.lt_or_ge k i with hki | hki
       ·exact M.clos k j (ihd (i - k) (by omega) k rfl hki) hk3
       ·have : k = i := by omega
        subst this
        exact ready_edge hi hk3
     exact fun j hj => key _ j rfl (by omega)
   have hu' : unl (listed.setIfInBounds i true) = fuel := by have := unl_set hun; omega
   have hdi : dstAt ops i = o.dst := by unfold dstAt; rw [ho']; rfl
   have hlt' : dstLt N o.dst := by
    cases hd : o.dst with
    | none => trivial
    | some t => exact hlt i t hin (hdi.trans hd)
   let nxt : Value → Nat → Value := fun u j => if j = i then u else vs j
   have nxt_i : ∀ u, nxt u i = u := fun u => if_pos rfl
   have nxt_ne : ∀ u j, j ≠ i → nxt u j = vs j := fun u j h => if_neg h
   have rest : ∀ u w', R i u w' → Le i w w' → ∀ j, j < n → (listed.setIfInBounds i true).getD j false = true → R j (nxt u j) w' := by
    intro u w' hu hB j hj hl
    by_cases e : j = i
    ·subst e; rw [nxt_i]; exact hu
    ·rw [nxt_ne u j e]
     rw [getD_set_ne false (Ne.symm e)] at hl
     exact hS j i _ w w' hj hin e M.cls (MR j hj hl) hB
   have step : ∀ u w', C w' → Mid N C ops n (sets F.base l) (nxt u) (listed.setIfInBounds i true) (a.put o.dst u) w' := by
    intro u w' hC
    have hlt := hlt'
    have hset : ∀ j, (listed.setIfInBounds i true).getD j false = true → j = i ∨ listed.getD j false = true := by
     intro j h
     by_cases e : i = j
     ·exact .inl e.symm
     ·rw [getD_set_ne false e] at h; exact .inr h
    have hseti : (listed.setIfInBounds i true).getD i false = true := by
     have : i < listed.size := by rw [M.size]; exact hilt
     simp [this]
    refine ⟨by simpa using M.size, ?_, ?_, ?_, ?_, ?_, ?_, hC⟩
    ·intro k j hk he
     rcases hset k hk with rfl | hk
     ·exact getD_set_true (ready_edge hi he)
     ·exact getD_set_true (M.clos k j hk he)
    ·intro k hk
     rcases hset k hk with rfl | hk
     ·exact hin
     ·exact M.heads k hk
    ·cases hd : o.dst <;> exact M.defers
    ·cases hd : o.dst with
     | none => exact M.tsize
     | some d => simp only [Act.put, Array.size_setIfInBounds]; exact M.tsize
    ·intro j t hj hjl hd
     rcases hset j hjl with rfl | hjl'
     ·rw [hdi] at hd
      rw [hd] at hlt ⊢
      simp only [Act.put]
      rw [Array.getElem?_setIfInBounds_self_of_lt (by rw [M.tsize]; exact hlt), nxt_i]
     ·by_cases e : j = i
      ·subst e
       rw [hdi] at hd
       rw [hd] at hlt ⊢
       simp only [Act.put]
       rw [Array.getElem?_setIfInBounds_self_of_lt (by rw [M.tsize]; exact hlt), nxt_i]
      ·rw [nxt_ne u j e]
       have h1 := M.new j t hj hjl' hd
       cases hdo : o.dst with
       | none => exact h1
       | some d =>
        have hne : d ≠ t := fun e' => e (uniq j i t hj hin hd (by rw [hdi, hdo, e']))
        simp only [Act.put]
        rw [Array.getElem?_setIfInBounds_ne hne]; exact h1
    ·intro t ht
     have h1 := M.old t (fun j hj hjl => ht j hj (getD_set_true hjl))
     have h2 := ht i hin hseti
     rw [hdi] at h2
     cases hdo : o.dst with
     | none => exact h1
     | some d =>
      have hne : d ≠ t := fun e' => h2 (by rw [hdo, e'])
      simp only [Act.put]
      rw [Array.getElem?_setIfInBounds_ne hne]; exact h1
   obtain ⟨b, hb, hbt, hbf⟩ := H i o hin ho' vs w M.cls fun j t hj hd ht => by
    obtain ⟨l1, -⟩ := ok.looks i o t hin ho' ht
    exact MR j (by omega) (ready_edge hi (l1 j (by omega) hd).2)
   have hw : Region.wanted o (yielded ops.toArray a.tmps) = b := by
    unfold gd at hb
    split at hb
    ·rename_i hg; simp only [Region.wanted, hg]; exact hb
    ·rename_i g want hg
     split at hb
     ·rename_i d hd
      split at hb
      ·rename_i bb hbb
       have hdd : dstAt ops g = some d := by
        unfold dstAt
        simp only [dsts, List.getElem?_map, Option.map_eq_some_iff] at hd
        obtain ⟨x, hx, hx'⟩ := hd
        simp [hx, hx']
       obtain ⟨X, hX1, hX2⟩ := slot listed a w vs i o d M hin ho' hi (looks_guard hg hdd)
       rw [hbb] at hX2
       cases hX2
       have : yielded ops.toArray a.tmps g = some bb := by
        unfold yielded
        unfold dstAt at hdd
        simp only [List.getElem?_toArray, hdd, Option.bind_some, hX1]
       simp only [Region.wanted, hg, this]
       rw [← hb]
       cases bb <;> cases want <;> rfl
      ·rename_i bb hnb hbb
       have hdd : dstAt ops g = some d := by
        unfold dstAt
        simp only [dsts, List.getElem?_map, Option.map_eq_some_iff] at hd
        obtain ⟨x, hx, hx'⟩ := hd
        simp [hx, hx']
       obtain ⟨X, hX1, hX2⟩ := slot listed a w vs i o d M hin ho' hi (looks_guard hg hdd)
       rw [hbb] at hX2
       cases hX2
       have : yielded ops.toArray a.tmps g = none := by
        unfold yielded
        unfold dstAt at hdd
        simp only [List.getElem?_toArray, hdd, Option.bind_some, hX1]
        split
        ·rename_i b' e; cases e; exact (hnb b' rfl).elim
        ·rfl
       simp only [Region.wanted, hg, this]
       rw [← hb]
       rfl
      ·exact hb.elim
     ·exact hb.elim
   unfold wpOp
   simp only [ho, hw]
   cases b with
   | true =>
    simp only [if_true]
    refine .inl (wp_of_yields ?_)
    have hcong : execOp a.eval o = execOp (evD (envE l ops vs i)) o := by
     refine execOp_congr o (ok.sel i o ho') (fun x hx => ?_)
     cases x with
     | tmp t =>
      obtain ⟨X, hX1, hX2⟩ := slot listed a w vs i o t M hin ho' hi (looks_tmp hx)
      simp [Act.eval, evD, ev, hX1, hX2]
     | const c => rfl
     | global g => rfl
     | func f => rfl
    rw [hcong]
    exact (hbt rfl).mono fun u w' ⟨hu, hC, hB⟩ => ih _ _ _ _ hu' (step u w' hC) (rest u w' hu hB)
   | false =>
    simp only [Bool.false_eq_true, if_false]
    exact ih _ _ _ _ hu' (step undef w M.cls) (rest undef w (hbf rfl) (hLe i w))
end
section
variable {P : Program} {N : Nat} {Q : Post} {l : Env} {w : World}
theorem W_drawnL {id : Nat} {ops : List Oper} (keys : List Nat) (n : Nat) (hm : P.follows .mixedOrders = true) (hkeys : keysE l = keys) (hok : regOk keys ops n = true) (hlt : DLt N ops n)
  {C : World → Prop} {R : Nat → Value → World → Prop} (hC : C w.drew) {Le : Nat → World → World → Prop} (hLe : ∀ i w, Le i w w) (hS : ∀ j i u w w', j < n → i < n → j ≠ i → C w → R j u w → Le i w w' → R j u w')
  (H : ∀ i o, i < n → ops[i]? = some o → ∀ (vs : Nat → Value) (w : World), C w → (∀ j t, j < i → dstAt ops j = some t → t ∈ o.looksAt ops.toArray → R j (vs j) w) →
   ∃ b, gd (envE l ops vs i) (dsts ops) o.guard (· = b) ∧ (b = true → Yields P (execOp (evD (envE l ops vs i)) o) w fun u w' => R i u w' ∧ C w' ∧ Le i w w') ∧ (b = false → R i undef w))
  (hT : ∀ (vs : Nat → Value) (w : World), C w → (∀ j, j < n → R j (vs j) w) → VC P N (dsts ops) (fun l' w' => Q .normal l' w') (ops.drop n) (envE l ops vs n) w) : W P N (.region id ops.toArray true) Q l w := fun hk F => by
 have ok := regOk_spec hok
 refine wp_region_any hm ?_
 have := drawn_rel ok F hk (fun t ht => keysE_get (by rw [hkeys]; exact ht)) hlt hLe hS H (Q := lift N Q)
  (fun vs w' hw' hR => VC_sound F (K := fun l w => Q .normal l w) (fun l' w' hk' hK => ⟨F, l', rfl, hk', hK⟩) _ _ _ (envE_keys hlt hk n (Nat.le_refl _)) (hT vs w' hw' hR))
  ops.length (Array.replicate ops.length false) (mk F l) w.drew (fun _ => undef) (unl_replicate _)
  ⟨by simp, (fun i j hi => by rw [getD_replicate_false] at hi; cases hi), (fun i hi => by rw [getD_replicate_false] at hi; cases hi), rfl, by simp [mk, sets_size, F.hN], (fun j t _ hl => by rw [getD_replicate_false] at hl; cases hl), fun t _ => rfl, hC⟩
  (fun j _ hl => by rw [getD_replicate_false] at hl; cases hl)
 simpa using this
theorem W_drawnR {id : Nat} {ops : List Oper} (keys : List Nat) (n : Nat) (hm : P.follows .mixedOrders = true) (hkeys : keysE l = keys) (hok : regOk keys ops n = true) (hlt : DLt N ops n)
  {C : World → Prop} {R : Nat → Value → World → Prop} (hC : C w.drew) (hS : ∀ i u w w', C w → R i u w → Below w.heap.size w w' → R i u w')
  (H : ∀ i o, i < n → ops[i]? = some o → ∀ (vs : Nat → Value) (w : World), C w → (∀ j t, j < i → dstAt ops j = some t → t ∈ o.looksAt ops.toArray → R j (vs j) w) →
   ∃ b, gd (envE l ops vs i) (dsts ops) o.guard (· = b) ∧ (b = true → Yields P (execOp (evD (envE l ops vs i)) o) w fun u w' => R i u w' ∧ C w' ∧ Below w.heap.size w w') ∧ (b = false → R i undef w))
  (hT : ∀ (vs : Nat → Value) (w : World), C w → (∀ j, j < n → R j (vs j) w) → VC P N (dsts ops) (fun l' w' => Q .normal l' w') (ops.drop n) (envE l ops vs n) w) : W P N (.region id ops.toArray true) Q l w :=
 W_drawnL keys n hm hkeys hok hlt hC (Le := fun _ w w' => Below w.heap.size w w') (fun _ w => Below.refl _ _) (fun j _ u w w' _ _ _ hc hr hb => hS j u w w' hc hr hb) H hT
end
end Go.Eng
end

section
set_option linter.unusedSimpArgs false
set_option linter.unusedVariables false
namespace Go.Eng
open Go Go.RowKit

def slotX : Operand → List Nat
 | .tmp t => [t]
 | _ => []
def slotsL : List Operand → List Nat
 | [] => []
 | x :: r => slotX x ++ slotsL r
def slotsP : List (Nat × Operand) → List Nat
 | [] => []
 | (_, x) :: r => slotX x ++ slotsP r
def slotO : Option Operand → List Nat
 | some x => slotX x
 | none => []
def slotsOf : Op → List Nat
 | .move x => slotX x
 | .assign x => slotX x
 | .nilCheck x => slotX x
 | .pick c a b => slotX c ++ (slotX a ++ slotX b)
 | .extract x _ => slotX x
 | .field _ x _ => slotX x
 | .fieldAddr _ x _ => slotX x
 | .load _ x => slotX x
 | .unOp _ _ x => slotX x
 | .convert _ _ x => slotX x
 | .indexAddr _ x i => slotX x ++ slotX i
 | .index _ x i => slotX x ++ slotX i
 | .slice _ x l h none => slotX x ++ (slotO l ++ slotO h)
 | .binOp _ _ x y _ => slotX x ++ slotX y
 | .build _ ps => slotsP ps.toList
 | .buildSlice _ _ ps => slotsP ps.toList
 | .makeSlice _ x y => slotX x ++ slotX y
 | .call ⟨_, args, _⟩ => slotsL args.toList
 | _ => []
theorem slotX_mem {x : Operand} {t : Nat} (h : t ∈ slotX x) : x = .tmp t := by
 cases x <;> simp [slotX] at h
 subst h; rfl
theorem slotsL_mem : ∀ {l : List Operand} {t : Nat}, t ∈ slotsL l → Operand.tmp t ∈ l
 | [], t, h => by simp [slotsL] at h
 | x :: r, t, h => by
  simp only [slotsL, List.mem_append] at h
  rcases h with h | h
  ·rw [slotX_mem h]; exact List.mem_cons_self ..
  ·exact List.mem_cons_of_mem _ (slotsL_mem h)
theorem slotsP_mem : ∀ {l : List (Nat × Operand)} {t : Nat}, t ∈ slotsP l → Operand.tmp t ∈ l.map (·.2)
 | [], t, h => by simp [slotsP] at h
 | (k, x) :: r, t, h => by
  simp only [slotsP, List.mem_append] at h
  rcases h with h | h
  ·rw [List.map_cons, slotX_mem h]; exact List.mem_cons_self ..
  ·rw [List.map_cons]; exact List.mem_cons_of_mem _ (slotsP_mem h)
theorem slotO_mem {x : Option Operand} {t : Nat} (h : t ∈ slotO x) : x = some (.tmp t) := by
 cases x with
 | none => simp [slotO] at h
 | some x => rw [slotX_mem h]
theorem slotsOf_mem {o : Op} {t : Nat} (h : t ∈ slotsOf o) : Operand.tmp t ∈ o.operands := by
 unfold slotsOf at h
 split at h
 all_goals try simp only [List.mem_append] at h
 case h_13 => 
  simp only [Op.operands]
  rcases h with h | h | h
  ·rw [slotX_mem h]; simp
  ·rw [slotO_mem h]; simp
  ·rw [slotO_mem h]; simp
 case h_15 => simpa [Op.operands] using slotsP_mem h
 case h_16 => simpa [Op.operands] using slotsP_mem h
 case h_18 => simp only [Op.operands, Call.operands, Array.mem_append]; exact .inr (by simpa using slotsL_mem h)
 case h_19 => simp at h
 all_goals
  simp only [Op.operands]
  first
  | (rw [slotX_mem h]; simp; done)
  | (rcases h with h | h <;> (rw [slotX_mem h]; simp))
  | (rcases h with h | h | h <;> (rw [slotX_mem h]; simp))
def slotG (ds : List (Option Nat)) : Option (Nat × Bool) → List Nat
 | none => []
 | some (g, _) => match ds[g]? with
  | some (some d) => [d]
  | _ => []
def pickE (e : HEnv) : List Nat → HEnv
 | [] => []
 | t :: r => match hlk e t with
  | some h => (t, h) :: pickE e r
  | none => pickE e r
theorem pickE_get {e : HEnv} : ∀ {l : List Nat} {t : Nat} {h : HV}, hlk (pickE e l) t = some h → t ∈ l ∧ hlk e t = some h
 | [], t, h, hh => by simp [pickE, hlk] at hh
 | k :: r, t, h, hh => by
  simp only [pickE] at hh
  split at hh
  ·rename_i x hx
   simp only [hlk] at hh
   by_cases ek : k = t
   ·subst ek; rw [if_pos rfl] at hh; exact ⟨List.mem_cons_self .., by rw [hx]; exact hh⟩
   ·rw [if_neg ek] at hh
    obtain ⟨a, b⟩ := pickE_get hh
    exact ⟨List.mem_cons_of_mem _ a, b⟩
  ·obtain ⟨a, b⟩ := pickE_get hh
   exact ⟨List.mem_cons_of_mem _ a, b⟩
def HAtR (P : Program) (f : FuncId) (args : List HV) (T : HS) (K : HV → Prop) : Prop :=
 callable P f = true ∧ ∃ h, K h ∧ ∀ (c : Ctx) (look : Nat → Option Value) (w : World) (ρ : Nat → Value) (xs : Nat → List Value) (vs : List Value), Good c T look w ρ xs → Reps w (c.A ρ T.st) c.n0 ρ vs args →
  Calls P f vs.toArray w (Ret fun u w' => RepH w' (c.A ρ T.st) c.n0 ρ u h ∧ Below w.heap.size w w')
def plainE : HEnv → Bool
 | [] => true
 | (_, .v _) :: r => plainE r
 | (_, .lst _ _) :: r => plainE r
 | (_, .agg _) :: r => plainE r
 | _ => false
def HMade (d : Option Nat) (S : HS) (K : HS → Prop) : HOut → Prop
 | .go c (.own i) S' => match rlk S'.st i with
  | some (.sl _ _ _ els) => c ∧ K (S.set d (.lst true els))
  | _ => False
 | _ => False
def made : Op → Bool
 | .buildSlice .. => true
 | .makeSlice .. => true
 | _ => false
def HGoROut (P : Program) (o : Oper) (S T : HS) (K : HS → Prop) : HOut → Prop
 | .go c h _ => match quiet o.op with
  | true => c ∧ K (S.set o.dst h)
  | false => match made o.op && plainE T.env with
   | true => HMade o.dst S K (hop P ⟨T.env, []⟩ (idOf o.dst) o.op)
   | false => False
 | .call f args => HAtR P f args T (fun x => HStop K (S.set o.dst x))
 | .eqn t x y neg => ∃ r, EqR P t x.toArray y.toArray r ∧ HStop K (S.set o.dst (.v (.bool (neg ^^ r))))
 | .bytes _ _ => False
 | .bad => False
def HGoR (P : Program) (N : Nat) (o : Oper) (S T : HS) (K : HS → Prop) : Prop := match dstOk N o.dst with
 | true => HGoROut P o S T K (hop P T (idOf o.dst) o.op)
 | false => False
def HStepR (P : Program) (N : Nat) (o : Oper) (S T : HS) (K : HS → Prop) : GOut → Prop
 | .yes => HGoR P N o S T K
 | .no => HSkip N o.dst S K
 | .ask d b want => match b == want with
  | true => HGoR P N o (S.rep d (.v (.bool want))) (T.rep d (.v (.bool want))) K
  | false => HSkip N o.dst (S.rep d (.v (.bool (!want)))) K
 | .bad => False
def HVr (P : Program) (N : Nat) (ds : List (Option Nat)) (K : HS → Prop) : List Oper → HS → Prop
 | [], S => K S
 | o :: rest, S => HStepR P N o S ⟨pickE S.env (slotG ds o.guard ++ slotsOf o.op), S.st⟩ (HVr P N ds K rest) (hG (pickE S.env (slotG ds o.guard ++ slotsOf o.op)) ds o.guard)
end Go.Eng
end

section
set_option linter.unusedSimpArgs false
set_option linter.unusedVariables false
namespace Go.Eng
open Go Go.RowKit
section
variable {P : Program} {N : Nat} {c : Ctx} {S T : HS} {Q : HPost} {l : Env} {look : Nat → Option Value} {w w' : World} {ρ : Nat → Value} {xs : Nat → List Value} {K : HS → Prop}
theorem RepH.above {A : Nat → Prop} {n0 : Nat} {v : Value} {x : HV} (h : RepH w A n0 ρ v x) (B : Below w.heap.size w w') : RepH w' A n0 ρ v x := h.up B.size (fun b hlt _ => B.block b hlt) (fun b _ h => h) (Nat.le_refl _)
theorem hrep_same {d : Nat} {h : HV} : ∀ {E : HEnv}, hlk E d = some h → ∀ k, hlk (hrep d h E) k = hlk E k
 | [], e, k => by simp [hlk] at e
 | (j, x) :: r, e, k => by
  simp only [hlk] at e
  simp only [hrep]
  by_cases ej : j = d
  ·rw [if_pos ej] at e ⊢
   simp only [Option.some.injEq] at e
   subst e; rfl
  ·rw [if_neg ej] at e ⊢
   simp only [hlk, hrep_same e k]
theorem Good.sameEnv {E : HEnv} {st : Store} (G : Good c ⟨E, st⟩ look w ρ xs) {E' : HEnv} (h : ∀ k, hlk E' k = hlk E k) : Good c ⟨E', st⟩ look w ρ xs := ⟨G.rows, G.apart, fun k x hk => G.env k x (by rw [← h k]; exact hk), G.kept, G.a0⟩
theorem sound_made (G : Good c T (lk l) w ρ xs) {id i : Nat} {o : Op} {ty : TypeId} {cnd : Prop} {S' : HS} (hp : plainE T.env = true) (h : hop P ⟨T.env, []⟩ id o = .go cnd (.own i) S') {nw : Bool} {t sz : Nat} {els : List (List FV)} (hr : rlk S'.st i = some (.sl nw t sz els)) (hc : cnd) :
  vcOp P l o ty w (fun u w' => RepH w' (c.A ρ T.st) c.n0 ρ u (.lst true els) ∧ Below w.heap.size w w') (fun u w' => RepH w' (c.A ρ T.st) c.n0 ρ u (.lst true els) ∧ Below w.heap.size w w') := by
 have hA : ∀ b, c.A ρ T.st b → b < w.heap.size := by
  rintro b (h0 | ⟨i, r, hi, hb⟩)
  ·have := (G.a0 b h0).1; have := G.kept.size; omega
  ·exact G.lt hi hb
 have G2 : Good ⟨w, fun _ => False, c.A ρ T.st, c.n0, Nat.le_trans c.hn G.kept.size, fun _ _ => False⟩ ⟨T.env, []⟩ (lk l) w ρ xs := by
  refine ⟨fun id r hr => by simp [rlk] at hr, fun i j r s b hne hi => by simp [rlk] at hi, fun k x hk => ?_, Kept.refl _ _, fun b hb => ⟨hA b hb, fun h => h⟩⟩
  obtain ⟨u, h1, h2⟩ := G.env k _ hk
  refine ⟨u, h1, h2.up (Nat.le_refl _) (fun _ _ _ => rfl) (fun b _ hb => ?_) (Nat.le_refl _)⟩
  rcases hb with hb | ⟨i, r, hi, -⟩
  ·exact hb
  ·simp [rlk] at hi
 refine vcOp_mono (sound_hop G2 (agr_self _ _) h hc) fun u w' ⟨ρ2, xs2, G3, r⟩ => ?_
 have B : Below w.heap.size w w' := G3.kept.below (fun _ _ h => h)
 refine ⟨?_, B⟩
 cases r
 obtain ⟨o1, o2, o3⟩ := rows_sl G3 hr
 have R0 := G3.rows i _ hr
 refine .lst (row_lst o1 o2 (fun p k hp hk => ?_) (fun b hb => ?_))
 ·obtain ⟨u, a, b, d⟩ := o3 p k hp hk
  exact ⟨u, a, b, d.up (Nat.le_refl _) (fun _ _ _ => rfl) (fun b _ h => .inl h) (Nat.le_refl _)⟩
 ·rcases (R0.new b hb).1 with h | h
  ·have h : w.heap.size ≤ b := h
   exact ⟨fun hA' => by have := hA b hA'; omega, fun _ => by have := c.hn; have := G.kept.size; omega⟩
  ·exact h.elim
theorem HGoR_head {o : Oper} (h : HGoR P N o S T K) : dstLt N o.dst ∧ ∃ x, K (S.set o.dst x) ∧ ∀ (c : Ctx) (l : Env) (w : World) (ρ : Nat → Value) (xs : Nat → List Value), Good c T (lk l) w ρ xs →
  vcOp P l o.op o.type w (fun u w' => RepH w' (c.A ρ T.st) c.n0 ρ u x ∧ Below w.heap.size w w') (fun u w' => RepH w' (c.A ρ T.st) c.n0 ρ u x ∧ Below w.heap.size w w') := by
 unfold HGoR at h
 split at h
 ·rename_i hd
  refine ⟨dstOk_lt hd, ?_⟩
  cases ho : hop P T (idOf o.dst) o.op with
  | go c' hv S' =>
   rw [ho] at h
   unfold HGoROut at h
   dsimp only at h
   split at h
   ·rename_i hq
    obtain ⟨h0, h1⟩ := h
    refine ⟨hv, h1, fun c l w ρ xs G => ?_⟩
    obtain ⟨v, hK, hv'⟩ := vcQ_vc (ty := o.type) (sound_hops (ty := 0) G (agr_self _ _) ho hq h0)
    exact vcOp_mono (hv' w (Below.refl _ _)) fun u w' ⟨e, B⟩ => by subst e; exact ⟨hK.2.2.above B, B⟩
   ·split at h
    ·rename_i hm
     simp only [Bool.and_eq_true] at hm
     unfold HMade at h
     split at h
     ·rename_i c2 i S2 hm2
      split at h
      ·rename_i nw t sz els hr
       exact ⟨_, h.2, fun c l w ρ xs G => sound_made G hm.2 hm2 hr h.1⟩
      ·exact h.elim
     ·exact h.elim
    ·exact h.elim
  | call f args =>
   rw [ho] at h
   obtain ⟨hf, x, hK, hc⟩ := h
   refine ⟨x, hK, fun c l w ρ xs G => ?_⟩
   obtain ⟨as, ats, e, has⟩ := hop_call ho
   rw [e]
   obtain ⟨vs, e1, e2, e3⟩ := G.evs (agr_self _ _) has
   unfold vcOp
   simp only [pureOp, effOp, e1]
   exact ⟨hf, hc c (lk l) w ρ xs vs G ⟨e2, e3⟩⟩
  | eqn t x y neg =>
   rw [ho] at h
   obtain ⟨r, h1, h2⟩ := h
   refine ⟨_, h2, fun c l w ρ xs G => ?_⟩
   exact vcOp_mono (sound_eqns G (agr_self _ l) ho h1) fun v w' ⟨e, _, r⟩ => by subst e; exact ⟨r, Below.refl _ _⟩
  | bytes ok s => rw [ho] at h; exact h.elim
  | bad => rw [ho] at h; exact h.elim
 ·exact h.elim
def FrOk (ops : List Oper) (E0 : HEnv) (hs : Nat → HV) (i : Nat) (E : HEnv) : Prop := ∀ t h, hlk E t = some h → (∃ j, j < i ∧ dstAt ops j = some t ∧ hs j = h) ∨ ((∀ j, j < i → dstAt ops j ≠ some t) ∧ hlk E0 t = some h)
theorem FrOk.congr {ops : List Oper} {E0 E : HEnv} {hs hs' : Nat → HV} {i : Nat} (h : FrOk ops E0 hs i E) (he : ∀ j, j < i → hs' j = hs j) : FrOk ops E0 hs' i E := fun t x hx => by
 rcases h t x hx with ⟨j, a, b, d⟩ | r
 ·exact .inl ⟨j, a, b, by rw [he j a]; exact d⟩
 ·exact .inr r
theorem FrOk.env {ops : List Oper} {E0 E E' : HEnv} {hs : Nat → HV} {i : Nat} (h : FrOk ops E0 hs i E) (he : ∀ t x, hlk E' t = some x → hlk E t = some x) : FrOk ops E0 hs i E' := fun t x hx => h t x (he t x hx)
theorem FrOk.set {ops : List Oper} {E0 : HEnv} {hs : Nat → HV} {i : Nat} {S : HS} (h : FrOk ops E0 hs i S.env) {o : Oper} (ho : ops[i]? = some o) : FrOk ops E0 hs (i + 1) (S.set o.dst (hs i)).env := by
 have hd : dstAt ops i = o.dst := by unfold dstAt; rw [ho]; rfl
 intro t x hx
 cases e : o.dst with
 | none =>
  rw [e] at hx hd
  rcases h t x hx with ⟨j, a, b, d⟩ | ⟨a, b⟩
  ·exact .inl ⟨j, by omega, b, d⟩
  ·refine .inr ⟨fun j hj => ?_, b⟩
   by_cases ej : j = i
   ·subst ej; rw [hd]; simp
   ·exact a j (by omega)
 | some d =>
  rw [e] at hx hd
  simp only [HS.set, hlk] at hx
  by_cases et : d = t
  ·rw [if_pos et] at hx
   simp only [Option.some.injEq] at hx
   exact .inl ⟨i, by omega, by rw [hd, et], hx⟩
  ·rw [if_neg et] at hx
   rcases h t x hx with ⟨j, a, b, d'⟩ | ⟨a, b⟩
   ·exact .inl ⟨j, by omega, b, d'⟩
   ·refine .inr ⟨fun j hj => ?_, b⟩
    by_cases ej : j = i
    ·subst ej; rw [hd]; simpa using et
    ·exact a j (by omega)
structure HeadOk (P : Program) (N : Nat) (ops : List Oper) (E0 : HEnv) (st : Store) (hs : Nat → HV) (i : Nat) (o : Oper) : Prop where
 lt : dstLt N o.dst
 head : ∃ T : HEnv, FrOk ops E0 hs i T ∧ (∀ t h, hlk T t = some h → t ∈ slotG (dsts ops) o.guard ++ slotsOf o.op) ∧ ∀ (c : Ctx) (l : Env) (w : World) (ρ : Nat → Value) (xs : Nat → List Value), Good c ⟨T, st⟩ (lk l) w ρ xs →
  ∃ b, gd l (dsts ops) o.guard (· = b) ∧ (b = true → vcOp P l o.op o.type w (fun u w' => RepH w' (c.A ρ st) c.n0 ρ u (hs i) ∧ Below w.heap.size w w') (fun u w' => RepH w' (c.A ρ st) c.n0 ρ u (hs i) ∧ Below w.heap.size w w')) ∧ (b = false → hs i = .v undef)
theorem HSkip_head {d : Option Nat} (h : HSkip N d S K) : dstLt N d ∧ K (S.set d (.v undef)) := by
 unfold HSkip at h
 split at h
 ·rename_i hd; exact ⟨dstOk_lt hd, h⟩
 ·exact h.elim
theorem HVr_heads {ops : List Oper} {E0 : HEnv} {st : Store} : ∀ (rest : List Oper) (i : Nat) (S : HS) (hs0 : Nat → HV), (∀ k o, rest[k]? = some o → ops[i + k]? = some o) → S.st = st → FrOk ops E0 hs0 i S.env → HVr P N (dsts ops) K rest S →
  ∃ hs, (∀ j, j < i → hs j = hs0 j) ∧ (∀ k o, rest[k]? = some o → HeadOk P N ops E0 st hs (i + k) o) ∧ ∃ S', S'.st = st ∧ FrOk ops E0 hs (i + rest.length) S'.env ∧ K S'
 | [], i, S, hs0, hops, hst, F, h => ⟨hs0, fun _ _ => rfl, fun k o hk => by simp at hk, S, hst, F, h⟩
 | o :: rest, i, S, hs0, hops, hst, F, h => by
  have hoi : ops[i]? = some o := hops 0 o (by simp)
  rw [HVr] at h
  generalize hT : pickE S.env (slotG (dsts ops) o.guard ++ slotsOf o.op) = T at h
  have TF : ∀ t x, hlk T t = some x → t ∈ slotG (dsts ops) o.guard ++ slotsOf o.op ∧ hlk S.env t = some x := fun t x hx => by subst hT; exact pickE_get hx
  have key : ∀ (S1 : HS) (x : HV), S1.st = st → FrOk ops E0 hs0 i S1.env → HVr P N (dsts ops) K rest (S1.set o.dst x) → dstLt N o.dst →
    (∀ (c : Ctx) (l : Env) (w : World) (ρ : Nat → Value) (xs : Nat → List Value), Good c ⟨T, st⟩ (lk l) w ρ xs →
     ∃ b, gd l (dsts ops) o.guard (· = b) ∧ (b = true → vcOp P l o.op o.type w (fun u w' => RepH w' (c.A ρ st) c.n0 ρ u x ∧ Below w.heap.size w w') (fun u w' => RepH w' (c.A ρ st) c.n0 ρ u x ∧ Below w.heap.size w w')) ∧ (b = false → x = .v undef)) →
    ∃ hs, (∀ j, j < i → hs j = hs0 j) ∧ (∀ k o', (o :: rest)[k]? = some o' → HeadOk P N ops E0 st hs (i + k) o') ∧ ∃ S', S'.st = st ∧ FrOk ops E0 hs (i + (o :: rest).length) S'.env ∧ K S' := by
   intro S1 x hst1 F1 hK hlt hrun
   let hs1 : Nat → HV := fun j => if j = i then x else hs0 j
   have e1 : hs1 i = x := if_pos rfl
   have e2 : ∀ j, j < i → hs1 j = hs0 j := fun j hj => if_neg (by omega)
   have F2 : FrOk ops E0 hs1 (i + 1) (S1.set o.dst x).env := by
    have := (F1.congr e2).set hoi
    rw [e1] at this; exact this
   obtain ⟨hs, a, b, S', d, e, f⟩ := HVr_heads rest (i + 1) (S1.set o.dst x) hs1 (fun k o' hk => by
    have := hops (k + 1) o' (by simpa using hk)
    rw [show i + 1 + k = i + (k + 1) by omega]; exact this) (by cases o.dst <;> exact hst1) F2 hK
   have ei : hs i = x := by rw [a i (by omega), e1]
   have ej : ∀ j, j < i → hs j = hs0 j := fun j hj => by rw [a j (by omega), e2 j hj]
   refine ⟨hs, ej, fun k o' hk => ?_, S', d, ?_, f⟩
   ·cases k with
    | zero =>
     simp only [List.getElem?_cons_zero, Option.some.injEq] at hk
     subst hk
     exact ⟨hlt, T, (F.congr ej).env (fun t x hx => (TF t x hx).2), fun t x hx => (TF t x hx).1, by rw [Nat.add_zero, ei]; exact hrun⟩
    | succ k =>
     have := b k o' (by simpa using hk)
     rw [show i + 1 + k = i + (k + 1) by omega] at this; exact this
   ·rw [List.length_cons, show i + (rest.length + 1) = i + 1 + rest.length by omega]; exact e
  cases hg : hG T (dsts ops) o.guard with
  | yes =>
   rw [hg] at h
   obtain ⟨hlt, x, hK, hv⟩ := HGoR_head h
   refine key S x hst F hK hlt fun c l w ρ xs G => ⟨true, gd_yes (S := ⟨T, st⟩) hg rfl, fun _ => ?_, fun e => by cases e⟩
   have := hv c l w ρ xs (by rw [hst]; exact G)
   rw [hst] at this; exact this
  | no =>
   rw [hg] at h
   obtain ⟨hlt, hK⟩ := HSkip_head h
   exact key S _ hst F hK hlt fun c l w ρ xs G => ⟨false, gd_no (S := ⟨T, st⟩) ⟨ρ, xs, G⟩ hg rfl, fun e => (by cases e), fun _ => rfl⟩
  | ask d b want =>
   rw [hg] at h
   obtain ⟨j, hj, hd, hb⟩ := hG_ask (S := ⟨T, st⟩) hg
   have hbS := (TF d _ hb).2
   simp only [HStepR] at h
   split at h
   ·rename_i e
    have e' : b = want := by simpa using e
    subst e'
    obtain ⟨hlt, x, hK, hv⟩ := HGoR_head h
    refine key (S.rep d (.v (.bool b))) x hst (F.env fun t x hx => by rw [← hrep_same hbS t]; exact hx) hK hlt fun c l w ρ xs G => ⟨true, (gd_ask (S := ⟨T, st⟩) ⟨ρ, xs, G⟩ hg (k := (· = true)) e).1, fun _ => ?_, fun e => by cases e⟩
    have := hv c l w ρ xs (by rw [hst]; exact G.sameEnv (hrep_same hb))
    simp only [HS.rep] at this
    rw [hst] at this; exact this
   ·rename_i e
    have e' : b = !want := by cases b <;> cases want <;> simp_all
    subst e'
    obtain ⟨hlt, hK⟩ := HSkip_head h
    exact key (S.rep d (.v (.bool (!want)))) _ hst (F.env fun t x hx => by rw [← hrep_same hbS t]; exact hx) hK hlt fun c l w ρ xs G => ⟨false, (gd_ask (S := ⟨T, st⟩) ⟨ρ, xs, G⟩ hg (k := (· = false)) e).1, fun e => (by cases e), fun _ => rfl⟩
  | bad => rw [hg] at h; exact h.elim
end
end Go.Eng
end

section
set_option linter.unusedSimpArgs false
set_option linter.unusedVariables false
namespace Go.Eng
open Go Go.RowKit
section
variable {P : Program} {N : Nat} {c : Ctx} {S T : HS} {Q : HPost} {l : Env} {look : Nat → Option Value} {w w' : World} {ρ : Nat → Value} {xs : Nat → List Value} {K : HS → Prop}
theorem looks_slots {ops : List Oper} {o : Oper} {t : Nat} (h : t ∈ slotG (dsts ops) o.guard ++ slotsOf o.op) : t ∈ o.looksAt ops.toArray := by
 rcases List.mem_append.1 h with h | h
 ·cases hg : o.guard with
  | none => rw [hg] at h; simp [slotG] at h
  | some p =>
   obtain ⟨g, b⟩ := p
   rw [hg] at h
   simp only [slotG] at h
   split at h
   ·rename_i d hd
    simp only [List.mem_singleton] at h
    subst h
    refine looks_guard hg ?_
    unfold dstAt
    simp only [dsts, List.getElem?_map, Option.map_eq_some_iff] at hd
    obtain ⟨x, hx, hx'⟩ := hd
    simp [hx, hx']
   ·simp at h
 ·exact looks_tmp (slotsOf_mem h)
theorem hkeys_mem {x : HV} {k : Nat} : ∀ {e : HEnv}, hlk e k = some x → k ∈ hkeys e
 | [], h => by simp [hlk] at h
 | (j, y) :: r, h => by
  simp only [hlk] at h
  by_cases ej : j = k
  ·simp [hkeys, ej]
  ·rw [if_neg ej] at h
   have := hkeys_mem h
   simp only [hkeys, List.map_cons, List.mem_cons]
   exact .inr this
theorem HW_drwR {id : Nat} {ops : List Oper} (n : Nat) (hm : P.follows .mixedOrders = true) (hok : regOk (hkeys S.env) ops n = true)
  (h : ∀ K : HS → Prop, (∀ S', Q .normal S' → K S') → HVr P N (dsts ops) (fun S' => HStop (HV2 P N (dsts ops) K (ops.drop n)) S') (ops.take n) S) : HW P N (.region id ops.toArray true) Q S := fun c l w I => by
 have hks : ∀ k ∈ hkeys S.env, ∃ v, lk l k = some v := fun k hk => by
  obtain ⟨x, hx⟩ := hkeys_get hk
  obtain ⟨ρ, xs, G⟩ := I
  obtain ⟨v, h1, -⟩ := G.env k x hx
  exact ⟨v, h1⟩
 refine W_keep (hkeys S.env) ?_
 have I' : Inv c S (lk (keep (hkeys S.env) l)) w := I.agree fun k x hk => keep_lk (hkeys_mem hk)
 have hkk : keysE (keep (hkeys S.env) l) = hkeys S.env := keysE_keep hks
 generalize keep (hkeys S.env) l = l' at I' hkk
 obtain ⟨ρ, xs, G⟩ := I'
 have ok := regOk_spec hok
 have hlen : (ops.take n).length = n := by rw [List.length_take]; have := ok.hn; omega
 have get_take : ∀ {i : Nat} {o : Oper}, (ops.take n)[i]? = some o → i < n ∧ ops[i]? = some o := fun {i o} h => by
  have hi := (List.getElem?_eq_some_iff.1 h).1
  rw [hlen] at hi
  rw [List.getElem?_take_of_lt hi] at h
  exact ⟨hi, h⟩
 obtain ⟨hs, -, heads, S1, e1, F1, h1⟩ := HVr_heads (E0 := S.env) (st := S.st) (ops.take n) 0 S (fun _ => .junk) (fun k o hk => by rw [Nat.zero_add]; exact (get_take hk).2) rfl (fun t x hx => .inr ⟨fun j hj => absurd hj (Nat.not_lt_zero _), hx⟩) (h (Q .normal) fun _ h => h)
 rw [hlen, Nat.zero_add] at F1
 have head : ∀ i o, i < n → ops[i]? = some o → HeadOk P N ops S.env S.st hs i o := fun i o hi ho => by
  have := heads i o (by rw [List.getElem?_take_of_lt hi]; exact ho)
  rw [Nat.zero_add] at this; exact this
 have uniq : ∀ i j t, i < n → j < n → dstAt ops i = some t → dstAt ops j = some t → i = j := by
  intro i j t hi hj h1 h2
  rcases Nat.lt_trichotomy i j with h | h | h
  ·rcases ok.uniq j i hj h with e | e
   ·rw [h2] at e; cases e
   ·exact absurd (h2.trans h1.symm) e
  ·exact h
  ·rcases ok.uniq i j hi h with e | e
   ·rw [h1] at e; cases e
   ·exact absurd (h1.trans h2.symm) e
 have hlt : DLt N ops n := fun i t hi hd => by
  obtain ⟨o, ho, hod⟩ := dstAt_some hd
  have := (head i o hi ho).lt
  rw [hod] at this; exact this
 -- what a frame of the heads' names reads
 have frame : ∀ (vs : Nat → Value) (w' : World) (i : Nat) (E : HEnv), i ≤ n → Below w.heap.size w w' → FrOk ops S.env hs i E →
   (∀ j t x, j < i → dstAt ops j = some t → hlk E t = some x → RepH w' (c.A ρ S.st) c.n0 ρ (vs j) (hs j)) → Good c ⟨E, S.st⟩ (lk (envE l' ops vs i)) w' ρ xs := fun vs w' i E hi hB F hv => by
  have GB := G.below hB
  refine ⟨GB.rows, GB.apart, fun k x hk => ?_, GB.kept, GB.a0⟩
  rcases F k x hk with ⟨j, a, b, d⟩ | ⟨a, b⟩
  ·refine ⟨vs j, (envE_new (l := l') (vs := vs) hlt (base := Array.replicate N undef) (by simp) b (fun q hq hne e => hne (uniq q j k hq (by omega) e b)) i hi a).1, ?_⟩
   rw [← d]; exact hv j k x a b hk
  ·obtain ⟨v, v1, v2⟩ := GB.env k x b
   exact ⟨v, by rw [(envE_old (l := l') (vs := vs) #[] k i a).1]; exact v1, v2⟩
 refine W_drawnR (hkeys S.env) n hm hkk hok hlt (C := fun w' => Below w.heap.size w w') (R := fun j u w' => RepH w' (c.A ρ S.st) c.n0 ρ u (hs j)) (Below.refl _ _).drew (fun i u w1 w2 _ hr hB => hr.above hB) ?_ ?_
 ·intro i o hi ho vs w1 hC hR
  obtain ⟨T, TF, TS, run⟩ := (head i o hi ho).head
  have GT : Good c ⟨T, S.st⟩ (lk (envE l' ops vs i)) w1 ρ xs := frame vs w1 i T (by omega) hC TF fun j t x hj hd hx => hR j t hj hd (looks_slots (TS t x hx))
  obtain ⟨b, b1, b2, b3⟩ := run c _ w1 ρ xs GT
  refine ⟨b, b1, fun hb => ?_, fun hb => ?_⟩
  ·exact (vcOp_ok (fun x X hx => by simp [evD, hx]) (b2 hb)).mono fun u w2 ⟨hu, hB⟩ => ⟨hu, hC.trans (hB.mono hC.size), hB⟩
  ·rw [b3 hb]; exact .v _
 ·intro vs w1 hC hR
  obtain ⟨E1, st1⟩ := S1
  have e1 : st1 = S.st := e1
  subst e1
  have G1 := frame vs w1 n E1 (Nat.le_refl _) hC F1 fun j t x hj _ _ => hR j hj
  exact HW_drw.V2.mono' (HV2_VC _ _ _ _ h1 ⟨ρ, xs, G1⟩) fun l2 w2 h2 => h2
theorem hatRv {f : FuncId} {args args' : List HV} {x : Value} {K : HV → Prop} (hc : callable P f = true) (H : HFun P f args' (fun h st => h = .v x)) (hl : Lends T.st args args') (hK : K (.v x)) : HAtR P f args T K :=
 ⟨hc, .v x, hK, fun c look w ρ xs vs G R => Ret.mono (H w vs (lends_rep G R hl)) fun v w' ⟨B, h, st, h8, q, ρ', xs', G', hr⟩ => ⟨by subst q; have := repH_v hr; subst this; exact .v _, B⟩⟩
end
end Go.Eng
end

section
set_option linter.unusedSimpArgs false
set_option linter.unusedVariables false
namespace Go.Eng
open Go Go.RowKit
section
variable {P : Program} {T : HS}
theorem hatRo {f : FuncId} {args args' : List HV} {ty sz : Nat} {els : List (List FV)} {K : HV → Prop} (hc : callable P f = true) (H : HFun P f args' (fun h st => h = .own 0 ∧ st = [(0, .sl true ty sz els)])) (hl : Lends T.st args args') (hK : K (.lst true els)) : HAtR P f args T K :=
 ⟨hc, _, hK, fun c look w ρ xs vs G R => Ret.mono (H w vs (lends_rep G R hl)) fun v w' ⟨B, h, st, h8, ⟨e1, e2⟩, ρ', xs', G', hr⟩ => ⟨by
  subst e1; subst e2
  have hw : c.n0 ≤ w.heap.size := Nat.le_trans c.hn G.kept.size
  have hA : ∀ b, c.A ρ T.st b → b < w.heap.size := by
   rintro b (h0 | ⟨i, r, hi, hb⟩)
   ·have := (G.a0 b h0).1; have := G.kept.size; omega
   ·exact G.lt hi hb
  have e0 : rlk (HS.st ⟨[], [(0, Row.sl true ty sz els)]⟩) 0 = some (.sl true ty sz els) := rfl
  cases hr
  obtain ⟨o1, o2, o3⟩ := rows_sl G' e0
  have R0 := G'.rows 0 _ e0
  refine .lst (row_lst o1 o2 (fun p k hp hk => ?_) (fun b hb => ?_))
  ·obtain ⟨u, a, b, d⟩ := o3 p k hp hk
   exact ⟨u, a, b, d.up (Nat.le_refl _) (fun _ _ _ => rfl) (fun b _ h => .inl (hA b h)) hw⟩
  ·rcases (R0.new b hb).1 with h | h
   ·have h : w.heap.size ≤ b := h
    exact ⟨fun hA' => by have := hA b hA'; omega, fun _ => by omega⟩
   ·exact h.elim, B⟩⟩
end
end Go.Eng
end

section
set_option linter.unusedSimpArgs false
set_option linter.unusedVariables false
namespace Go.Eng
open Go Go.RowKit
theorem qS (t : Nat) : hlk [] t = none := nr rfl
theorem qM (k : Nat) (v : HV) (r : HEnv) (t : Nat) : hlk ((k, v) :: r) t = if k = t then some v else hlk r t := nr rfl
theorem qX (t : Nat) : rlk [] t = none := nr rfl
theorem qU (k : Nat) (v : Row) (r : Store) (t : Nat) : rlk ((k, v) :: r) t = if k = t then some v else rlk r t := nr rfl
theorem hev_tmp (l : HEnv) (t : Nat) : hev l (.tmp t) = hlk l t := nr rfl
theorem hev_const (l : HEnv) (v : Value) : hev l (.const v) = some (.v v) := nr rfl
theorem hev_global (l : HEnv) (g : Nat) : hev l (.global g) = some (.v (.pointer (some ⟨g, 0, none⟩))) := nr rfl
theorem hev_func (l : HEnv) (f : FuncId) : hev l (.func f) = some (.v (.func (.func f) #[] #[])) := nr rfl
theorem hevs_nil (l : HEnv) : hevs l [] = some [] := nr rfl
theorem hevs_cons (l : HEnv) (x : Operand) (r : List Operand) : hevs l (x :: r) = match hev l x with | some v => (match hevs l r with | some vs => some (v :: vs) | none => none) | none => none := nr rfl
theorem leaf_v (x : Value) : leaf (some (.v x)) = some x := nr rfl
theorem leaf_none  : leaf none = none := nr rfl
theorem leaf_lst (fr : Bool) (xs : List (List FV)) : leaf (some (.lst fr xs)) = none := nr rfl
theorem leaf_own (i : Nat) : leaf (some (.own i)) = none := nr rfl
theorem leaf_ptr (i s j k : Nat) : leaf (some (.ptr i s j k)) = none := nr rfl
theorem leaf_elt (fr : Bool) (xs : List (List FV)) (s j k : Nat) : leaf (some (.elt fr xs s j k)) = none := nr rfl
theorem leaf_agg (cs : List HV) : leaf (some (.agg cs)) = none := nr rfl
theorem leaf_tup (cs : List HV) : leaf (some (.tup cs)) = none := nr rfl
theorem leaf_vw (i s o n : Nat) : leaf (some (.vw i s o n)) = none := nr rfl
theorem leaf_junk  : leaf (some .junk) = none := nr rfl
theorem hPure_some (S : HS) (id : Nat) (P : Program) (o : Op) (c : Prop) (v : Value) : hPure S id P o (some (c, v)) = .go c (.v v) S := nr rfl
theorem hPure_none (S : HS) (id : Nat) (P : Program) (o : Op) : hPure S id P o none = heff P S id o := nr rfl
theorem hop_eq (P : Program) (S : HS) (id : Nat) (o : Op) : hop P S id o = hPure S id P o (pureOp P (lo S.env) o) := nr rfl
theorem heff_move (P : Program) (S : HS) (id : Nat) (x : Operand) : heff P S id (.move x) = hMove S (hev S.env x) := nr rfl
theorem heff_assign (P : Program) (S : HS) (id : Nat) (x : Operand) : heff P S id (.assign x) = hMove S (hev S.env x) := nr rfl
theorem heff_pick (P : Program) (S : HS) (id : Nat) (c a b : Operand) : heff P S id (.pick c a b) = hPick S (hev S.env c) (hev S.env a) (hev S.env b) := nr rfl
theorem heff_extract (P : Program) (S : HS) (id : Nat) (x : Operand) (i : Nat) : heff P S id (.extract x i) = hExtract S i (hev S.env x) := nr rfl
theorem heff_field (P : Program) (S : HS) (id : Nat) (t : TypeId) (x : Operand) (f : Nat) : heff P S id (.field t x f) = hField S (fPart P t f) (hev S.env x) := nr rfl
theorem heff_faddr (P : Program) (S : HS) (id : Nat) (t : TypeId) (x : Operand) (f : Nat) : heff P S id (.fieldAddr t x f) = hFAddr S (fOff P t f) (hev S.env x) := nr rfl
theorem heff_nilc (P : Program) (S : HS) (id : Nat) (x : Operand) : heff P S id (.nilCheck x) = hNil S (hev S.env x) := nr rfl
theorem heff_iaddr (P : Program) (S : HS) (id : Nat) (t : TypeId) (x i : Operand) : heff P S id (.indexAddr t x i) = hIAddr S (uSlice P t) (uArr P t) (hev S.env x) (hev S.env i) := nr rfl
theorem heff_slice (P : Program) (S : HS) (id : Nat) (t : TypeId) (x : Operand) (l h : Option Operand) : heff P S id (.slice t x l h none) = hSlice S (uSlice P t) l h (hev S.env x) := nr rfl
theorem heff_load (P : Program) (S : HS) (id : Nat) (t : TypeId) (x : Operand) : heff P S id (.load t x) = hLoad S (kindT P t) (hev S.env x) := nr rfl
theorem heff_store (P : Program) (S : HS) (id : Nat) (t : TypeId) (x y : Operand) : heff P S id (.store t x y) = hStore S (kindT P t) (hev S.env x) (hev S.env y) := nr rfl
theorem heff_alloc (P : Program) (S : HS) (id : Nat) (t : TypeId) : heff P S id (.alloc t) = hAlloc S id t (zeroT P t) := nr rfl
theorem heff_box (P : Program) (S : HS) (id : Nat) (t : TypeId) (x : Operand) : heff P S id (.box t x) = hBox S id t (hev S.env x) := nr rfl
theorem heff_build (P : Program) (S : HS) (id : Nat) (t : TypeId) (ps : Array (Nat × Operand)) : heff P S id (.build t ps) = hBuild S (buildable P t) (partT P t) (zeroT P t) (partsH S.env ps.toList) := nr rfl
theorem heff_buildS (P : Program) (S : HS) (id : Nat) (t n : TypeId) (ps : Array (Nat × Operand)) : heff P S id (.buildSlice t n ps) = hBuildS S id n (seOf P t) (partsH S.env ps.toList) := nr rfl
theorem heff_makeS (P : Program) (S : HS) (id : Nat) (t : TypeId) (x y : Operand) : heff P S id (.makeSlice t x y) = hMake S id (seOf P t) (hev S.env x) (hev S.env y) := nr rfl
theorem heff_len (P : Program) (S : HS) (id : Nat) (args : Array Operand) (ats : Array TypeId) : heff P S id (.call ⟨.builtin .len, args, ats⟩) = match hevs S.env args.toList with | some [h] => hLen S (Cond ((uSlice P (ats0 ats)).isSome = true ∧ ats.size = 1)) (some h) | _ => .bad := nr rfl
theorem heff_app (P : Program) (S : HS) (id : Nat) (args : Array Operand) (ats : Array TypeId) : heff P S id (.call ⟨.builtin .append, args, ats⟩) = hAppend S id (ats == #[ats0 ats, ats0 ats]) (strT P ats) (seOf P (ats0 ats)) (hevs S.env args.toList) := nr rfl
theorem heff_callf (P : Program) (S : HS) (id : Nat) (f : FuncId) (args : Array Operand) (ats : Array TypeId) : heff P S id (.call ⟨.value (.func f), args, ats⟩) = hCall f (hevs S.env args.toList) := nr rfl
theorem heff_eql (P : Program) (S : HS) (id : Nat) (t : TypeId) (x y : Operand) (u : TypeId) : heff P S id (.binOp .eql t x y u) = hEq S (uPtr P t) t false (hev S.env x) (hev S.env y) := nr rfl
theorem heff_neq (P : Program) (S : HS) (id : Nat) (t : TypeId) (x y : Operand) (u : TypeId) : heff P S id (.binOp .neq t x y u) = hEq S (uPtr P t) t true (hev S.env x) (hev S.env y) := nr rfl
theorem heff_conv (P : Program) (S : HS) (id : Nat) (s d : TypeId) (x : Operand) : heff P S id (.convert s d x) = hConv S (convOk P s d) (convB P s d) (hev S.env x) := nr rfl
theorem hMove_eq (S : HS) (h : HV) : hMove S (some h) = .go True h S := nr rfl
theorem hPick_eq (S : HS) (t : Bool) (a b : HV) : hPick S (some (.v (.bool t))) (some a) (some b) = .go True (bif t then a else b) S := nr rfl
theorem hExtract_eq (S : HS) (i : Nat) (hs : List HV) : hExtract S i (some (.tup hs)) = match hs[i]? with | some h => .go True h S | none => .bad := nr rfl
theorem heff_index (P : Program) (S : HS) (id : Nat) (t : TypeId) (x i : Operand) : heff P S id (.index t x i) = hIndexA S (aCell P t) (hev S.env x) (hev S.env i) := nr rfl
theorem hIndexA_agg (S : HS) (m : Nat) (hs : List HV) (k : IntKind) (n : Int) : hIndexA S (some m) (some (.agg hs)) (some (.v (.int k n))) = match hs[n.toNat]? with | some h => .go (Cond (0 ≤ n ∧ n < m)) h S | none => .bad := nr rfl
theorem hField_one (S : HS) (off : Nat) (hs : List HV) : hField S (some (off, none)) (some (.agg hs)) = match hs[off]? with | some h => .go True h S | none => .bad := nr rfl
theorem hField_sub (S : HS) (off n : Nat) (hs : List HV) : hField S (some (off, some n)) (some (.agg hs)) = .go (Cond (off + n ≤ hs.length)) (.agg ((hs.drop off).take n)) S := nr rfl
theorem hFAddr_ptr (S : HS) (off id sz i k : Nat) : hFAddr S (some off) (some (.ptr id sz i k)) = .go True (.ptr id sz i (k + off)) S := nr rfl
theorem hFAddr_elt (S : HS) (off : Nat) (fr : Bool) (xs : List (List FV)) (sz i k : Nat) : hFAddr S (some off) (some (.elt fr xs sz i k)) = .go True (.elt fr xs sz i (k + off)) S := nr rfl
theorem hNil_ptr (S : HS) (id sz i k : Nat) : hNil S (some (.ptr id sz i k)) = .go True (.ptr id sz i k) S := nr rfl
theorem hNil_elt (S : HS) (fr : Bool) (xs : List (List FV)) (sz i k : Nat) : hNil S (some (.elt fr xs sz i k)) = .go True (.elt fr xs sz i k) S := nr rfl
theorem hIAddr_own (S : HS) (id : Nat) (us ua : Option (Nat × Nat)) (kk : IntKind) (n : Int) : hIAddr S us ua (some (.own id)) (some (.v (.int kk n))) = hIAddrR S id n us (rlk S.st id) := nr rfl
theorem hIAddr_lst (S : HS) (fr : Bool) (xs : List (List FV)) (us ua : Option (Nat × Nat)) (kk : IntKind) (n : Int) : hIAddr S us ua (some (.lst fr xs)) (some (.v (.int kk n))) = hIAddrL S fr xs n us := nr rfl
theorem hIAddr_ptr (S : HS) (id sz i k : Nat) (us ua : Option (Nat × Nat)) (kk : IntKind) (n : Int) : hIAddr S us ua (some (.ptr id sz i k)) (some (.v (.int kk n))) = hIAddrP S id sz i k n ua := nr rfl
theorem hIAddr_elt (S : HS) (fr : Bool) (xs : List (List FV)) (sz i k : Nat) (us ua : Option (Nat × Nat)) (kk : IntKind) (n : Int) : hIAddr S us ua (some (.elt fr xs sz i k)) (some (.v (.int kk n))) = hIAddrE S fr xs sz i k n ua := nr rfl
theorem hIAddrR_eq (S : HS) (id : Nat) (n : Int) (e sz : Nat) (nw : Bool) (ty s : Nat) (els : List (List FV)) : hIAddrR S id n (some (e, sz)) (some (.sl nw ty s els)) = .go (Cond (sz = s ∧ 0 ≤ n ∧ n < els.length)) (.ptr id s n.toNat 0) S := nr rfl
theorem hIAddrL_eq (S : HS) (fr : Bool) (xs : List (List FV)) (n : Int) (e sz : Nat) : hIAddrL S fr xs n (some (e, sz)) = .go (Cond (0 ≤ n ∧ n < xs.length) ∧ Wid sz xs) (.elt fr xs sz n.toNat 0) S := nr rfl
theorem hIAddrP_eq (S : HS) (id sz i k : Nat) (n : Int) (len size : Nat) : hIAddrP S id sz i k n (some (len, size)) = .go (Cond (0 ≤ n ∧ n < len)) (.ptr id sz i (k + n.toNat * size)) S := nr rfl
theorem hIAddrE_eq (S : HS) (fr : Bool) (xs : List (List FV)) (sz i k : Nat) (n : Int) (len size : Nat) : hIAddrE S fr xs sz i k n (some (len, size)) = .go (Cond (0 ≤ n ∧ n < len)) (.elt fr xs sz i (k + n.toNat * size)) S := nr rfl
theorem hLen_vw (S : HS) (c : Prop) (i s o n : Nat) : hLen S c (some (.vw i s o n)) = .go c (.v (.int .i64 n)) S := nr rfl
theorem hSlice_own (S : HS) (us : Option (Nat × Nat)) (l h : Option Operand) (id : Nat) : hSlice S us l h (some (.own id)) = hSliceR S id (oInt (lo S.env) l 0) (oInt (lo S.env) h (rlen (rlk S.st id))) us (rlk S.st id) := nr rfl
theorem hSlice_vw (S : HS) (us : Option (Nat × Nat)) (l h : Option Operand) (id sz off n : Nat) : hSlice S us l h (some (.vw id sz off n)) = hSliceV S id sz off (oInt (lo S.env) l 0) (oInt (lo S.env) h n) us (rlk S.st id) := nr rfl
theorem hSliceR_eq (S : HS) (id : Nat) (a b : Int) (e sz : Nat) (nw : Bool) (ty s : Nat) (els : List (List FV)) : hSliceR S id (some a) (some b) (some (e, sz)) (some (.sl nw ty s els)) = .go (Cond (sz = s ∧ 0 ≤ a ∧ a ≤ b ∧ b ≤ els.length)) (.vw id s a.toNat (b.toNat - a.toNat)) S := nr rfl
theorem hSliceV_eq (S : HS) (id sz off : Nat) (a b : Int) (e sz' : Nat) (nw : Bool) (ty s : Nat) (els : List (List FV)) : hSliceV S id sz off (some a) (some b) (some (e, sz')) (some (.sl nw ty s els)) = .go (Cond (sz' = sz ∧ s = sz ∧ 0 ≤ a ∧ a ≤ b ∧ off + b ≤ els.length)) (.vw id sz (off + a.toNat) (b.toNat - a.toNat)) S := nr rfl
theorem rlen_sl (nw : Bool) (ty s : Nat) (els : List (List FV)) : rlen (some (.sl nw ty s els)) = els.length := nr rfl
theorem hIAddr_vw (S : HS) (id s off m : Nat) (us ua : Option (Nat × Nat)) (kk : IntKind) (n : Int) : hIAddr S us ua (some (.vw id s off m)) (some (.v (.int kk n))) = hIAddrV S id s off m n us (rlk S.st id) := nr rfl
theorem hIAddrV_eq (S : HS) (id s off m : Nat) (n : Int) (e sz : Nat) (nw : Bool) (ty s' : Nat) (els : List (List FV)) : hIAddrV S id s off m n (some (e, sz)) (some (.sl nw ty s' els)) = .go (Cond (sz = s ∧ s' = s ∧ 0 ≤ n ∧ n < m)) (.ptr id s (off + n.toNat) 0) S := nr rfl
theorem newsOf_vw (st : Store) (sz id s off n : Nat) : newsOf st sz (.vw id s off n) = match rlk st id with | some (.sl _ _ s' els) => some (Cond (s = sz ∧ s' = sz), (els.drop off).take n) | _ => none := nr rfl
theorem hcells_vw (i s o n : Nat) : hcells (.vw i s o n) = some [.vw i s o n] := nr rfl
theorem hone_vw (i s o n : Nat) : (HV.vw i s o n).one = true := nr rfl
theorem hkill_vw (p : Nat → Bool) (i s o n : Nat) : HV.kill p (.vw i s o n) = bif p i then .junk else .vw i s o n := by rw [HV.kill]
theorem hren_vw (m : Nat → Option Nat) (i s o n : Nat) : HV.ren m (.vw i s o n) = match m i with | some j => .vw j s o n | none => .junk := by rw [HV.ren]; cases m i <;> rfl
theorem hsub_vw (id : Nat) (x0 : HV) (i s o n : Nat) : HV.sub id x0 (.vw i s o n) = if i = id then vwSub x0 s o n else .vw i s o n := by rw [HV.sub]
theorem ownIds_vw (i s o n : Nat) : ownIds (.vw i s o n) = [] := nr rfl
theorem ownCell_vw (i s o n : Nat) : ownCell (.vw i s o n) = [] := nr rfl
theorem hLen_own (S : HS) (c : Prop) (id : Nat) : hLen S c (some (.own id)) = hLenR S c (rlk S.st id) := nr rfl
theorem hLen_lst (S : HS) (c : Prop) (fr : Bool) (xs : List (List FV)) : hLen S c (some (.lst fr xs)) = .go c (.v (.int .i64 xs.length)) S := nr rfl
theorem hLenR_hl (S : HS) (c : Prop) (nw : Bool) (ty s : Nat) (els : List (List HV)) : hLenR S c (some (.hl nw ty s els)) = .go c (.v (.int .i64 els.length)) S := nr rfl
theorem hIAddrR_hl (S : HS) (id : Nat) (n : Int) (e sz : Nat) (nw : Bool) (ty s : Nat) (els : List (List HV)) : hIAddrR S id n (some (e, sz)) (some (.hl nw ty s els)) = .go (Cond (sz = s ∧ 0 ≤ n ∧ n < els.length)) (.ptr id s n.toNat 0) S := nr rfl
theorem hLenR_eq (S : HS) (c : Prop) (nw : Bool) (ty s : Nat) (els : List (List FV)) : hLenR S c (some (.sl nw ty s els)) = .go c (.v (.int .i64 els.length)) S := nr rfl
theorem hSlice_eq (S : HS) (us : Option (Nat × Nat)) (l h : Option Operand) (fr : Bool) (xs : List (List FV)) : hSlice S us l h (some (.lst fr xs)) = hSliceL S fr xs (oInt (lo S.env) l 0) (oInt (lo S.env) h xs.length) us := nr rfl
theorem hSliceL_eq (S : HS) (fr : Bool) (xs : List (List FV)) (a b : Int) (e sz : Nat) : hSliceL S fr xs (some a) (some b) (some (e, sz)) = .go (Cond (0 ≤ a ∧ a ≤ b ∧ b ≤ xs.length) ∧ Wid sz xs) (.lst fr ((xs.take b.toNat).drop a.toNat)) S := nr rfl
theorem hLoad_ptr (S : HS) (kt : Option (Option Nat)) (id sz i k : Nat) : hLoad S kt (some (.ptr id sz i k)) = hLoadR S sz i k kt (rlk S.st id) := nr rfl
theorem hLoad_elt (S : HS) (kt : Option (Option Nat)) (fr : Bool) (xs : List (List FV)) (sz i k : Nat) : hLoad S kt (some (.elt fr xs sz i k)) = hLoadE S xs i k kt := nr rfl
theorem hLoadR_sl (S : HS) (sz i k : Nat) (nw : Bool) (ty s : Nat) (els : List (List FV)) : hLoadR S sz i k (some none) (some (.sl nw ty s els)) = .go (Cond (sz = s ∧ i < els.length ∧ k < (els.getD i []).length)) ((els.getD i []).getD k default).h S := nr rfl
theorem hLoadR_sla (S : HS) (sz i k n : Nat) (nw : Bool) (ty s : Nat) (els : List (List FV)) : hLoadR S sz i k (some (some n)) (some (.sl nw ty s els)) = .go (Cond (sz = s ∧ i < els.length ∧ k + n ≤ (els.getD i []).length)) (.agg ((((els.getD i []).drop k).take n).map FV.h)) S := nr rfl
theorem hLoadR_bx (S : HS) (sz i k : Nat) (nw : Bool) (ty : Nat) (cells : List HV) : hLoadR S sz i k (some none) (some (.bx nw ty cells)) = .go (Cond (i = 0 ∧ k < cells.length)) (cells.getD k .junk) S := nr rfl
theorem hLoadR_bxa (S : HS) (sz i k n : Nat) (nw : Bool) (ty : Nat) (cells : List HV) : hLoadR S sz i k (some (some n)) (some (.bx nw ty cells)) = .go (Cond (i = 0 ∧ k + n ≤ cells.length)) (.agg ((cells.drop k).take n)) S := nr rfl
theorem hLoadR_hl (S : HS) (sz i k : Nat) (nw : Bool) (ty s : Nat) (els : List (List HV)) : hLoadR S sz i k (some none) (some (.hl nw ty s els)) = .go (Cond (sz = s ∧ i < els.length ∧ k < (els.getD i []).length)) ((els.getD i []).getD k .junk) S := nr rfl
theorem hLoadR_hla (S : HS) (sz i k n : Nat) (nw : Bool) (ty s : Nat) (els : List (List HV)) : hLoadR S sz i k (some (some n)) (some (.hl nw ty s els)) = .go (Cond (sz = s ∧ i < els.length ∧ k + n ≤ (els.getD i []).length)) (.agg (((els.getD i []).drop k).take n)) S := nr rfl
theorem hStoreR_hl (S : HS) (id sz i k : Nat) (kt : Option (Option Nat)) (h : HV) (nw : Bool) (ty s : Nat) (els : List (List HV)) : hStoreR S id sz i k kt h (some (.hl nw ty s els)) = hStoreH S id sz i k nw ty s els kt h := nr rfl
theorem hStoreH_one (S : HS) (id sz i k : Nat) (nw : Bool) (ty s : Nat) (els : List (List HV)) (h : HV) : hStoreH S id sz i k nw ty s els (some none) h = .go (Cond (sz = s ∧ i < els.length ∧ k < (els.getD i []).length ∧ h.one = true)) (.v undef) ⟨S.env, sset id (.hl nw ty s (els.set i ((els.getD i []).set k h))) S.st⟩ := nr (by cases h <;> rfl)
theorem hStoreH_agg (S : HS) (id sz i k n : Nat) (nw : Bool) (ty s : Nat) (els : List (List HV)) (hs : List HV) : hStoreH S id sz i k nw ty s els (some (some n)) (.agg hs) = .go (Cond (sz = s ∧ i < els.length ∧ hs.length = n ∧ k + n ≤ (els.getD i []).length)) (.v undef) ⟨S.env, sset id (.hl nw ty s (els.set i (splice (els.getD i []) k hs))) S.st⟩ := nr rfl
theorem hLoadE_one (S : HS) (xs : List (List FV)) (i k : Nat) : hLoadE S xs i k (some none) = .go (Cond (i < xs.length ∧ k < (xs.getD i []).length)) ((xs.getD i []).getD k default).h S := nr rfl
theorem hLoadE_agg (S : HS) (xs : List (List FV)) (i k n : Nat) : hLoadE S xs i k (some (some n)) = .go (Cond (i < xs.length ∧ k + n ≤ (xs.getD i []).length)) (.agg ((((xs.getD i []).drop k).take n).map FV.h)) S := nr rfl
theorem hStore_eq (S : HS) (kt : Option (Option Nat)) (id sz i k : Nat) (h : HV) : hStore S kt (some (.ptr id sz i k)) (some h) = hStoreR S id sz i k kt h (rlk S.st id) := nr rfl
theorem hStoreR_sl (S : HS) (id sz i k : Nat) (kt : Option (Option Nat)) (h : HV) (nw : Bool) (ty s : Nat) (els : List (List FV)) : hStoreR S id sz i k kt h (some (.sl nw ty s els)) = hStoreS S id sz i k nw ty s els kt h := nr rfl
theorem hStoreR_bx (S : HS) (id sz i k : Nat) (kt : Option (Option Nat)) (h : HV) (nw : Bool) (ty : Nat) (cells : List HV) : hStoreR S id sz i k kt h (some (.bx nw ty cells)) = hStoreB S id i k nw ty cells kt h := nr rfl
theorem hStoreS_one (S : HS) (id sz i k : Nat) (nw : Bool) (ty s : Nat) (els : List (List FV)) (h : HV) : hStoreS S id sz i k nw ty s els (some none) h = match h.f with | some f => .go (Cond (sz = s ∧ i < els.length ∧ k < (els.getD i []).length ∧ f.one = true)) (.v undef) ⟨S.env, sset id (.sl nw ty s (els.set i ((els.getD i []).set k f))) S.st⟩ | none => .bad := nr rfl
theorem hStoreS_agg (S : HS) (id sz i k n : Nat) (nw : Bool) (ty s : Nat) (els : List (List FV)) (hs : List HV) : hStoreS S id sz i k nw ty s els (some (some n)) (.agg hs) = match HV.fs hs with | some fs => .go (Cond (sz = s ∧ i < els.length ∧ fs.length = n ∧ k + n ≤ (els.getD i []).length)) (.v undef) ⟨S.env, sset id (.sl nw ty s (els.set i (splice (els.getD i []) k fs))) S.st⟩ | none => .bad := nr rfl
theorem hStoreB_one (S : HS) (id i k : Nat) (nw : Bool) (ty : Nat) (cells : List HV) (h : HV) : hStoreB S id i k nw ty cells (some none) h = .go (Cond (i = 0 ∧ k < cells.length ∧ h.one = true)) (.v undef) ⟨S.env, sset id (.bx nw ty (cells.set k h)) S.st⟩ := nr (by cases h <;> rfl)
theorem hStoreB_agg (S : HS) (id i k n : Nat) (nw : Bool) (ty : Nat) (cells : List HV) (hs : List HV) : hStoreB S id i k nw ty cells (some (some n)) (.agg hs) = .go (Cond (i = 0 ∧ hs.length = n ∧ k + n ≤ cells.length)) (.v undef) ⟨S.env, sset id (.bx nw ty (splice cells k hs)) S.st⟩ := nr rfl
theorem hAlloc_eq (S : HS) (id : Nat) (t : TypeId) (z : Array Value) : hAlloc S id t (some z) = .go (Cond (oneAll z = true)) (.ptr id z.size 0 0) ((S.kill (only id)).row id (.bx true t (z.toList.map .v))) := nr rfl
theorem hBox_eq (S : HS) (id : Nat) (t : TypeId) (h : HV) : hBox S id t (some h) = hBoxC S id t (hcells h) := nr rfl
theorem hBoxC_eq (S : HS) (id : Nat) (t : TypeId) (cs : List HV) : hBoxC S id t (some cs) = .go True (.ptr id cs.length 0 0) ((S.kill (only id)).row id (.bx true t (cs.map (HV.kill (only id))))) := nr rfl
theorem partsH_nil (l : HEnv) : partsH l [] = some [] := nr rfl
theorem partsH_cons (l : HEnv) (i : Nat) (x : Operand) (r : List (Nat × Operand)) : partsH l ((i, x) :: r) = match hev l x with | some v => (match partsH l r with | some vs => some ((i, v) :: vs) | none => none) | none => none := nr rfl
theorem hfill_nil (place : Nat → Option (Nat × Nat)) (cells : List HV) : hfill place cells [] = some (True, cells) := nr rfl
theorem hfill_cons (place : Nat → Option (Nat × Nat)) (cells : List HV) (i : Nat) (h : HV) (r : List (Nat × HV)) : hfill place cells ((i, h) :: r) = match place i with | some (off, n) => (match hcells h with | some cs => (match hfill place (splice cells off cs) r with | some (c, out) => some (Cond (cs.length = n ∧ off + n ≤ cells.length) ∧ c, out) | none => none) | none => none) | none => none := nr rfl
theorem hBuild_eq (S : HS) (ok : Bool) (place : Nat → Option (Nat × Nat)) (z : Array Value) (ps : List (Nat × HV)) : hBuild S ok place (some z) (some ps) = hBuildF S (ok && oneAll z) (hfill place (z.toList.map .v) ps) := nr rfl
theorem hBuildF_eq (S : HS) (ok : Bool) (c : Prop) (cs : List HV) : hBuildF S ok (some (c, cs)) = .go (Cond (ok = true) ∧ c) (.agg cs) S := nr rfl
theorem hlit_nil (sz : Nat) (els : List (List FV)) : hlit sz els [] = some (True, els) := nr rfl
theorem hlit_cons (sz : Nat) (els : List (List FV)) (i : Nat) (h : HV) (r : List (Nat × HV)) : hlit sz els ((i, h) :: r) = match hcells h with | some cs => (match HV.fs cs with | some fs => (match hlit sz (els.set i fs) r with | some (c, out) => some (Cond (fs.length = sz ∧ i < els.length) ∧ c, out) | none => none) | none => none) | none => none := nr rfl
theorem hBuildS_eq (S : HS) (id n e sz by' : Nat) (z : Array Value) (ps : List (Nat × HV)) : hBuildS S id n (some (e, sz, by', z)) (some ps) = match oneAll z && z.size == sz with | true => hBuildSE S id e sz n z ps (allF ps) | false => .bad := nr rfl
theorem allF_nil  : allF [] = true := nr rfl
theorem allF_cons (i : Nat) (h : HV) (r : List (Nat × HV)) : allF ((i, h) :: r) = match hcells h with | some cs => ((HV.fs cs).isSome && allF r) | none => allF r := nr rfl
theorem hlitH_nil (sz : Nat) (els : List (List HV)) : hlitH sz els [] = some (True, els) := nr rfl
theorem hlitH_cons (sz : Nat) (els : List (List HV)) (i : Nat) (h : HV) (r : List (Nat × HV)) : hlitH sz els ((i, h) :: r) = match hcells h with | some cs => (match hlitH sz (els.set i cs) r with | some (c, out) => some (Cond (cs.length = sz ∧ i < els.length) ∧ c, out) | none => none) | none => none := nr rfl
theorem hkl_eq (id : Nat) (els : List (List HV)) : hkl id els = els.map (List.map (HV.kill (only id))) := nr rfl
theorem hBuildSE_t (S : HS) (id e sz n : Nat) (z : Array Value) (ps : List (Nat × HV)) : hBuildSE S id e sz n z ps true = hBuildSF S id e sz n (hlit sz (List.replicate n (z.toList.map .v)) ps) := nr rfl
theorem hBuildSE_f (S : HS) (id e sz n : Nat) (z : Array Value) (ps : List (Nat × HV)) : hBuildSE S id e sz n z ps false = hBuildSH S id e sz n (hlitH sz (List.replicate n (z.toList.map .v)) ps) := nr rfl
theorem hBuildSH_eq (S : HS) (id e sz n : Nat) (c : Prop) (els : List (List HV)) : hBuildSH S id e sz n (some (c, els)) = .go (Cond (n * sz ≤ 16777216 ∧ n ≤ 16777216) ∧ c) (.own id) ((S.kill (only id)).row id (.hl true e sz (hkl id els))) := nr rfl
theorem hBuildSF_eq (S : HS) (id e sz n : Nat) (c : Prop) (els : List (List FV)) : hBuildSF S id e sz n (some (c, els)) = .go (Cond (n * sz ≤ 16777216 ∧ n ≤ 16777216) ∧ c) (.own id) ((S.kill (only id)).row id (.sl true e sz els)) := nr rfl
theorem hMake_eq (S : HS) (id e sz by' : Nat) (z : Array Value) (n m : Int) : hMake S id (some (e, sz, by', z)) (some (.v (.int .i64 n))) (some (.v (.int .i64 m))) = match oneAll z && z.size == sz with | true => .go (Cond (n = m ∧ 0 ≤ n ∧ by' * n.toNat ≤ 281474976710656 ∧ n.toNat ≤ maxLen)) (.own id) ((S.kill (only id)).row id (.sl true e sz (List.replicate n.toNat (z.toList.map .v)))) | false => .bad := nr rfl
theorem newsOf_own (st : Store) (sz id : Nat) : newsOf st sz (.own id) = match rlk st id with | some (.sl _ _ s els) => some (Cond (s = sz), els) | _ => none := nr rfl
theorem newsOf_lst (st : Store) (sz : Nat) (fr : Bool) (xs : List (List FV)) : newsOf st sz (.lst fr xs) = some (Wid sz xs, xs) := nr rfl
theorem newsOf_nil (st : Store) (sz : Nat) : newsOf st sz (.v (.slice none 0 0)) = some (True, []) := nr rfl
theorem heff_copy (P : Program) (S : HS) (id : Nat) (args : Array Operand) (ats : Array TypeId) : heff P S id (.call ⟨.builtin .copy, args, ats⟩) = hCopy S (ats == #[ats0 ats, ats0 ats]) (uSlice P (ats0 ats)) (hevs S.env args.toList) := nr rfl
theorem hCopy_own (S : HS) (us : Option (Nat × Nat)) (id : Nat) (x : HV) : hCopy S true us (some [.own id, x]) = hCopyR S id 0 none none x us (rlk S.st id) := nr rfl
theorem hCopy_vw (S : HS) (us : Option (Nat × Nat)) (id s off n : Nat) (x : HV) : hCopy S true us (some [.vw id s off n, x]) = hCopyR S id off (some s) (some n) x us (rlk S.st id) := nr rfl
theorem hCopyR_own (S : HS) (id off : Nat) (x : HV) (e sz : Nat) (nw : Bool) (ty s : Nat) (els : List (List FV)) : hCopyR S id off none none x (some (e, sz)) (some (.sl nw ty s els)) = match decide (sz = s) with | true => hCopyN S id s off els.length (s = s) nw ty els (newsOf S.st s x) | false => .bad := nr rfl
theorem hCopyR_vw (S : HS) (id off s0 n : Nat) (x : HV) (e sz : Nat) (nw : Bool) (ty s : Nat) (els : List (List FV)) : hCopyR S id off (some s0) (some n) x (some (e, sz)) (some (.sl nw ty s els)) = match decide (sz = s) with | true => hCopyN S id s off n (s0 = s) nw ty els (newsOf S.st s x) | false => .bad := nr rfl
def cpy (els : List (List FV)) (off : Nat) (news : List (List FV)) (n : Nat) : List (List FV) := splice els off (news.take n)
def cpn (news : List (List FV)) (n : Nat) : Nat := min news.length n
theorem hCopyN_some (S : HS) (id sz off n : Nat) (ok : Prop) (nw : Bool) (ty : Nat) (els : List (List FV)) (c : Prop) (news : List (List FV)) : hCopyN S id sz off n ok nw ty els (some (c, news)) = .go (c ∧ Cond (off + n ≤ els.length ∧ 0 < sz ∧ ok)) (.v (.int .i64 (cpn news n : Nat))) ⟨S.env, sset id (.sl nw ty sz (cpy els off news n)) S.st⟩ := nr rfl
theorem hAppend_own (S : HS) (nid : Nat) (same str : Bool) (e sz by' : Nat) (z : Array Value) (id : Nat) (x : HV) : hAppend S nid same str (some (e, sz, by', z)) (some [.own id, x]) = match (same || str) && z.size == sz with | true => hAppR S id e sz by' same x (newsA same str S.st sz x) (rlk S.st id) | false => .bad := nr rfl
theorem newsH_own (st : Store) (sz id : Nat) : newsH st sz (.own id) = match rlk st id with | some (.sl _ _ s els) => some (Cond (s = sz), els.map (List.map FV.h)) | some (.hl _ _ s els) => some (Cond (s = sz), els) | _ => none := nr rfl
theorem newsH_lst (st : Store) (sz : Nat) (fr : Bool) (xs : List (List FV)) : newsH st sz (.lst fr xs) = some (Wid sz xs, xs.map (List.map FV.h)) := nr rfl
theorem newsH_nil (st : Store) (sz : Nat) : newsH st sz (.v (.slice none 0 0)) = some (True, []) := nr rfl
theorem arr2_eq (a b c d : Nat) : (#[a, b] == #[c, d]) = (a == c && b == d) := by rw [Bool.eq_iff_iff]; simp
theorem newsA_t (str : Bool) (st : Store) (sz : Nat) (x : HV) : newsA true str st sz x = newsOf st sz x := nr rfl
theorem newsA_f (st : Store) (sz : Nat) (x : HV) : newsA false true st sz x = newsS x := nr rfl
theorem newsS_str (s : ByteArray) : newsS (.v (.string s)) = some (True, byteE s) := nr rfl
theorem hAppend_nil (S : HS) (nid : Nat) (same str : Bool) (e sz by' : Nat) (z : Array Value) (x : HV) : hAppend S nid same str (some (e, sz, by', z)) (some [.v (.slice none 0 0), x]) = match same && z.size == sz with | true => hAppN S nid e sz by' true [] (newsOf S.st sz x) | false => .bad := nr rfl
theorem hAppR_hl (S : HS) (id e sz by' : Nat) (same : Bool) (x : HV) (news : Option (Prop × List (List FV))) (nw : Bool) (ty s : Nat) (els : List (List HV)) : hAppR S id e sz by' same x news (some (.hl nw ty s els)) = match same && (decide (ty = e) && decide (s = sz)) with | true => hAppH S id e sz by' nw els (newsH S.st sz x) | false => .bad := nr rfl
theorem hAppH_eq (S : HS) (id e sz by' : Nat) (nw : Bool) (els news : List (List HV)) (c : Prop) : hAppH S id e sz by' nw els (some (c, news)) = .go (c ∧ Cond ((els.length + news.length) * by' ≤ 140737488355328 ∧ 0 < by' ∧ 0 < sz)) (.own id) ((S.kill (only id)).row id (.hl nw e sz (hkl id (els ++ news)))) := nr rfl
theorem hAppR_eq (S : HS) (id e sz by' : Nat) (same : Bool) (x : HV) (news : Option (Prop × List (List FV))) (nw : Bool) (ty s : Nat) (els : List (List FV)) : hAppR S id e sz by' same x news (some (.sl nw ty s els)) = match decide (ty = e) && decide (s = sz) with | true => hAppN S id e sz by' nw els news | false => .bad := nr rfl
theorem hAppN_eq (S : HS) (id e sz by' : Nat) (nw : Bool) (els : List (List FV)) (c : Prop) (news : List (List FV)) : hAppN S id e sz by' nw els (some (c, news)) = .go (c ∧ Cond ((els.length + news.length) * by' ≤ 140737488355328 ∧ 0 < by' ∧ 0 < sz)) (.own id) ((S.kill (only id)).row id (.sl nw e sz (els ++ news))) := nr rfl
theorem leafs_nil  : leafs [] = some [] := nr rfl
theorem leafs_cons (x : Value) (r : List HV) : leafs (.v x :: r) = match leafs r with | some vs => some (x :: vs) | none => none := nr rfl
theorem hEq_eq (S : HS) (up : Bool) (t : TypeId) (neg : Bool) (xs ys : List HV) : hEq S up t neg (some (.agg xs)) (some (.agg ys)) = hEqL t neg (leafs xs) (leafs ys) := nr rfl
theorem hEq_ptr (S : HS) (up : Bool) (t : TypeId) (neg : Bool) (a b c d : Nat) : hEq S up t neg (some (.ptr a b c d)) (some (.v (.pointer none))) = .go (Cond (up = true)) (.v (.bool neg)) S := nr rfl
theorem hEq_elt (S : HS) (up : Bool) (t : TypeId) (neg fr : Bool) (xs : List (List FV)) (a b c : Nat) : hEq S up t neg (some (.elt fr xs a b c)) (some (.v (.pointer none))) = .go (Cond (up = true)) (.v (.bool neg)) S := nr rfl
theorem hConv_str (S : HS) (ok okB : Bool) (s : ByteArray) : hConv S ok okB (some (.v (.string s))) = .bytes okB s := nr rfl
theorem hConv_own (S : HS) (ok okB : Bool) (id : Nat) : hConv S ok okB (some (.own id)) = hConvR S ok (rlk S.st id) := nr rfl
theorem hConv_lst (S : HS) (ok okB fr : Bool) (xs : List (List FV)) : hConv S ok okB (some (.lst fr xs)) = hConvL S ok (bytesH xs) := nr rfl
theorem hConvR_eq (S : HS) (ok nw : Bool) (t s : Nat) (els : List (List FV)) : hConvR S ok (some (.sl nw t s els)) = hConvL S ok (bytesH els) := nr rfl
theorem hConvL_eq (S : HS) (ok : Bool) (ns : List Int) : hConvL S ok (some ns) = .go (Cond (ok = true)) (.v (.string (strOfNums ns))) S := nr rfl
theorem bytesH_nil  : bytesH [] = some [] := nr rfl
theorem bytesH_cons (n : Int) (r : List (List FV)) : bytesH ([.v (.int .u8 n)] :: r) = match bytesH r with | some ns => some (n :: ns) | none => none := nr rfl
theorem hEqL_eq (t : TypeId) (neg : Bool) (xs ys : List Value) : hEqL t neg (some xs) (some ys) = .eqn t xs ys neg := nr rfl
theorem hCall_eq (f : FuncId) (hs : List HV) : hCall f (some hs) = .call f hs := nr rfl
theorem ats0_eq (ats : Array TypeId) : ats0 ats = ats.getD 0 0 := nr rfl
theorem oneAll_eq (z : Array Value) : oneAll z = z.toList.all (fun v => v.oneCell') := nr rfl
theorem hf_v (x : Value) : (HV.v x).f = some (.v x) := nr rfl
theorem hf_own (i : Nat) : (HV.own i).f = none := nr rfl
theorem hf_vw (i s o n : Nat) : (HV.vw i s o n).f = none := nr rfl
theorem hf_ptr (i s j k : Nat) : (HV.ptr i s j k).f = none := nr rfl
theorem hf_lst (fr : Bool) (xs : List (List FV)) : (HV.lst fr xs).f = some (.lst fr xs) := nr rfl
theorem hfs_nil  : HV.fs [] = some [] := nr rfl
theorem hfs_cons (h : HV) (r : List HV) : HV.fs (h :: r) = match h.f, HV.fs r with | some f, some fs => some (f :: fs) | _, _ => none := nr rfl
theorem fone_v (x : Value) : (FV.v x).one = x.oneCell' := nr rfl
theorem fone_lst (fr : Bool) (xs : List (List FV)) : (FV.lst fr xs).one = true := nr rfl
theorem hone_v (x : Value) : (HV.v x).one = x.oneCell' := nr rfl
theorem hone_lst (fr : Bool) (xs : List (List FV)) : (HV.lst fr xs).one = true := nr rfl
theorem hone_own (i : Nat) : (HV.own i).one = true := nr rfl
theorem hone_ptr (i s j k : Nat) : (HV.ptr i s j k).one = true := nr rfl
theorem fh_v (x : Value) : (FV.v x).h = .v x := nr rfl
theorem fh_lst (fr : Bool) (xs : List (List FV)) : (FV.lst fr xs).h = .lst fr xs := nr rfl
theorem one_int (k : IntKind) (n : Int) : Value.oneCell' (.int k n) = true := nr rfl
theorem hcellv_int (k : IntKind) (n : Int) : hcells (.v (.int k n)) = some [.v (.int k n)] := nr rfl
theorem one_bool (b : Bool) : Value.oneCell' (.bool b) = true := nr rfl
theorem hcellv_bool (b : Bool) : hcells (.v (.bool b)) = some [.v (.bool b)] := nr rfl
theorem one_str (s : ByteArray) : Value.oneCell' (.string s) = true := nr rfl
theorem hcellv_str (s : ByteArray) : hcells (.v (.string s)) = some [.v (.string s)] := nr rfl
theorem one_slice (a : Option Addr) (n c : Nat) : Value.oneCell' (.slice a n c) = true := nr rfl
theorem hcellv_slice (a : Option Addr) (n c : Nat) : hcells (.v (.slice a n c)) = some [.v (.slice a n c)] := nr rfl
theorem one_ptr (a : Option Addr) : Value.oneCell' (.pointer a) = true := nr rfl
theorem hcellv_ptr (a : Option Addr) : hcells (.v (.pointer a)) = some [.v (.pointer a)] := nr rfl
theorem hcells_agg (cs : List HV) : hcells (.agg cs) = some cs := nr rfl
theorem hcells_lst (fr : Bool) (xs : List (List FV)) : hcells (.lst fr xs) = some [.lst fr xs] := nr rfl
theorem hcells_own (i : Nat) : hcells (.own i) = some [.own i] := nr rfl
theorem hcells_ptr (i s j k : Nat) : hcells (.ptr i s j k) = some [.ptr i s j k] := nr rfl
theorem splice_eq {α : Type} (l : List α) (k : Nat) (cs : List α) : splice l k cs = l.take k ++ cs ++ l.drop (k + cs.length) := nr rfl
theorem kill_eq (e : HEnv) (s : Store) (p : Nat → Bool) : HS.kill ⟨e, s⟩ p = ⟨ekill p e, skill p s⟩ := nr rfl
theorem row_eq (e : HEnv) (s : Store) (id : Nat) (r : Row) : HS.row ⟨e, s⟩ id r = ⟨e, (id, r) :: s⟩ := nr rfl
theorem set_some (e : HEnv) (s : Store) (k : Nat) (h : HV) : HS.set ⟨e, s⟩ (some k) h = ⟨(k, h) :: e, s⟩ := nr rfl
theorem set_none (S : HS) (h : HV) : HS.set S none h = S := nr rfl
theorem rep_eq (e : HEnv) (s : Store) (d : Nat) (h : HV) : HS.rep ⟨e, s⟩ d h = ⟨hrep d h e, s⟩ := nr rfl
theorem hrep_nil (d : Nat) (h : HV) : hrep d h [] = [] := nr rfl
theorem hrep_cons (d : Nat) (h : HV) (k : Nat) (x : HV) (r : HEnv) : hrep d h ((k, x) :: r) = if k = d then (k, h) :: r else (k, x) :: hrep d h r := nr rfl
theorem ekill_nil (p : Nat → Bool) : ekill p [] = [] := nr rfl
theorem ekill_cons (p : Nat → Bool) (k : Nat) (h : HV) (r : HEnv) : ekill p ((k, h) :: r) = (k, h.kill p) :: ekill p r := nr rfl
theorem skill_nil (p : Nat → Bool) : skill p [] = [] := nr rfl
theorem skill_cons (p : Nat → Bool) (k : Nat) (h : Row) (r : Store) : skill p ((k, h) :: r) = bif p k then skill p r else (k, h.kill p) :: skill p r := nr rfl
theorem rkill_sl (p : Nat → Bool) (nw : Bool) (t s : Nat) (xs : List (List FV)) : (Row.sl nw t s xs).kill p = .sl nw t s xs := nr rfl
theorem rkill_hl (p : Nat → Bool) (nw : Bool) (t s : Nat) (xs : List (List HV)) : (Row.hl nw t s xs).kill p = .hl nw t s (xs.map (List.map (HV.kill p))) := nr rfl
theorem rkill_bx (p : Nat → Bool) (nw : Bool) (t : Nat) (cs : List HV) : (Row.bx nw t cs).kill p = .bx nw t (cs.map (HV.kill p)) := nr rfl
theorem hkill_v (p : Nat → Bool) (x : Value) : HV.kill p (.v x) = .v x := by rw [HV.kill]
theorem hren_v (m : Nat → Option Nat) (x : Value) : HV.ren m (.v x) = .v x := by rw [HV.ren]
theorem hsub_v (id : Nat) (x0 : HV) (x : Value) : HV.sub id x0 (.v x) = .v x := by rw [HV.sub]
theorem hkill_lst (p : Nat → Bool) (fr : Bool) (xs : List (List FV)) : HV.kill p (.lst fr xs) = .lst fr xs := by rw [HV.kill]
theorem hren_lst (m : Nat → Option Nat) (fr : Bool) (xs : List (List FV)) : HV.ren m (.lst fr xs) = .lst fr xs := by rw [HV.ren]
theorem hsub_lst (id : Nat) (x0 : HV) (fr : Bool) (xs : List (List FV)) : HV.sub id x0 (.lst fr xs) = .lst fr xs := by rw [HV.sub]
theorem hkill_elt (p : Nat → Bool) (fr : Bool) (xs : List (List FV)) (s j k : Nat) : HV.kill p (.elt fr xs s j k) = .elt fr xs s j k := by rw [HV.kill]
theorem hren_elt (m : Nat → Option Nat) (fr : Bool) (xs : List (List FV)) (s j k : Nat) : HV.ren m (.elt fr xs s j k) = .elt fr xs s j k := by rw [HV.ren]
theorem hsub_elt (id : Nat) (x0 : HV) (fr : Bool) (xs : List (List FV)) (s j k : Nat) : HV.sub id x0 (.elt fr xs s j k) = .elt fr xs s j k := by rw [HV.sub]
theorem hkill_junk (p : Nat → Bool) : HV.kill p .junk = .junk := by rw [HV.kill]
theorem hren_junk (m : Nat → Option Nat) : HV.ren m .junk = .junk := by rw [HV.ren]
theorem hsub_junk (id : Nat) (x0 : HV) : HV.sub id x0 .junk = .junk := by rw [HV.sub]
theorem hkill_own (p : Nat → Bool) (i : Nat) : HV.kill p (.own i) = bif p i then .junk else .own i := by rw [HV.kill]
theorem hkill_ptr (p : Nat → Bool) (i s j k : Nat) : HV.kill p (.ptr i s j k) = bif p i then .junk else .ptr i s j k := by rw [HV.kill]
theorem hkill_agg (p : Nat → Bool) (cs : List HV) : HV.kill p (.agg cs) = .agg (cs.map (HV.kill p)) := by rw [HV.kill]
theorem hkill_tup (p : Nat → Bool) (cs : List HV) : HV.kill p (.tup cs) = .tup (cs.map (HV.kill p)) := by rw [HV.kill]
theorem hren_own (m : Nat → Option Nat) (i : Nat) : HV.ren m (.own i) = match m i with | some j => .own j | none => .junk := by rw [HV.ren]; cases m i <;> rfl
theorem hren_ptr (m : Nat → Option Nat) (i s j k : Nat) : HV.ren m (.ptr i s j k) = match m i with | some i' => .ptr i' s j k | none => .junk := by rw [HV.ren]; cases m i <;> rfl
theorem hren_agg (m : Nat → Option Nat) (cs : List HV) : HV.ren m (.agg cs) = .agg (cs.map (HV.ren m)) := by rw [HV.ren]
theorem hren_tup (m : Nat → Option Nat) (cs : List HV) : HV.ren m (.tup cs) = .tup (cs.map (HV.ren m)) := by rw [HV.ren]
theorem hsub_own (id : Nat) (x0 : HV) (i : Nat) : HV.sub id x0 (.own i) = if i = id then x0 else .own i := by rw [HV.sub]
theorem hsub_ptr (id : Nat) (x0 : HV) (i s j k : Nat) : HV.sub id x0 (.ptr i s j k) = if i = id then .junk else .ptr i s j k := by rw [HV.sub]
theorem hsub_agg (id : Nat) (x0 : HV) (cs : List HV) : HV.sub id x0 (.agg cs) = .agg (cs.map (HV.sub id x0)) := by rw [HV.sub]
theorem hsub_tup (id : Nat) (x0 : HV) (cs : List HV) : HV.sub id x0 (.tup cs) = .tup (cs.map (HV.sub id x0)) := by rw [HV.sub]
theorem rren_sl (m : Nat → Option Nat) (nw : Bool) (t s : Nat) (xs : List (List FV)) : (Row.sl nw t s xs).ren m = .sl nw t s xs := nr rfl
theorem rren_hl (m : Nat → Option Nat) (nw : Bool) (t s : Nat) (xs : List (List HV)) : (Row.hl nw t s xs).ren m = .hl nw t s (xs.map (List.map (HV.ren m))) := nr rfl
theorem rren_bx (m : Nat → Option Nat) (nw : Bool) (t : Nat) (cs : List HV) : (Row.bx nw t cs).ren m = .bx nw t (cs.map (HV.ren m)) := nr rfl
theorem rsub_sl (id : Nat) (x0 : HV) (nw : Bool) (t s : Nat) (xs : List (List FV)) : (Row.sl nw t s xs).sub id x0 = .sl nw t s xs := nr rfl
theorem rsub_hl (id : Nat) (x0 : HV) (nw : Bool) (t s : Nat) (xs : List (List HV)) : (Row.hl nw t s xs).sub id x0 = .hl nw t s (xs.map (List.map (HV.sub id x0))) := nr rfl
theorem rsub_bx (id : Nat) (x0 : HV) (nw : Bool) (t : Nat) (cs : List HV) : (Row.bx nw t cs).sub id x0 = .bx nw t (cs.map (HV.sub id x0)) := nr rfl
theorem only_eq (id i : Nat) : only id i = (i == id) := nr rfl
theorem eight_eq (n i : Nat) : eight n i = (decide (n ≤ i) && decide (i < n + 8)) := by rw [Bool.eq_iff_iff]; simp [eight]
theorem sh_eq (n i : Nat) : sh n i = bif decide (i < 8) then some (n + i) else none := by unfold sh; congr 1; rw [Bool.eq_iff_iff]; simp
theorem adds_eq (e : HEnv) (s : Store) (n : Nat) (st : Store) : HS.adds ⟨e, s⟩ n st = ⟨ekill (eight n) e, radds n st (skill (eight n) s)⟩ := nr rfl
theorem radds_nil (n : Nat) (b : Store) : radds n [] b = b := nr rfl
theorem radds_cons (n k : Nat) (r : Row) (t b : Store) : radds n ((k, r) :: t) b = (n + k, r.ren (sh n)) :: radds n t b := nr rfl
theorem rest_eq (e : HEnv) (s : Store) (id : Nat) (x : HV) : HS.rest ⟨e, s⟩ id x = ⟨esub id x e, ssub id x s⟩ := nr rfl
theorem esub_nil (id : Nat) (x : HV) : esub id x [] = [] := nr rfl
theorem esub_cons (id : Nat) (x : HV) (k : Nat) (h : HV) (r : HEnv) : esub id x ((k, h) :: r) = (k, HV.sub id x h) :: esub id x r := nr rfl
theorem ssub_nil (id : Nat) (x : HV) : ssub id x [] = [] := nr rfl
theorem ssub_cons (id : Nat) (x : HV) (k : Nat) (h : Row) (r : Store) : ssub id x ((k, h) :: r) = if k = id then ssub id x r else (k, h.sub id x) :: ssub id x r := nr rfl
theorem sset_nil (id : Nat) (r : Row) : sset id r [] = [] := nr rfl
theorem sset_cons (id : Nat) (r : Row) (k : Nat) (s : Row) (t : Store) : sset id r ((k, s) :: t) = if k = id then (k, r) :: t else (k, s) :: sset id r t := nr rfl
theorem hG_none (l : HEnv) (ds : List (Option Nat)) : hG l ds none = .yes := nr rfl
theorem hG_some (l : HEnv) (ds : List (Option Nat)) (j : Nat) (want : Bool) : hG l ds (some (j, want)) = match ds[j]? with | some (some d) => hGv d want (hlk l d) | _ => .bad := nr rfl
theorem hGv_bool (d : Nat) (want b : Bool) : hGv d want (some (.v (.bool b))) = .ask d b want := nr rfl
theorem hGv_tup (d : Nat) (want : Bool) (vs : Array Value) : hGv d want (some (.v (.tuple vs))) = .no := nr rfl
theorem hgo_go (P : Program) (d : Option Nat) (S : HS) (K : HS → Prop) (c : Prop) (h : HV) (S' : HS) : HGoOut P d S K (.go c h S') = (c ∧ K (S'.set d h)) := nr rfl
theorem hgo_call (P : Program) (d : Option Nat) (S : HS) (K : HS → Prop) (f : FuncId) (args : List HV) : HGoOut P d S K (.call f args) = HAt P f args S (fun h S' => HStop K (S'.set d h)) := nr rfl
theorem hgo_eqn (P : Program) (d : Option Nat) (S : HS) (K : HS → Prop) (t : TypeId) (x y : List Value) (neg : Bool) : HGoOut P d S K (.eqn t x y neg) = ∃ r, EqR P t x.toArray y.toArray r ∧ HStop K (S.set d (.v (.bool (neg ^^ r)))) := nr rfl
theorem hgo_bytes (P : Program) (d : Option Nat) (S : HS) (K : HS → Prop) (ok : Bool) (s : ByteArray) : HGoOut P d S K (.bytes ok s) = (Cond (ok = true ∧ s.size ≤ 9223372036854775807) ∧ K (S.set d (.lst true (byteE s)))) := nr rfl
theorem hgo_eq (P : Program) (N : Nat) (o : Oper) (S : HS) (K : HS → Prop) : HGo P N o S K = HGo1 P N o (hpre S o.op) K := nr rfl
theorem hgo1_eq (P : Program) (N : Nat) (o : Oper) (S : HS) (K : HS → Prop) : HGo1 P N o S K = match dstOk N o.dst with | true => HGoOut P o.dst S K (hop P S (idOf o.dst) o.op) | false => False := nr rfl
theorem hpre_move (S : HS) (x : Operand) : hpre S (.move x) = S := nr rfl
theorem hpre_assign (S : HS) (x : Operand) : hpre S (.assign x) = S := nr rfl
theorem hpre_pick (S : HS) (c a b : Operand) : hpre S (.pick c a b) = S := nr rfl
theorem hpre_extract (S : HS) (x : Operand) (i : Nat) : hpre S (.extract x i) = S := nr rfl
theorem hpre_field (S : HS) (t : TypeId) (x : Operand) (f : Nat) : hpre S (.field t x f) = S := nr rfl
theorem hpre_faddr (S : HS) (t : TypeId) (x : Operand) (f : Nat) : hpre S (.fieldAddr t x f) = S := nr rfl
theorem hpre_nilc (S : HS) (x : Operand) : hpre S (.nilCheck x) = S := nr rfl
theorem hpre_iaddr (S : HS) (t : TypeId) (x i : Operand) : hpre S (.indexAddr t x i) = S := nr rfl
theorem hpre_slice (S : HS) (t : TypeId) (x : Operand) (l h m : Option Operand) : hpre S (.slice t x l h m) = S := nr rfl
theorem hpre_load (S : HS) (t : TypeId) (x : Operand) : hpre S (.load t x) = S := nr rfl
theorem hpre_build (S : HS) (t : TypeId) (ps : Array (Nat × Operand)) : hpre S (.build t ps) = S := nr rfl
theorem hpre_bin (S : HS) (b : BinOp) (t : TypeId) (x y : Operand) (u : TypeId) : hpre S (.binOp b t x y u) = S := nr rfl
theorem hpre_un (S : HS) (u : UnOp) (t : TypeId) (x : Operand) : hpre S (.unOp u t x) = S := nr rfl
theorem hpre_conv (S : HS) (s d : TypeId) (x : Operand) : hpre S (.convert s d x) = S := nr rfl
theorem hpre_index (S : HS) (t : TypeId) (x i : Operand) : hpre S (.index t x i) = S := nr rfl
theorem hpre_call (S : HS) (c : Call) : hpre S (.call c) = S := nr rfl
theorem hpre_alloc (S : HS) (t : TypeId) : hpre S (.alloc t) = S := nr rfl
theorem hpre_box (S : HS) (t : TypeId) (x : Operand) : hpre S (.box t x) = S := nr rfl
theorem hpre_make (S : HS) (t : TypeId) (x y : Operand) : hpre S (.makeSlice t x y) = S := nr rfl
theorem hpre_store (S : HS) (t : TypeId) (x y : Operand) : hpre S (.store t x y) = restAll S (ownsS S (hev S.env x) (hev S.env y)) := nr rfl
theorem hpre_buildS (S : HS) (t n : TypeId) (ps : Array (Nat × Operand)) : hpre S (.buildSlice t n ps) = restAll S (ownsP (partsH S.env ps.toList)) := nr rfl
theorem ownsS_eq (S : HS) (id sz i k : Nat) (h : HV) : ownsS S (some (.ptr id sz i k)) (some h) = ownsR S h (rlk S.st id) := nr rfl
theorem ownsR_sl (S : HS) (h : HV) (nw : Bool) (ty s : Nat) (els : List (List FV)) : ownsR S h (some (.sl nw ty s els)) = ownIds h := nr rfl
theorem ownsR_bx (S : HS) (h : HV) (nw : Bool) (ty : Nat) (cs : List HV) : ownsR S h (some (.bx nw ty cs)) = [] := nr rfl
theorem ownsP_eq (ps : List (Nat × HV)) : ownsP (some ps) = ps.flatMap fun p => ownIds p.2 := nr rfl
theorem ownIds_own (i : Nat) : ownIds (.own i) = [i] := nr rfl
theorem ownIds_v (x : Value) : ownIds (.v x) = [] := nr rfl
theorem ownIds_lst (fr : Bool) (xs : List (List FV)) : ownIds (.lst fr xs) = [] := nr rfl
theorem ownIds_agg (cs : List HV) : ownIds (.agg cs) = cs.flatMap ownCell := nr rfl
theorem ownCell_own (i : Nat) : ownCell (.own i) = [i] := nr rfl
theorem ownCell_v (x : Value) : ownCell (.v x) = [] := nr rfl
theorem ownCell_lst (fr : Bool) (xs : List (List FV)) : ownCell (.lst fr xs) = [] := nr rfl
theorem restAll_nil (S : HS) : restAll S [] = S := nr rfl
theorem restAll_cons (S : HS) (i : Nat) (r : List Nat) : restAll S (i :: r) = restAll (restOne S i) r := nr rfl
theorem restOne_eq (e : HEnv) (s : Store) (i : Nat) : restOne ⟨e, s⟩ i = match decide (i < 1000000) with | true => (match rlk s i with | some (.sl nw _ _ els) => HS.rest ⟨e, s⟩ i (.lst nw els) | _ => ⟨e, s⟩) | false => ⟨e, s⟩ := by unfold restOne; rw [show Nat.blt i held = decide (i < 1000000) by rw [Bool.eq_iff_iff]; simp [Nat.blt_eq, held]]; rfl
theorem ownsR_hl (S : HS) (h : HV) (nw : Bool) (ty s : Nat) (els : List (List HV)) : ownsR S h (some (.hl nw ty s els)) = [] := nr rfl
theorem hskip_eq (N : Nat) (d : Option Nat) (S : HS) (K : HS → Prop) : HSkip N d S K = match dstOk N d with | true => K (S.set d (.v undef)) | false => False := nr rfl
theorem hstep_yes (P : Program) (N : Nat) (o : Oper) (S : HS) (K : HS → Prop) : HStep P N o S K .yes = HGo P N o S K := nr rfl
theorem hstep_no (P : Program) (N : Nat) (o : Oper) (S : HS) (K : HS → Prop) : HStep P N o S K .no = HSkip N o.dst S K := nr rfl
theorem hstep_ask (P : Program) (N : Nat) (o : Oper) (S : HS) (K : HS → Prop) (d : Nat) (b want : Bool) : HStep P N o S K (.ask d b want) = match b == want with | true => HGo P N o (S.rep d (.v (.bool want))) K | false => HSkip N o.dst (S.rep d (.v (.bool (!want)))) K := nr rfl
theorem hv2_nil (P : Program) (N : Nat) (ds : List (Option Nat)) (K : HS → Prop) (S : HS) : HV2 P N ds K [] S = K S := nr rfl
theorem hv2_cons (P : Program) (N : Nat) (ds : List (Option Nat)) (K : HS → Prop) (o : Oper) (rest : List Oper) (S : HS) : HV2 P N ds K (o :: rest) S = HStep P N o S (HV2 P N ds K rest) (hG S.env ds o.guard) := nr rfl
theorem hgoq_go (P : Program) (o : Oper) (S : HS) (K : HS → Prop) (c : Prop) (h : HV) (S' : HS) : HGoQOut P o S K (.go c h S') = (quiet o.op = true ∧ c ∧ K (S.set o.dst h)) := nr rfl
theorem hgoq_call (P : Program) (o : Oper) (S : HS) (K : HS → Prop) (f : FuncId) (args : List HV) : HGoQOut P o S K (.call f args) = HAtQ P f args S (fun x => HStop K (S.set o.dst (.v x))) := nr rfl
theorem hgoq_eqn (P : Program) (o : Oper) (S : HS) (K : HS → Prop) (t : TypeId) (x y : List Value) (neg : Bool) : HGoQOut P o S K (.eqn t x y neg) = ∃ r, EqR P t x.toArray y.toArray r ∧ HStop K (S.set o.dst (.v (.bool (neg ^^ r)))) := nr rfl
theorem hgoq_eq (P : Program) (N : Nat) (o : Oper) (S : HS) (K : HS → Prop) : HGoQ P N o S K = match dstOk N o.dst with | true => HGoQOut P o S K (hop P S (idOf o.dst) o.op) | false => False := nr rfl
theorem hstepq_yes (P : Program) (N : Nat) (o : Oper) (S : HS) (K : HS → Prop) : HStepQ P N o S K .yes = HGoQ P N o S K := nr rfl
theorem hstepq_no (P : Program) (N : Nat) (o : Oper) (S : HS) (K : HS → Prop) : HStepQ P N o S K .no = HSkip N o.dst S K := nr rfl
theorem hstepq_ask (P : Program) (N : Nat) (o : Oper) (S : HS) (K : HS → Prop) (d : Nat) (b want : Bool) : HStepQ P N o S K (.ask d b want) = match b == want with | true => HGoQ P N o (S.rep d (.v (.bool want))) K | false => HSkip N o.dst (S.rep d (.v (.bool (!want)))) K := nr rfl
theorem hvq_nil (P : Program) (N : Nat) (ds : List (Option Nat)) (K : HS → Prop) (S : HS) : HVq P N ds K [] S = K S := nr rfl
theorem hvq_cons (P : Program) (N : Nat) (ds : List (Option Nat)) (K : HS → Prop) (o : Oper) (rest : List Oper) (S : HS) : HVq P N ds K (o :: rest) S = HStepQ P N o S (HVq P N ds K rest) (hG S.env ds o.guard) := nr rfl
theorem slotX_tmp (t : Nat) : slotX (.tmp t) = [t] := nr rfl
theorem slotX_const (v : Value) : slotX (.const v) = [] := nr rfl
theorem slotX_global (g : Nat) : slotX (.global g) = [] := nr rfl
theorem slotX_func (f : FuncId) : slotX (.func f) = [] := nr rfl
theorem slotsL_nil  : slotsL [] = [] := nr rfl
theorem slotsL_cons (x : Operand) (r : List Operand) : slotsL (x :: r) = slotX x ++ slotsL r := nr rfl
theorem slotsP_nil  : slotsP [] = [] := nr rfl
theorem slotsP_cons (k : Nat) (x : Operand) (r : List (Nat × Operand)) : slotsP ((k, x) :: r) = slotX x ++ slotsP r := nr rfl
theorem slotO_some (x : Operand) : slotO (some x) = slotX x := nr rfl
theorem slotO_none  : slotO none = [] := nr rfl
theorem slotsOf_move (x : Operand) : slotsOf (.move x) = slotX x := nr rfl
theorem slotsOf_assign (x : Operand) : slotsOf (.assign x) = slotX x := nr rfl
theorem slotsOf_nilc (x : Operand) : slotsOf (.nilCheck x) = slotX x := nr rfl
theorem slotsOf_pick (c a b : Operand) : slotsOf (.pick c a b) = slotX c ++ (slotX a ++ slotX b) := nr rfl
theorem slotsOf_extract (x : Operand) (i : Nat) : slotsOf (.extract x i) = slotX x := nr rfl
theorem slotsOf_field (t : TypeId) (x : Operand) (f : Nat) : slotsOf (.field t x f) = slotX x := nr rfl
theorem slotsOf_faddr (t : TypeId) (x : Operand) (f : Nat) : slotsOf (.fieldAddr t x f) = slotX x := nr rfl
theorem slotsOf_load (t : TypeId) (x : Operand) : slotsOf (.load t x) = slotX x := nr rfl
theorem slotsOf_un (u : UnOp) (t : TypeId) (x : Operand) : slotsOf (.unOp u t x) = slotX x := nr rfl
theorem slotsOf_conv (s d : TypeId) (x : Operand) : slotsOf (.convert s d x) = slotX x := nr rfl
theorem slotsOf_iaddr (t : TypeId) (x i : Operand) : slotsOf (.indexAddr t x i) = slotX x ++ slotX i := nr rfl
theorem slotsOf_index (t : TypeId) (x i : Operand) : slotsOf (.index t x i) = slotX x ++ slotX i := nr rfl
theorem slotsOf_slice (t : TypeId) (x : Operand) (l h : Option Operand) : slotsOf (.slice t x l h none) = slotX x ++ (slotO l ++ slotO h) := nr rfl
theorem slotsOf_bin (b : BinOp) (t : TypeId) (x y : Operand) (u : TypeId) : slotsOf (.binOp b t x y u) = slotX x ++ slotX y := nr rfl
theorem slotsOf_build (t : TypeId) (ps : Array (Nat × Operand)) : slotsOf (.build t ps) = slotsP ps.toList := nr rfl
theorem slotsOf_buildS (t : TypeId) (n : Nat) (ps : Array (Nat × Operand)) : slotsOf (.buildSlice t n ps) = slotsP ps.toList := nr rfl
theorem slotsOf_makeS (t : TypeId) (x y : Operand) : slotsOf (.makeSlice t x y) = slotX x ++ slotX y := nr rfl
theorem slotsOf_call (k : Callee) (args : Array Operand) (ats : Array TypeId) : slotsOf (.call ⟨k, args, ats⟩) = slotsL args.toList := nr rfl
theorem slotG_none (ds : List (Option Nat)) : slotG ds none = [] := nr rfl
theorem slotG_some (ds : List (Option Nat)) (g : Nat) (b : Bool) : slotG ds (some (g, b)) = match ds[g]? with | some (some d) => [d] | _ => [] := nr rfl
theorem pickE_nil (e : HEnv) : pickE e [] = [] := nr rfl
theorem pickE_cons (e : HEnv) (t : Nat) (r : List Nat) : pickE e (t :: r) = match hlk e t with | some h => (t, h) :: pickE e r | none => pickE e r := nr rfl
theorem plainE_nil  : plainE [] = true := nr rfl
theorem plainE_v (k : Nat) (v : Value) (r : HEnv) : plainE ((k, .v v) :: r) = plainE r := nr rfl
theorem plainE_lst (k : Nat) (b : Bool) (xs : List (List FV)) (r : HEnv) : plainE ((k, .lst b xs) :: r) = plainE r := nr rfl
theorem plainE_agg (k : Nat) (hs : List HV) (r : HEnv) : plainE ((k, .agg hs) :: r) = plainE r := nr rfl
theorem hmade_eq (d : Option Nat) (S : HS) (K : HS → Prop) (c : Prop) (i : Nat) (S' : HS) : HMade d S K (.go c (.own i) S') = match rlk S'.st i with | some (.sl _ _ _ els) => c ∧ K (S.set d (.lst true els)) | _ => False := nr rfl
theorem made_buildS (t : TypeId) (n : Nat) (ps : Array (Nat × Operand)) : made (.buildSlice t n ps) = true := nr rfl
theorem made_makeS (t : TypeId) (x y : Operand) : made (.makeSlice t x y) = true := nr rfl
theorem quiet_buildS (t : TypeId) (n : Nat) (ps : Array (Nat × Operand)) : quiet (.buildSlice t n ps) = false := nr rfl
theorem quiet_makeS (t : TypeId) (x y : Operand) : quiet (.makeSlice t x y) = false := nr rfl
theorem hgor_go (P : Program) (o : Oper) (S T : HS) (K : HS → Prop) (c : Prop) (h : HV) (S' : HS) : HGoROut P o S T K (.go c h S') = match quiet o.op with | true => c ∧ K (S.set o.dst h) | false => (match made o.op && plainE T.env with | true => HMade o.dst S K (hop P ⟨T.env, []⟩ (idOf o.dst) o.op) | false => False) := nr rfl
theorem hgor_call (P : Program) (o : Oper) (S T : HS) (K : HS → Prop) (f : FuncId) (args : List HV) : HGoROut P o S T K (.call f args) = HAtR P f args T (fun x => HStop K (S.set o.dst x)) := nr rfl
theorem hgor_eqn (P : Program) (o : Oper) (S T : HS) (K : HS → Prop) (t : TypeId) (x y : List Value) (neg : Bool) : HGoROut P o S T K (.eqn t x y neg) = ∃ r, EqR P t x.toArray y.toArray r ∧ HStop K (S.set o.dst (.v (.bool (neg ^^ r)))) := nr rfl
theorem hgor_eq (P : Program) (N : Nat) (o : Oper) (S T : HS) (K : HS → Prop) : HGoR P N o S T K = match dstOk N o.dst with | true => HGoROut P o S T K (hop P T (idOf o.dst) o.op) | false => False := nr rfl
theorem hstepr_yes (P : Program) (N : Nat) (o : Oper) (S T : HS) (K : HS → Prop) : HStepR P N o S T K .yes = HGoR P N o S T K := nr rfl
theorem hstepr_no (P : Program) (N : Nat) (o : Oper) (S T : HS) (K : HS → Prop) : HStepR P N o S T K .no = HSkip N o.dst S K := nr rfl
theorem hstepr_ask (P : Program) (N : Nat) (o : Oper) (S T : HS) (K : HS → Prop) (d : Nat) (b want : Bool) : HStepR P N o S T K (.ask d b want) = match b == want with | true => HGoR P N o (S.rep d (.v (.bool want))) (T.rep d (.v (.bool want))) K | false => HSkip N o.dst (S.rep d (.v (.bool (!want)))) K := nr rfl
theorem hvr_nil (P : Program) (N : Nat) (ds : List (Option Nat)) (K : HS → Prop) (S : HS) : HVr P N ds K [] S = K S := nr rfl
theorem hvr_cons (P : Program) (N : Nat) (ds : List (Option Nat)) (K : HS → Prop) (o : Oper) (rest : List Oper) (S : HS) : HVr P N ds K (o :: rest) S = HStepR P N o S ⟨pickE S.env (slotG ds o.guard ++ slotsOf o.op), S.st⟩ (HVr P N ds K rest) (hG (pickE S.env (slotG ds o.guard ++ slotsOf o.op)) ds o.guard) := nr rfl
theorem idOf_some (k : Nat) : idOf (some k) = 8 * k := nr rfl
theorem idOf_none  : idOf none = 0 := nr rfl
theorem quiet_move (x : Operand) : quiet (.move x) = true := nr rfl
theorem quiet_assign (x : Operand) : quiet (.assign x) = true := nr rfl
theorem quiet_pick (c a b : Operand) : quiet (.pick c a b) = true := nr rfl
theorem quiet_extract (x : Operand) (i : Nat) : quiet (.extract x i) = true := nr rfl
theorem quiet_field (t : TypeId) (x : Operand) (f : Nat) : quiet (.field t x f) = true := nr rfl
theorem quiet_faddr (t : TypeId) (x : Operand) (f : Nat) : quiet (.fieldAddr t x f) = true := nr rfl
theorem quiet_nilc (x : Operand) : quiet (.nilCheck x) = true := nr rfl
theorem quiet_iaddr (t : TypeId) (x i : Operand) : quiet (.indexAddr t x i) = true := nr rfl
theorem quiet_slice (t : TypeId) (x : Operand) (l h m : Option Operand) : quiet (.slice t x l h m) = true := nr rfl
theorem quiet_load (t : TypeId) (x : Operand) : quiet (.load t x) = true := nr rfl
theorem quiet_build (t : TypeId) (ps : Array (Nat × Operand)) : quiet (.build t ps) = true := nr rfl
theorem quiet_bin (b : BinOp) (t : TypeId) (x y : Operand) (u : TypeId) : quiet (.binOp b t x y u) = true := nr rfl
theorem quiet_un (u : UnOp) (t : TypeId) (x : Operand) : quiet (.unOp u t x) = true := nr rfl
theorem quiet_conv (s d : TypeId) (x : Operand) : quiet (.convert s d x) = true := nr rfl
theorem quiet_index (t : TypeId) (x i : Operand) : quiet (.index t x i) = true := nr rfl
theorem quiet_len (args : Array Operand) (ats : Array TypeId) : quiet (.call ⟨.builtin .len, args, ats⟩) = true := nr rfl
theorem quiet_min (args : Array Operand) (ats : Array TypeId) : quiet (.call ⟨.builtin .min, args, ats⟩) = true := nr rfl
theorem argsH_nil (k : Nat) : argsH k [] = [] := nr rfl
theorem argsH_cons (k : Nat) (v : HV) (r : List HV) : argsH k (v :: r) = (k, v) :: argsH (k + 1) r := nr rfl
theorem qZ (e : HEnv) (s : Store) (ks ids : List Nat) : HS.keep ⟨e, s⟩ ks ids = ⟨hkeep ks e, rkeep ids s⟩ := nr rfl
theorem qR (l : HEnv) : hkeep [] l = [] := nr rfl
theorem qP (k : Nat) (r : List Nat) (l : HEnv) : hkeep (k :: r) l = match hlk l k with | some v => (k, v) :: hkeep r l | none => hkeep r l := nr rfl
theorem qQ (l : Store) : rkeep [] l = [] := nr rfl
theorem qN (k : Nat) (r : List Nat) (l : Store) : rkeep (k :: r) l = match rlk l k with | some v => (k, v) :: rkeep r l | none => rkeep r l := nr rfl
theorem zA (P : Program) (rs : List ResultVar) (Q : HV → Store → Prop) (S : HS) : hfunQ P rs Q .normal S = resH P S rs fun hs => HRes S (htup hs) Q := nr rfl
theorem zM (P : Program) (rs : List ResultVar) (Q : HV → Store → Prop) (S : HS) : hfunQ P rs Q .ret S = resH P S rs fun hs => HRes S (htup hs) Q := nr rfl
theorem zH (P : Program) (S : HS) (K : List HV → Prop) : resH P S [] K = K [] := nr rfl
theorem zE (P : Program) (S : HS) (t : Nat) (r : List ResultVar) (K : List HV → Prop) : resH P S (.tmp t :: r) K = match hlk S.env t with | some h => resH P S r fun hs => K (h :: hs) | none => False := nr rfl
theorem zK (h : HV) : htup [h] = h := nr rfl
theorem zJ (a b : HV) (r : List HV) : htup (a :: b :: r) = .tup (a :: b :: r) := nr rfl
theorem pos_nil (i : Nat) : pos [] i = none := nr rfl
theorem zF (k : Nat) (r : List Nat) (i : Nat) : pos (k :: r) i = if k = i then some 0 else (pos r i).map (· + 1) := nr rfl
theorem rpick_nil (m : Nat → Option Nat) (st : Store) (k : Nat) : rpick m st k [] = [] := nr rfl
theorem zG (m : Nat → Option Nat) (st : Store) (k id : Nat) (r : List Nat) : rpick m st k (id :: r) = match rlk st id with | some row => (k, row.ren m) :: rpick m st (k + 1) r | none => rpick m st (k + 1) r := nr rfl
theorem cond_true' {p : Prop} (h : p) : Cond p = True := eq_true h
theorem cond_triv : Cond True = True := rfl
theorem ltT {a b : Int} (h : a < b) : decide (a < b) = true := decide_eq_true h
theorem ltF {a b : Int} (h : b ≤ a) : decide (a < b) = false := decide_eq_false (by omega)
theorem leT {a b : Int} (h : a ≤ b) : decide (a ≤ b) = true := decide_eq_true h
theorem leF {a b : Int} (h : b < a) : decide (a ≤ b) = false := decide_eq_false (by omega)
theorem eqT {a b : Int} (h : a = b) : decide (a = b) = true := decide_eq_true h
theorem eqF {a b : Int} (h : a < b ∨ b < a) : decide (a = b) = false := decide_eq_false (by omega)
theorem getD_in {α : Type} {l : List α} {i : Nat} {d : α} (h : i < l.length) : l.getD i d = l[i] := getD_lt h
theorem getD_map {α β : Type} {f : α → β} {l : List α} {i : Nat} {d : β} (h : i < l.length) : (l.map f).getD i d = f (l[i]) := by rw [getD_in (by simpa using h), List.getElem_map]
theorem fv_default : (default : FV) = .v (.bool false) := rfl
theorem wr64 {x : Int} (h1 : -9223372036854775808 ≤ x) (h2 : x ≤ 9223372036854775807) : IntKind.i64.wrap x = x := wrapI ⟨by unfold lo64; exact h1, by unfold hi64; exact h2⟩
theorem HW_le {P : Program} {N : Nat} {x : Code} {Q : HPost} {S : HS} (k : Nat) {fr : Bool} {xs : List (List FV)} (hk : hlk S.env k = some (.lst fr xs)) (h : xs.length ≤ 9223372036854775807 → HW P N x Q S) : HW P N x Q S := fun c l w I => by
 refine h ?_ c l w I
 obtain ⟨ρ, ys, G⟩ := I
 obtain ⟨v, -, h2⟩ := G.env k _ hk
 have h3 := repH_lst h2
 cases h3 with
 | lst sz vals hn hc hm hnil hsz ha h1 hr => simp only [maxLen] at hm; omega
theorem toNat_succ (n : Nat) : ((n : Int) + 1).toNat = n + 1 := by omega
theorem toNat_add (n m : Nat) : ((n : Int) + (m : Int)).toNat = n + m := by omega
theorem wid_map {α : Type} {f : α → List FV} {sz : Nat} (l : List α) (h : ∀ a, (f a).length = sz) : Wid sz (l.map f) := fun x hx => by
 obtain ⟨a, -, rfl⟩ := List.mem_map.1 hx; exact h a
end Go.Eng
end

section
set_option linter.unusedSimpArgs false
set_option linter.unusedVariables false
namespace Go.Eng
open Go Go.RowKit
def strE (s : ByteArray) : List FV := [.v (.string s)]
def strs (a : List ByteArray) : List (List FV) := a.map strE
def intE (n : Int) : List FV := [.v (.int .i64 n)]
def ints (a : List Int) : List (List FV) := a.map intE
def int2E (r : Int × Int) : List FV := [.v (.int .i64 r.1), .v (.int .i64 r.2)]
def int2s (a : List (Int × Int)) : List (List FV) := a.map int2E
theorem strs_len (a : List ByteArray) : (strs a).length = a.length := by simp [strs]
theorem ints_len (a : List Int) : (ints a).length = a.length := by simp [ints]
theorem int2s_len (a : List (Int × Int)) : (int2s a).length = a.length := by simp [int2s]
theorem strs_wid (a : List ByteArray) : Wid 1 (strs a) = True := eq_true (wid_map a fun _ => rfl)
theorem ints_wid (a : List Int) : Wid 1 (ints a) = True := eq_true (wid_map a fun _ => rfl)
theorem int2s_wid (a : List (Int × Int)) : Wid 2 (int2s a) = True := eq_true (wid_map a fun _ => rfl)
theorem strs_get {a : List ByteArray} {i : Nat} {d : List FV} (h : i < a.length) : (strs a).getD i d = [.v (.string a[i])] := by unfold strs; rw [getD_map h]; rfl
theorem ints_get {a : List Int} {i : Nat} {d : List FV} (h : i < a.length) : (ints a).getD i d = [.v (.int .i64 a[i])] := by unfold ints; rw [getD_map h]; rfl
theorem int2s_get {a : List (Int × Int)} {i : Nat} {d : List FV} (h : i < a.length) : (int2s a).getD i d = [.v (.int .i64 a[i].1), .v (.int .i64 a[i].2)] := by unfold int2s; rw [getD_map h]; rfl
theorem strs_old (a : List ByteArray) : olds (strs a) = strs a := by
 unfold olds strs; rw [List.map_map]; apply List.map_congr_left; intro s _; simp [strE, FV.old]
theorem ints_old (a : List Int) : olds (ints a) = ints a := by
 unfold olds ints; rw [List.map_map]; apply List.map_congr_left; intro s _; simp [intE, FV.old]
theorem strs_fresh (a : List ByteArray) : ∀ x ∈ strs a, ∀ f ∈ x, FreshF f := fun x hx f hf => by
 obtain ⟨s, -, rfl⟩ := List.mem_map.1 hx; simp [strE] at hf; subst hf; exact .v _
theorem ints_fresh (a : List Int) : ∀ x ∈ ints a, ∀ f ∈ x, FreshF f := fun x hx f hf => by
 obtain ⟨s, -, rfl⟩ := List.mem_map.1 hx; simp [intE] at hf; subst hf; exact .v _
theorem int2s_fresh (a : List (Int × Int)) : ∀ x ∈ int2s a, ∀ f ∈ x, FreshF f := fun x hx f hf => by
 obtain ⟨s, -, rfl⟩ := List.mem_map.1 hx; simp [int2E] at hf; rcases hf with rfl | rfl <;> exact .v _
theorem strs_snoc (a : List ByteArray) (s : ByteArray) : strs a ++ [[.v (.string s)]] = strs (a ++ [s]) := by simp [strs, strE]
theorem ints_snoc (a : List Int) (s : Int) : ints a ++ [[.v (.int .i64 s)]] = ints (a ++ [s]) := by simp [ints, intE]
theorem int2s_snoc (a : List (Int × Int)) (x y : Int) : int2s a ++ [[.v (.int .i64 x), .v (.int .i64 y)]] = int2s (a ++ [(x, y)]) := by simp [int2s, int2E]
theorem strs_app (a b : List ByteArray) : strs a ++ strs b = strs (a ++ b) := by simp [strs]
theorem strs_take (a : List ByteArray) (n : Nat) : (strs a).take n = strs (a.take n) := by simp [strs, List.map_take]
theorem strs_drop (a : List ByteArray) (n : Nat) : (strs a).drop n = strs (a.drop n) := by simp [strs, List.map_drop]
theorem HW_own {P : Program} {N : Nat} {x : Code} {Q : HPost} {S : HS} (k id ty sz : Nat) (hk : hlk S.env k = some (.v (.slice none 0 0))) (h : HW P N x Q (((S.kill (only id)).row id (.sl true ty sz [])).rep k (.own id))) : HW P N x Q S := fun c l w I => by
 refine h c l w ?_
 obtain ⟨ρ, xs, G⟩ := I
 have G2 := G.new id (.sl true ty sz []) [] (.slice none 0 0) (w' := w) (Below.refl _ _) (fun b hb => by cases hb) (fun _ _ =>
  ⟨by rw [zN]; exact World.ownsRow_nil w 0 ty sz, ⟨by simp, fun i k hi => absurd hi (by simp)⟩, fun b hb => by rw [zN] at hb; cases hb⟩)
 refine ⟨_, _, G2.rows, G2.apart, fun j y hj => ?_, G2.kept, G2.a0⟩
 simp only [HS.rep, hlk_hrep] at hj
 by_cases e : j = k
 ·subst e
  rw [if_pos rfl] at hj
  have h1 : hlk ((S.kill (only id)).row id (.sl true ty sz [])).env j = some (.v (.slice none 0 0)) := by
   show hlk (ekill (only id) S.env) j = _
   rw [hlk_ekill, hk]; simp [HV.kill]
  rw [h1] at hj
  simp only [Option.map_some, Option.some.injEq] at hj
  subst hj
  obtain ⟨v, a, b⟩ := G2.env j _ h1
  have := repH_v b
  subst this
  refine ⟨_, a, ?_⟩
  have := RepH.own (w := w) (A := c.A (setR ρ id (.slice none 0 0)) (((S.kill (only id)).row id (.sl true ty sz [])).rep j (.own id)).st) (n0 := c.n0) (ρ := setR ρ id (.slice none 0 0)) id (by rw [zN]; rfl)
  rw [zN] at this
  exact this
 ·rw [if_neg e] at hj
  exact G2.env j y hj
theorem hfun_low {P : Program} {f : FuncId} {args : List HV} {x : Value} (h : ∀ (w : World) (vs : List Value), Reps w (fun _ => False) w.heap.size (fun _ => undef) vs args → Calls P f vs.toArray w (Ret fun r w' => r = x ∧ Below w.heap.size w w')) : HFun P f args (fun h st => h = .v x ∧ st = []) := fun w vs R =>
 Ret.mono (h w vs R) fun v w' ⟨hv, B⟩ => ⟨B, .v x, [], fun i r hi => by simp [rlk] at hi, ⟨rfl, rfl⟩, fun _ => undef, fun _ => [], ⟨fun id r hr => by simp [rlk] at hr, fun i j r s b hne hi => by simp [rlk] at hi, fun k x hk => by simp [hlk] at hk, ⟨B.os, B.tape, B.output, B.size, fun b hlt _ => B.block b hlt⟩, fun b hb => ⟨hb, fun h => h⟩⟩, by rw [hv]; exact .v x⟩
theorem lendL {st : Store} {fr : Bool} {xs ys : List (List FV)} (h : olds xs = ys) : Lend st (.lst fr xs) (.lst false ys) := h ▸ .lst fr xs
theorem lendO {st : Store} {id ty sz : Nat} {nw : Bool} {els ys : List (List FV)} (h : olds els = ys) (hr : rlk st id = some (.sl nw ty sz els)) : Lend st (.own id) (.lst false ys) := h ▸ .own hr
section
variable {S : HS} {Q : HV → Store → Prop}
theorem hres_v {a : Value} (q : Q (.v a) []) : HRes S (.v a) Q := ⟨[], by simp, rfl, .v _, fun id h => by simp at h, by rw [HV.ren]; exact q⟩
theorem hres_vv {a b : Value} (q : Q (.tup [.v a, .v b]) []) : HRes S (.tup [.v a, .v b]) Q :=
 ⟨[], by simp, rfl, .tup fun x hx => by simp at hx; rcases hx with rfl | rfl <;> exact .v _, fun id h => by simp at h, by rw [HV.ren]; simp only [List.map_cons, List.map_nil, HV.ren]; exact q⟩
theorem hres_vvv {a b c : Value} (q : Q (.tup [.v a, .v b, .v c]) []) : HRes S (.tup [.v a, .v b, .v c]) Q :=
 ⟨[], by simp, rfl, .tup fun x hx => by simp at hx; rcases hx with rfl | rfl | rfl <;> exact .v _, fun id h => by simp at h, by rw [HV.ren]; simp only [List.map_cons, List.map_nil, HV.ren]; exact q⟩
theorem hres_o {id ty sz : Nat} {els : List (List FV)} (hr : rlk S.st id = some (.sl true ty sz els)) (hf : ∀ x ∈ els, ∀ f ∈ x, FreshF f) (q : Q (.own 0) [(0, .sl true ty sz els)]) : HRes S (.own id) Q :=
 ⟨[id], by simp, by simp [dup], .own _, fun i h r hr' => by
  simp at h; subst h; rw [hr] at hr'; simp only [Option.some.injEq] at hr'; subst hr'; exact ⟨rfl, hf⟩, by
  rw [HV.ren]; simp only [pos, if_true, rpick, hr, Row.ren]; exact q⟩
theorem hres_ov {id ty sz : Nat} {els : List (List FV)} {b : Value} (hr : rlk S.st id = some (.sl true ty sz els)) (hf : ∀ x ∈ els, ∀ f ∈ x, FreshF f) (q : Q (.tup [.own 0, .v b]) [(0, .sl true ty sz els)]) : HRes S (.tup [.own id, .v b]) Q :=
 ⟨[id], by simp, by simp [dup], .tup fun x hx => by simp at hx; rcases hx with rfl | rfl <;> first | exact .v _ | exact .own _, fun i h r hr' => by
  simp at h; subst h; rw [hr] at hr'; simp only [Option.some.injEq] at hr'; subst hr'; exact ⟨rfl, hf⟩, by
  rw [HV.ren]; simp only [List.map_cons, List.map_nil, HV.ren, pos, if_true, rpick, hr, Row.ren]; exact q⟩
end
theorem res_own {P : Program} {w w' : World} {ty sz : Nat} {els : List (List FV)} {v : Value} {l : List Value} (B : Below w.heap.size w w') (h : Own w' w.heap.size ty sz v els.length l) (hw : ∀ x ∈ els, x.length = sz)
  (hl : ∀ i k (hi : i < els.length) (hk : k < els[i].length), ∃ u, l[i * sz + k]? = some u ∧ u.oneCell' = true ∧ els[i][k] = .v u) :
  ∃ ρ xs, Good (cx w (fun _ => False) (fun b => b < w.heap.size)) ⟨[], [(0, .sl true ty sz els)]⟩ (fun _ => none) w' ρ xs ∧ ρ 0 = v := by
 refine ⟨fun _ => v, fun _ => l, ⟨fun id r hr => ?_, fun i j r s b hne hi hj => ?_, fun k x hk => by simp [hlk] at hk, ⟨B.os, B.tape, B.output, B.size, fun b hlt _ => B.block b hlt⟩, fun b hb => ⟨hb, fun h => h⟩⟩, rfl⟩
 ·simp only [rlk] at hr
  split at hr
  ·simp only [Option.some.injEq] at hr
   subst hr
   refine ⟨⟨h.1, h.2.imp _root_.id fun ⟨g, cap, cur, a, b, d⟩ => ⟨g, cap, cur, a, Nat.zero_le _, d⟩⟩, ⟨hw, fun i k hi hk => ?_⟩, fun b hb => ⟨.inl (h.lt b hb).1, fun _ => (h.lt b hb).1⟩⟩
   obtain ⟨u, a, b, e⟩ := hl i k hi hk
   exact ⟨u, a, b, by rw [e]; exact .v u⟩
  ·cases hr
 ·simp only [rlk] at hi hj
  split at hi
  ·split at hj
   ·omega
   ·cases hj
  ·cases hi
end Go.Eng
end

section
set_option linter.unusedSimpArgs false
set_option linter.unusedVariables false
namespace Go.Eng
open Go Go.RowKit
theorem nthO_nil (j : Nat) : nthO [] j = none := nr rfl
theorem nthO_cons (k : Nat) (r : List Nat) (j : Nat) : nthO (k :: r) j = if j = 0 then some k else nthO r (j - 1) := by cases j <;> simp [nthO]
theorem sh2_eq (ids : List Nat) (n j : Nat) : sh2 ids n j = match nthO ids j with | some i => some i | none => bif decide (j < 8) then some (n + j) else none := by
 unfold sh2; split <;> rename_i h <;> rw [h]; congr 1; rw [Bool.eq_iff_iff]; simp [Nat.blt_eq]
theorem inL_nil (i : Nat) : inL [] i = false := nr rfl
theorem inL_cons (k : Nat) (r : List Nat) (i : Nat) : inL (k :: r) i = (k == i || inL r i) := nr rfl
theorem isSl_none : isSl none = true := nr rfl
theorem isSl_sl (nw : Bool) (t s : Nat) (xs : List (List FV)) : isSl (some (.sl nw t s xs)) = true := nr rfl
theorem isSl_bx (nw : Bool) (t : Nat) (cs : List HV) : isSl (some (.bx nw t cs)) = false := nr rfl
theorem isSl_hl (nw : Bool) (t s : Nat) (xs : List (List HV)) : isSl (some (.hl nw t s xs)) = true := nr rfl
theorem isBx_hl (nw : Bool) (t s : Nat) (xs : List (List HV)) : isBx (some (.hl nw t s xs)) = False := nr rfl
theorem isBx_none : isBx none = False := nr rfl
theorem isBx_sl (nw : Bool) (t s : Nat) (xs : List (List FV)) : isBx (some (.sl nw t s xs)) = False := nr rfl
theorem isBx_t (t : Nat) (cs : List HV) : isBx (some (.bx true t cs)) = False := nr rfl
theorem isBx_f (t : Nat) (cs : List HV) : isBx (some (.bx false t cs)) = True := nr rfl
theorem turned_eq (ids : List Nat) (st : Store) (n i : Nat) : turned ids st n i = (eight n i || (inL ids i && isSl (rlk st i))) := nr rfl
theorem gone_eq (ids : List Nat) (n i : Nat) : gone ids n i = (eight n i || inL ids i) := nr rfl
theorem oldRow_eq (ids : List Nat) (st : Store) (j : Nat) : oldRow ids st j = match nthO ids j with | some i => rlk st i | none => none := nr rfl
theorem dark_sl (nw : Bool) (t s : Nat) (xs : List (List FV)) : (Row.sl nw t s xs).dark = .sl nw t s xs := nr rfl
theorem dark_bx (nw : Bool) (t : Nat) (cs : List HV) : (Row.bx nw t cs).dark = .bx false t cs := nr rfl
theorem dark_hl (nw : Bool) (t s : Nat) (xs : List (List HV)) : (Row.hl nw t s xs).dark = .hl nw t s xs := nr rfl
theorem flag_hl (o : Option Row) (nw : Bool) (t s : Nat) (xs : List (List HV)) : (Row.hl nw t s xs).flag o = .hl nw t s xs := by
 cases o with
 | none => rfl
 | some o => cases o <;> rfl
theorem flag_ohl (r : Row) (nw : Bool) (t s : Nat) (xs : List (List HV)) : r.flag (some (.hl nw t s xs)) = r := by cases r <;> rfl
theorem flag_none (r : Row) : r.flag none = r := nr rfl
theorem flag_sl (o : Option Row) (nw : Bool) (t s : Nat) (xs : List (List FV)) : (Row.sl nw t s xs).flag o = .sl nw t s xs := by
 cases o with
 | none => rfl
 | some o => cases o <;> rfl
theorem flag_bx (nw n2 : Bool) (t t2 : Nat) (cs c2 : List HV) : (Row.bx n2 t2 c2).flag (some (.bx nw t cs)) = .bx nw t2 c2 := nr rfl
theorem flag_osl (r : Row) (nw : Bool) (t s : Nat) (xs : List (List FV)) : r.flag (some (.sl nw t s xs)) = r := by cases r <;> rfl
theorem dpick_nil (m : Nat → Option Nat) (st : Store) (k : Nat) : dpick m st k [] = [] := nr rfl
theorem dpick_cons (m : Nat → Option Nat) (st : Store) (k id : Nat) (r : List Nat) : dpick m st k (id :: r) = match rlk st id with | some row => (k, (row.ren m).dark) :: dpick m st (k + 1) r | none => dpick m st (k + 1) r := nr rfl
theorem swp_nil (S0 : Store) (ids : List Nat) (n : Nat) (b : Store) : swp S0 ids n [] b = b := nr rfl
theorem swp_cons (S0 : Store) (ids : List Nat) (n j : Nat) (r : Row) (t b : Store) : swp S0 ids n ((j, r) :: t) b = ((sh2 ids n j).getD 0, (r.ren (sh2 ids n)).flag (oldRow ids S0 j)) :: swp S0 ids n t b := nr rfl
theorem swap_eq (e : HEnv) (s : Store) (ids : List Nat) (n : Nat) (st : Store) : HS.swap ⟨e, s⟩ ids n st = ⟨ekill (turned ids s n) e, swp s ids n st (skill (gone ids n) s)⟩ := nr rfl
theorem boxOk_nil (st : Store) (k : Nat) : boxOk st k [] = True := nr rfl
theorem zL (st : Store) (k id : Nat) (r : List Nat) : boxOk st k (id :: r) = ((isBx (rlk st id) → k = id) ∧ boxOk st (k + 1) r) := nr rfl
theorem keepB_nil (ids : List Nat) (st : Store) : keepB ids st [] = True := nr rfl
theorem keepB_sl (ids : List Nat) (st : Store) (j : Nat) (nw : Bool) (t s : Nat) (xs : List (List FV)) (r : Store) : keepB ids st ((j, .sl nw t s xs) :: r) = keepB ids st r := nr rfl
theorem keepB_hl (ids : List Nat) (st : Store) (j : Nat) (nw : Bool) (t s : Nat) (xs : List (List HV)) (r : Store) : keepB ids st ((j, .hl nw t s xs) :: r) = keepB ids st r := nr rfl
theorem keepB_bt (ids : List Nat) (st : Store) (j : Nat) (t : Nat) (cs : List HV) (r : Store) : keepB ids st ((j, .bx true t cs) :: r) = keepB ids st r := nr rfl
theorem keepB_bf (ids : List Nat) (st : Store) (j : Nat) (t : Nat) (cs : List HV) (r : Store) : keepB ids st ((j, .bx false t cs) :: r) = ((nthO ids j = some j ∧ isBx (rlk st j)) ∧ keepB ids st r) := by
 rw [nthO_eq]; rfl
theorem hfunSQ_normal (P : Program) (rs : List ResultVar) (st0 : Store) (Q : HV → Store → Prop) (S : HS) : hfunSQ P rs st0 Q .normal S = resH P S rs fun hs => HResS st0 S (htup hs) Q := rfl
theorem hfunSQ_ret (P : Program) (rs : List ResultVar) (st0 : Store) (Q : HV → Store → Prop) (S : HS) : hfunSQ P rs st0 Q .ret S = resH P S rs fun hs => HResS st0 S (htup hs) Q := rfl
theorem hresS (ids : List Nat) {st0 : Store} {S : HS} {h : HV} {Q : HV → Store → Prop} (h1 : ids.length ≤ 8) (h2 : dup ids = false) (h3 : boxOk S.st 0 ids) (h4 : keepB ids S.st st0) {h' : HV} {st' : Store} (h5 : h.ren (pos ids) = h') (h6 : rpick (pos ids) S.st 0 ids = st') (q : Q h' st') : HResS st0 S h Q :=
 ⟨ids, h1, h2, h3, h4, by rw [h5, h6]; exact q⟩
theorem htup_nil : htup [] = .tup [] := nr rfl
section
variable {P : Program} {N : Nat} {x : Code} {Q : HPost} {S S' : HS}
theorem HW_ownB (id k nid ty sz : Nat) {nw : Bool} {bt : Nat} {cells : List HV} (hne : id ≠ nid) (hr : rlk S.st id = some (.bx nw bt cells)) (hk : cells[k]? = some (.v (.slice none 0 0)))
  (hs : (⟨ekill (only nid) S.env, (nid, .sl true ty sz []) :: sset id (.bx nw bt ((cells.map (HV.kill (only nid))).set k (.own nid))) (skill (only nid) S.st)⟩ : HS) = S') (h : HW P N x Q S') : HW P N x Q S := fun c l w I => by
 subst hs
 refine h c l w ?_
 obtain ⟨ρ, xs, G⟩ := I
 have G2 := G.new nid (.sl true ty sz []) [] (.slice none 0 0) (w' := w) (Below.refl _ _) (fun b hb => by cases hb) (fun _ _ =>
  ⟨by rw [zN]; exact World.ownsRow_nil w 0 ty sz, ⟨by simp, fun i k hi => absurd hi (by simp)⟩, fun b hb => by rw [zN] at hb; cases hb⟩)
 have hr2 : rlk (skill (only nid) S.st) id = some (.bx nw bt (cells.map (HV.kill (only nid)))) := by rw [rlk_skill, only_ne hne, cond_false, hr]; rfl
 have hl : ∀ i, rlk ((nid, Row.sl true ty sz []) :: sset id (.bx nw bt ((cells.map (HV.kill (only nid))).set k (.own nid))) (skill (only nid) S.st)) i =
   if i = id then some (.bx nw bt ((cells.map (HV.kill (only nid))).set k (.own nid))) else rlk ((nid, Row.sl true ty sz []) :: skill (only nid) S.st) i := fun i => by
  simp only [rlk]
  by_cases e : nid = i
  ·rw [if_pos e, if_neg (by omega), if_pos e]
  ·rw [if_neg e, rlk_sset id _ _ _ hr2]
   by_cases e2 : i = id
   ·rw [if_pos e2, if_pos e2]
   ·rw [if_neg e2, if_neg e2, if_neg e]
 have hid : rlk ((nid, Row.sl true ty sz []) :: skill (only nid) S.st) id = some (.bx nw bt (cells.map (HV.kill (only nid)))) := by simp only [rlk]; rw [if_neg (by omega)]; exact hr2
 have hA : ∀ b, c.A (setR ρ nid (.slice none 0 0)) ((nid, Row.sl true ty sz []) :: sset id (.bx nw bt ((cells.map (HV.kill (only nid))).set k (.own nid))) (skill (only nid) S.st)) b → c.A (setR ρ nid (.slice none 0 0)) ((nid, Row.sl true ty sz []) :: skill (only nid) S.st) b := by
  rintro b (h0 | ⟨i, s, hi, hb⟩)
  ·exact .inl h0
  ·right
   rw [hl] at hi
   by_cases e : i = id
   ·subst e; exact ⟨_, _, hid, hb⟩
   ·rw [if_neg e] at hi; exact ⟨i, s, hi, hb⟩
 refine ⟨setR ρ nid (.slice none 0 0), fun i => if i = nid then [] else xs i, ⟨fun i r hi => ?_, fun i j r s b hne hi hj hbi hbj => ?_, fun j y hj => ?_, G2.kept, G2.a0⟩⟩
 ·rw [hl] at hi
  by_cases e : i = id
  ·subst e
   rw [if_pos rfl] at hi
   simp only [Option.some.injEq] at hi
   subst hi
   have R := G2.rows i _ hid
   refine ⟨by simpa [Row.ty, Row.sz, Row.len] using R.own, ⟨R.rep.1, fun q hq => ?_⟩, R.new⟩
   have hq' : q < (cells.map (HV.kill (only nid))).length := by simpa using hq
   obtain ⟨u, u1, u2, u3⟩ := R.rep.2 q hq'
   by_cases eq : k = q
   ·subst eq
    refine ⟨u, u1, u2, ?_⟩
    rw [List.getElem_set_self]
    have hc : cells[k]'(by simpa using hq') = .v (.slice none 0 0) := by
     have := List.getElem?_eq_some_iff.1 hk
     exact this.2
    rw [List.getElem_map, hc, HV.kill] at u3
    have := repH_v u3
    subst this
    have := RepH.own (w := w) (A := c.A (setR ρ nid (.slice none 0 0)) ((nid, Row.sl true ty sz []) :: sset i (.bx nw bt ((cells.map (HV.kill (only nid))).set k (.own nid))) (skill (only nid) S.st))) (n0 := c.n0) (ρ := setR ρ nid (.slice none 0 0)) nid (by rw [zN]; rfl)
    rw [zN] at this
    exact this
   ·refine ⟨u, u1, u2, ?_⟩
    rw [List.getElem_set_ne eq]
    exact u3.up (Nat.le_refl _) (fun _ _ _ => rfl) (fun b _ => hA b) (Nat.le_refl _)
  ·rw [if_neg e] at hi
   exact (G2.rows i r hi).up (Nat.le_refl _) (fun _ _ _ => rfl) (fun b _ => hA b) (fun _ _ => rfl)
 ·have back : ∀ i s, rlk ((nid, Row.sl true ty sz []) :: sset id (.bx nw bt ((cells.map (HV.kill (only nid))).set k (.own nid))) (skill (only nid) S.st)) i = some s → ∃ s0, rlk ((nid, Row.sl true ty sz []) :: skill (only nid) S.st) i = some s0 := by
   intro i s hi
   rw [hl] at hi
   by_cases e : i = id
   ·subst e; exact ⟨_, hid⟩
   ·rw [if_neg e] at hi; exact ⟨s, hi⟩
  obtain ⟨r0, h1⟩ := back i r hi
  obtain ⟨s0, h2⟩ := back j s hj
  exact G2.apart i j r0 s0 b hne h1 h2 hbi hbj
 ·obtain ⟨v, h1, h2⟩ := G2.env j y hj
  exact ⟨v, h1, h2.up (Nat.le_refl _) (fun _ _ _ => rfl) (fun b _ => hA b) (Nat.le_refl _)⟩
end
section
variable {P : Program} {N : Nat} {x : Code} {Q : HPost} {S : HS} {id : Nat} {R : HS → Prop}
end
end Go.Eng
end

section
set_option linter.unusedSimpArgs false
set_option linter.unusedVariables false
namespace Go.Eng
open Go Go.RowKit
section
variable {P : Program} {N : Nat} {x : Code} {Q : HPost} {S : HS} {R : HS → Prop}
end
theorem HW_ownS {P : Program} {N : Nat} {x : Code} {Q : HPost} {S S' : HS} (k id ty sz : Nat) (hk : hlk S.env k = some (.v (.slice none 0 0))) (hs : ((S.kill (only id)).row id (.sl true ty sz [])).rep k (.own id) = S') (h : HW P N x Q S') : HW P N x Q S := HW_own k id ty sz hk (hs ▸ h)
end Go.Eng
end

section
set_option linter.unusedSimpArgs false
set_option linter.unusedVariables false
namespace Go.Eng
open Go Go.RowKit
theorem VC_append {P : Program} {N : Nat} {ds : List (Option Nat)} {K : Env → World → Prop} : ∀ {ops more : List Oper} {l : Env} {w : World}, VC P N ds (fun l w => VC P N ds K more l w) ops l w → VC P N ds K (ops ++ more) l w
 | [], more, l, w, h => by rw [VC] at h; exact h
 | o :: rest, more, l, w, h => by
  rw [List.cons_append]
  rw [VC] at h ⊢
  obtain ⟨b, hb, hd, h⟩ := gd_val h
  have conv : ∀ {k : Bool → Prop}, k b → gd l ds o.guard k := by
   intro k hkb
   unfold gd at hb ⊢
   split
   ·rename_i hg; rw [hg] at hb; dsimp only at hb; rw [hb]; exact hkb
   ·rename_i j want hg
    rw [hg] at hb
    dsimp only at hb
    split
    ·rename_i d hd'
     rw [hd'] at hb
     dsimp only at hb
     split
     ·rename_i b' hb'; rw [hb'] at hb; dsimp only at hb; rw [hb]; exact hkb
     ·rename_i v hv hb'
      rw [hb'] at hb
      cases v <;> dsimp only at hb <;> first | (exact (hv _ rfl).elim) | (rw [hb]; exact hkb)
     ·rename_i hb'; rw [hb'] at hb; exact hb.elim
    ·rename_i hn
     split at hb
     ·rename_i d hd'; exact (hn d hd').elim
     ·exact hb.elim
  refine conv ⟨hd, ?_⟩
  cases b with
  | true => exact vcOp_mono h fun v w' hv => VC_append hv
  | false => exact VC_append h
section
variable {P : Program} {N : Nat} {ds : List (Option Nat)} {K : HS → Prop} {S : HS} {Q : HPost}
def HV2s (P : Program) (N : Nat) (ds : List (Option Nat)) (K : HS → Prop) (ops : List Oper) (S : HS) : Prop :=
 ∀ (c : Ctx) (l : Env) (w : World), Inv c S (lk l) w → VC P N ds (fun l w => ∃ S', Inv c S' (lk l) w ∧ K S') ops l w
theorem HV2s_end {ops : List Oper} (h : HV2 P N ds K ops S) : HV2s P N ds K ops S := fun c l w I => HV2_VC (c := c) ops S l w h I
theorem HV2s_cut {ops : List Oper} (n : Nat) (ks ids : List Nat) (h : HV2 P N ds (fun S' => HStop (HV2s P N ds K (ops.drop n)) (S'.keep ks ids)) (ops.take n) S) : HV2s P N ds K ops S := fun c l w I => by
 have := HV2_VC (c := c) (ops.take n) S l w h I
 rw [← List.take_append_drop n ops]
 exact VC_append (qJ.V.mono this fun l' w' ⟨S', I', q⟩ => (show HV2s P N ds K (ops.drop n) (S'.keep ks ids) from q) c l' w' (I'.keep ks ids))
theorem HW_regS {id : Nat} {ops : List Oper} (h : ∀ K : HS → Prop, (∀ S', Q .normal S' → K S') → HV2s P N (dsts ops) K ops S) : HW P N (.region id ops.toArray false) Q S := fun c l w I =>
 W_region fun K hK => by
  have := h (Q .normal) (fun _ h => h) c l w I
  exact (qJ.V.mono this fun l' w' h => hK l' w' h)
end
end Go.Eng
end

section
set_option linter.unusedSimpArgs false
set_option linter.unusedVariables false
namespace Go.Eng
open Go Go.RowKit
inductive PlainH : HV → Prop
 | v (x : Value) : PlainH (.v x)
 | tup (xs : List Value) : PlainH (.tup (xs.map .v))
section
variable {P : Program} {N : Nat} {w w' : World} {A A' : Nat → Prop} {n0 n1 : Nat} {ρ ρ' : Nat → Value}
theorem RepH.plain {v : Value} {h : HV} (hr : RepH w A n0 ρ v h) (hp : PlainH h) : RepH w' A' n1 ρ' v h := by
 cases hp with
 | v x => have := repH_v hr; subst this; exact .v _
 | tup xs =>
  cases hr with
  | tup hn h =>
  refine .tup hn fun j a b => ?_
  have := h j a b
  simp only [List.getElem_map] at this ⊢
  have e := repH_v this
  rw [e]; exact .v _
end
end Go.Eng
end

section
set_option linter.unusedSimpArgs false
set_option linter.unusedVariables false
namespace Go.Eng
open Go Go.RowKit
section
variable {P : Program} {N : Nat} {c : Ctx} {S : HS} {look : Nat → Option Value} {w w' : World} {ρ : Nat → Value} {xs : Nat → List Value}
theorem hatt {f : FuncId} {args args' : List HV} {xs : List Value} {K : HV → HS → Prop} (hc : callable P f = true) (H : HFun P f args' (fun h st => h = .tup (xs.map .v))) (hl : Lends S.st args args') (hK : K (.tup (xs.map .v)) S) : HAt P f args S K :=
 ⟨hc, fun c look w ρ xs' vs G R => Ret.mono (H w vs (lends_rep G R hl)) fun v w' ⟨B, h, st, h8, q, ρ', xs', G', hr⟩ => ⟨_, _, hK, ρ, _, G.below B, by subst q; exact hr.plain (.tup xs)⟩⟩
end
end Go.Eng
end

section
set_option linter.unusedSimpArgs false
set_option linter.unusedVariables false
namespace Go.Eng
open Go Go.RowKit
def nm (a b : Nat) : Nat → Option Nat := fun i => if i = a then some b else if i = b then none else some i
def eren (m : Nat → Option Nat) : HEnv → HEnv
 | [] => []
 | (k, h) :: r => (k, h.ren m) :: eren m r
def sren (a b : Nat) : Store → Store
 | [] => []
 | (k, r) :: t => (if k = a then b else k, r.ren (nm a b)) :: sren a b t
def HS.name (S : HS) (a b : Nat) : HS := ⟨eren (nm a b) S.env, sren a b S.st⟩
theorem hlk_eren (m : Nat → Option Nat) : ∀ (l : HEnv) (k : Nat), hlk (eren m l) k = (hlk l k).map (HV.ren m)
 | [], k => rfl
 | (j, h) :: r, k => by
  simp only [eren, hlk]
  split
  ·rfl
  ·exact hlk_eren m r k
theorem rlk_sren {a b : Nat} (hab : a ≠ b) : ∀ (l : Store) (_ : rlk l b = none) (k : Nat), rlk (sren a b l) k = if k = b then (rlk l a).map (Row.ren (nm a b)) else if k = a then none else (rlk l k).map (Row.ren (nm a b))
 | [], _, k => by simp [sren, rlk]
 | (j, r) :: t, h, k => by
  simp only [rlk] at h
  by_cases hj : j = b
  ·rw [if_pos hj] at h; cases h
  ·rw [if_neg hj] at h
   have ih := rlk_sren hab t h k
   simp only [sren, rlk]
   by_cases e : j = a
   ·subst e
    rw [if_pos rfl, if_pos rfl]
    by_cases e2 : k = b
    ·subst e2; rw [if_pos rfl, if_pos rfl]; rfl
    ·rw [if_neg (by omega), ih, if_neg e2, if_neg e2]
     by_cases e3 : k = j
     ·rw [if_pos e3, if_pos e3]
     ·rw [if_neg e3, if_neg e3, if_neg (by omega)]
   ·rw [if_neg e, if_neg e]
    by_cases e2 : j = k
    ·subst e2; rw [if_pos rfl, if_neg hj, if_neg e, if_pos rfl]; rfl
    ·rw [if_neg e2, ih, if_neg e2]
section
variable {P : Program} {N : Nat} {x : Code} {Q : HPost} {c : Ctx} {S S' : HS} {look : Nat → Option Value} {w : World}
theorem Inv.name (I : Inv c S look w) {a b ty sz : Nat} {nw : Bool} {els : List (List FV)} (hab : a ≠ b) (hb : rlk S.st b = none) (ha : rlk S.st a = some (.sl nw ty sz els)) : Inv c (S.name a b) look w := by
 obtain ⟨ρ, xs, G⟩ := I
 let ρ' : Nat → Value := fun i => if i = b then ρ a else ρ i
 let xs' : Nat → List Value := fun i => if i = b then xs a else xs i
 have hm : ∀ i j, nm a b i = some j → ρ' j = ρ i := fun i j h => by
  unfold nm at h
  by_cases e : i = a
  ·rw [if_pos e] at h; simp only [Option.some.injEq] at h; subst h; subst e; show (if b = b then _ else _) = _; rw [if_pos rfl]
  ·rw [if_neg e] at h
   by_cases e2 : i = b
   ·rw [if_pos e2] at h; cases h
   ·rw [if_neg e2] at h; simp only [Option.some.injEq] at h; subst h; show (if i = b then _ else _) = _; rw [if_neg e2]
 have back : ∀ i r, rlk (S.name a b).st i = some r → ∃ j r0, nm a b j = some i ∧ rlk S.st j = some r0 ∧ r = r0.ren (nm a b) ∧ xs' i = xs j := by
  intro i r hi
  simp only [HS.name, rlk_sren hab _ hb] at hi
  by_cases e : i = b
  ·subst e
   rw [if_pos rfl, ha] at hi
   simp only [Option.map_some, Option.some.injEq] at hi
   exact ⟨a, _, by simp [nm], ha, hi.symm, by show (if i = i then _ else _) = _; rw [if_pos rfl]⟩
  ·rw [if_neg e] at hi
   by_cases e2 : i = a
   ·rw [if_pos e2] at hi; cases hi
   ·rw [if_neg e2] at hi
    cases hs : rlk S.st i with
    | none => rw [hs] at hi; cases hi
    | some r0 =>
     rw [hs] at hi
     simp only [Option.map_some, Option.some.injEq] at hi
     exact ⟨i, r0, by simp [nm, e, e2], hs, hi.symm, by show (if i = b then _ else _) = _; rw [if_neg e]⟩
 have hA : ∀ g, c.A ρ' (S.name a b).st g → c.A ρ S.st g := by
  rintro g (h0 | ⟨i, r, hi, hg⟩)
  ·exact .inl h0
  ·obtain ⟨j, r0, h1, h2, -, -⟩ := back i r hi
   rw [hm j i h1] at hg
   exact .inr ⟨j, r0, h2, hg⟩
 have tr : ∀ v y, RepH w (c.A ρ S.st) c.n0 ρ v y → RepH w (c.A ρ' (S.name a b).st) c.n0 ρ' v (y.ren (nm a b)) := fun v y h => (h.up (Nat.le_refl _) (fun _ _ _ => rfl) (fun b _ => hA b) (Nat.le_refl _)).ren hm
 refine ⟨ρ', xs', fun i r hi => ?_, fun i j r s g hne hi hj hgi hgj => ?_, fun k y hk => ?_, G.kept, G.a0⟩
 ·obtain ⟨j, r0, h1, h2, rfl, h4⟩ := back i r hi
  have R := G.rows j r0 h2
  obtain ⟨f1, f2, f3, f4⟩ := Row.ren_facts (nm a b) r0
  rw [h4]
  refine ⟨by rw [f1, f2, f3, hm j i h1]; exact R.own, ?_, fun g hg => by rw [f4]; rw [hm j i h1] at hg; exact R.new g hg⟩
  have rp := R.rep
  cases r0 with
  | sl nw ty sz els =>
   refine ⟨rp.1, fun p k hp hk => ?_⟩
   obtain ⟨u, u1, u2, u3⟩ := rp.2 p k hp hk
   exact ⟨u, u1, u2, u3.up (Nat.le_refl _) (fun _ _ _ => rfl) (fun b _ => hA b) (Nat.le_refl _)⟩
  | bx nw ty cells =>
   refine ⟨?_, fun k hk => ?_⟩
   ·have hji : j = i := by
     unfold nm at h1
     by_cases e : j = a
     ·subst e; rw [ha] at h2; cases h2
     ·rw [if_neg e] at h1
      by_cases e2 : j = b
      ·rw [if_pos e2] at h1; cases h1
      ·rw [if_neg e2] at h1; exact Option.some.inj h1
    rw [hm j i h1]
    rw [← hji]
    exact rp.1
   ·rw [List.length_map] at hk
    obtain ⟨u, u1, u2, u3⟩ := rp.2 k hk
    refine ⟨u, u1, u2, ?_⟩
    rw [List.getElem_map]
    exact tr _ _ u3
  | hl nw ty sz els =>
   refine ⟨fun y hy => ?_, fun p k hp hk => ?_⟩
   ·obtain ⟨z, hz, rfl⟩ := List.mem_map.1 hy
    rw [List.length_map]; exact rp.1 z hz
   ·simp only [List.length_map] at hp
    simp only [List.getElem_map, List.length_map] at hk ⊢
    obtain ⟨u, u1, u2, u3⟩ := rp.2 p k hp hk
    exact ⟨u, u1, u2, tr _ _ u3⟩
 ·obtain ⟨i', r0, h1, h2, -, -⟩ := back i r hi
  obtain ⟨j', s0, h3, h4, -, -⟩ := back j s hj
  rw [hm i' i h1] at hgi
  rw [hm j' j h3] at hgj
  exact G.apart i' j' r0 s0 g (fun e => hne (by subst e; rw [h1] at h3; exact Option.some.inj h3)) h2 h4 hgi hgj
 ·simp only [HS.name, hlk_eren] at hk
  cases hx0 : hlk S.env k with
  | none => rw [hx0] at hk; cases hk
  | some x0 =>
   rw [hx0] at hk
   simp only [Option.map_some, Option.some.injEq] at hk
   subst hk
   obtain ⟨v, h1, h2⟩ := G.env k x0 hx0
   exact ⟨v, h1, tr v x0 h2⟩
theorem HW_name (a b : Nat) {ty sz : Nat} {nw : Bool} {els : List (List FV)} (hab : a ≠ b) (hb : rlk S.st b = none) (ha : rlk S.st a = some (.sl nw ty sz els)) (hs : S.name a b = S') (h : HW P N x Q S') : HW P N x Q S := fun c l w I => h c l w (hs ▸ I.name hab hb ha)
theorem HW_hl (id : Nat) {ty sz : Nat} {nw : Bool} {els : List (List FV)} (hr : rlk S.st id = some (.sl nw ty sz els)) (hs : (⟨S.env, sset id (.hl nw ty sz (els.map (List.map FV.h))) S.st⟩ : HS) = S') (h : HW P N x Q S') : HW P N x Q S := fun c l w I => by
 subst hs
 refine h c l w ?_
 obtain ⟨ρ, xs, G⟩ := I
 have hl := rlk_sset id (.hl nw ty sz (els.map (List.map FV.h))) S.st _ hr
 have hA : ∀ b, c.A ρ (sset id (.hl nw ty sz (els.map (List.map FV.h))) S.st) b → c.A ρ S.st b := by
  rintro b (h0 | ⟨i, s, hi, hb⟩)
  ·exact .inl h0
  ·rw [hl] at hi
   by_cases e : i = id
   ·subst e; exact .inr ⟨_, _, hr, hb⟩
   ·rw [if_neg e] at hi; exact .inr ⟨i, s, hi, hb⟩
 have back : ∀ i r, rlk (sset id (.hl nw ty sz (els.map (List.map FV.h))) S.st) i = some r → ∃ r0, rlk S.st i = some r0 := by
  intro i r hi
  rw [hl] at hi
  by_cases e : i = id
  ·subst e; exact ⟨_, hr⟩
  ·rw [if_neg e] at hi; exact ⟨r, hi⟩
 refine ⟨ρ, xs, fun i r hi => ?_, fun i j r s b hne hi hj => ?_, fun k y hk => ?_, G.kept, G.a0⟩
 ·dsimp only at hi
  rw [hl] at hi
  by_cases e : i = id
  ·subst e
   rw [if_pos rfl] at hi
   simp only [Option.some.injEq] at hi
   subst hi
   have R := G.rows i _ hr
   refine ⟨by simpa [Row.ty, Row.sz, Row.len] using R.own, ⟨fun y hy => ?_, fun p k hp hk => ?_⟩, R.new⟩
   ·obtain ⟨z, hz, rfl⟩ := List.mem_map.1 hy
    rw [List.length_map]; exact R.rep.1 z hz
   ·simp only [List.length_map] at hp
    simp only [List.getElem_map, List.length_map] at hk ⊢
    obtain ⟨u, u1, u2, u3⟩ := R.rep.2 p k hp hk
    exact ⟨u, u1, u2, (u3.up (Nat.le_refl _) (fun _ _ _ => rfl) (fun b _ => hA b) (Nat.le_refl _)).h⟩
  ·rw [if_neg e] at hi
   exact (G.rows i r hi).up (Nat.le_refl _) (fun _ _ _ => rfl) (fun b _ => hA b) (fun _ _ => rfl)
 ·obtain ⟨r0, h1⟩ := back i r hi
  obtain ⟨s0, h2⟩ := back j s hj
  exact G.apart i j r0 s0 b hne h1 h2
 ·obtain ⟨v, h1, h2⟩ := G.env k y hk
  exact ⟨v, h1, h2.up (Nat.le_refl _) (fun _ _ _ => rfl) (fun b _ => hA b) (Nat.le_refl _)⟩
end
theorem name_eq (e : HEnv) (s : Store) (a b : Nat) : HS.name ⟨e, s⟩ a b = ⟨eren (nm a b) e, sren a b s⟩ := rfl
theorem nm_eq (a b i : Nat) : nm a b i = if i = a then some b else if i = b then none else some i := rfl
theorem eren_nil (m : Nat → Option Nat) : eren m [] = [] := rfl
theorem eren_cons (m : Nat → Option Nat) (k : Nat) (h : HV) (r : HEnv) : eren m ((k, h) :: r) = (k, h.ren m) :: eren m r := rfl
theorem sren_nil (a b : Nat) : sren a b [] = [] := rfl
theorem sren_cons (a b k : Nat) (r : Row) (t : Store) : sren a b ((k, r) :: t) = (if k = a then b else k, r.ren (nm a b)) :: sren a b t := rfl
end Go.Eng
end
