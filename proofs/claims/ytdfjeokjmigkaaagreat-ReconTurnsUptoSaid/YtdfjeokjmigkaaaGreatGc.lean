/-
  The engine of values: texts Rel, Hr, Hk, Hl, Hlo, He, Enc, Ste, Met, Spl, Nam, laid together.
-/
import Derived.Test.YtdfjeokjmigkaaaGreatEng
import Derived.Test.YtdfjeokjmigkaaaGreatGb
section
set_option linter.unusedSimpArgs false
set_option linter.unusedVariables false
namespace Go.Eng
open Go Go.RowKit
section
variable {P : Program} {N : Nat} {C : World → Prop} {ops : List Oper} {n : Nat} {l : Env} {R : Nat → Value → World → Prop}
def eH (l : Env) (ops : List Oper) (vs : Nat → Value) : Nat → Env
 | 0 => l
 | i + 1 => stp (aJ ops i) (vs i) (eH l ops vs i)
def DLt (N : Nat) (ops : List Oper) (n : Nat) : Prop := ∀ i t, i < n → aJ ops i = some t → t < N
variable {vs : Nat → Value}
theorem qCl (hl : DLt N ops n) (hk : bJ N l = true) : ∀ i, i ≤ n → bJ N (eH l ops vs i) = true
 | 0, _ => hk
 | i + 1, hi => jC (qCl hl hk i (by omega)) (fun k e => hl i k (by omega) e)
theorem kY (base : Array Value) (t : Nat) : ∀ i, (∀ j, j < i → aJ ops j ≠ some t) →
  lk (eH l ops vs i) t = lk l t ∧ (kE base (eH l ops vs i))[t]? = (kE base l)[t]?
 | 0, _ => ⟨rfl, rfl⟩
 | i + 1, h => by
  obtain ⟨h1, h2⟩ := kY base t i (fun j hj => h j (by omega))
  have hne := h i (by omega)
  simp only [eH]
  cases hd : aJ ops i with
  | none => exact ⟨h1, h2⟩
  | some d =>
   have : d ≠ t := fun e => hne (by rw [hd, e])
   simp only [stp, lk, kE, if_neg this]
   exact ⟨h1, by rw [Array.getElem?_setIfInBounds_ne this]; exact h2⟩
theorem jK (hl : DLt N ops n) {base : Array Value} (hbase : base.size = N) {t j : Nat} (hj : aJ ops j = some t) (huniq : ∀ k, k < n → k ≠ j → aJ ops k ≠ some t) : ∀ i, i ≤ n → j < i →
  lk (eH l ops vs i) t = some (vs j) ∧ (kE base (eH l ops vs i))[t]? = some (vs j)
 | 0, _, h => absurd h (Nat.not_lt_zero _)
 | i + 1, hi, h => by
  simp only [eH]
  by_cases e : j = i
  ·subst e
   rw [hj]
   simp only [stp, lk, kE, if_true, true_and]
   rw [Array.getElem?_setIfInBounds_self_of_lt (by rw [lX, hbase]; exact hl j t (by omega) hj)]
  ·obtain ⟨h1, h2⟩ := jK hl hbase hj huniq i (by omega) (by omega)
   have hne := huniq i (by omega) (Ne.symm e)
   cases hd : aJ ops i with
   | none => exact ⟨h1, h2⟩
   | some d =>
    have : d ≠ t := fun e => hne (by rw [hd, e])
    simp only [stp, lk, kE, if_neg this]
    exact ⟨h1, by rw [Array.getElem?_setIfInBounds_ne this]; exact h2⟩
theorem qM0 {keys : List Nat} (ok : RegOk keys ops n) (F : Fr N) (hk : bJ N l = true) (aT : ∀ t ∈ keys, ∃ v, lk l t = some v) (hlt : DLt N ops n)
  {Le : Nat → World → World → Prop} (hLe : ∀ i w, Le i w w) (hS : ∀ j i u w w', j < n → i < n → j ≠ i → C w → R j u w → Le i w w' → R j u w')
  (H : ∀ i o, i < n → ops[i]? = some o → ∀ (vs : Nat → Value) (w : World), C w → (∀ j t, j < i → aJ ops j = some t → t ∈ o.looksAt ops.toArray → R j (vs j) w) →
   ∃ b, gd (eH l ops vs i) (bQ ops) o.guard (· = b) ∧ (b = true → Yields P (execOp (evD (eH l ops vs i)) o) w fun u w' => R i u w' ∧ C w' ∧ Le i w w') ∧ (b = false → R i undef w))
  {Q : Exit → Act → World → Prop} (hT : ∀ (vs : Nat → Value) (w : World), C w → (∀ j, j < n → R j (vs j) w) → wpList P ops.toArray Q (ops.drop n) (mk F (eH l ops vs n)) w) :
  ∀ (fuel : Nat) (listed : Array Bool) (a : Act) (w : World) (vs : Nat → Value), unl listed = fuel → Mid N C ops n (kE F.base l) vs listed a w → (∀ j, j < n → listed.getD j false = true → R j (vs j) w) → wpAny P .any ops.toArray Q fuel listed a w := by
 have uniq : ∀ i j t, i < n → j < n → aJ ops i = some t → aJ ops j = some t → i = j := by
  intro i j t hi hj h1 h2
  rcases Nat.lt_trichotomy i j with h | h | h
  ·rcases ok.uniq j i hj h with e | e
   ·rw [h2] at e; cases e
   ·exact absurd (h2.trans h1.symm) e
  ·exact h
  ·rcases ok.uniq i j hi h with e | e
   ·rw [h1] at e; cases e
   ·exact absurd (h1.trans h2.symm) e
 have final : ∀ (listed : Array Bool) (a : Act) (w : World) (vs : Nat → Value), Mid N C ops n (kE F.base l) vs listed a w → (∀ j, j < n → listed.getD j false = true) → a = mk F (eH l ops vs n) := by
  intro listed a w vs M hall
  obtain ⟨tm, df⟩ := a
  have hd : df = [] := M.defers
  subst hd
  show Act.mk _ _ = Act.mk _ _
  congr 1
  apply Array.ext_getElem?
  intro t
  by_cases h : ∃ j, j < n ∧ aJ ops j = some t
  ·obtain ⟨j, hj, hd⟩ := h
   have h1 := M.new j t hj (hall j hj) hd
   have h2 := (jK (l := l) (vs := vs) hlt F.hN hd (fun k hk hne e => hne (uniq k j t hk hj e hd)) n (Nat.le_refl _) hj).2
   exact h1.trans h2.symm
  ·have h' : ∀ j, j < n → aJ ops j ≠ some t := fun j hj e => h ⟨j, hj, e⟩
   have h1 := M.old t (fun j hj _ => h' j hj)
   have h2 := (kY (l := l) (vs := vs) F.base t n h').2
   exact h1.trans h2.symm
 have slot : ∀ (listed : Array Bool) (a : Act) (w : World) (vs : Nat → Value) (i : Nat) (o : Oper) (t : Nat), Mid N C ops n (kE F.base l) vs listed a w → i < n → ops[i]? = some o → i ∈ Region.ready .any ops.toArray listed → t ∈ o.looksAt ops.toArray →
   ∃ X, a.tmps[t]? = some X ∧ lk (eH l ops vs i) t = some X := by
  intro listed a w vs i o t M hi ho hr ht
  obtain ⟨l1, l2⟩ := ok.looks i o t hi ho ht
  by_cases h : ∃ j, j < n ∧ aJ ops j = some t
  ·obtain ⟨j, hj, hd⟩ := h
   obtain ⟨hji, he⟩ := l1 j hj hd
   exact ⟨vs j, M.new j t hj (dN hr he) hd, (jK (l := l) (vs := vs) hlt F.hN hd (fun k hk hne e => hne (uniq k j t hk hj e hd)) i (by omega) hji).1⟩
  ·have h' : ∀ j, j < n → aJ ops j ≠ some t := fun j hj e => h ⟨j, hj, e⟩
   rcases l2 with ⟨j, hj, hd⟩ | hkey
   ·exact absurd hd (h' j (by omega))
   ·obtain ⟨v, hv⟩ := aT t hkey
    refine ⟨v, ?_, ?_⟩
    ·rw [M.old t (fun j hj _ => h' j hj)]; exact kX F hk hv
    ·rw [(kY (l := l) (vs := vs) F.base t i (fun j hj => h' j (by omega))).1]; exact hv
 intro fuel
 induction fuel with
 | zero =>
  intro listed a w vs hu M MR
  have hall : ∀ j, j < ops.length → listed.getD j false = true := fun j hj => qHt hu (by rw [M.size]; exact hj)
  have hn : n = ops.length := by
   rcases Nat.lt_or_ge n ops.length with h | h
   ·have := M.heads n (hall n h); omega
   ·have := ok.hn; omega
  have ha := final listed a w vs M (fun j hj => hall j (by omega))
  subst ha
  exact rK ok 0 n listed _ w (by omega) (Nat.le_refl _) M.size (fun i hi => ⟨fun _ => by omega, fun _ => hall i hi⟩) (hT vs w M.cls fun j hj => MR j hj (hall j (by omega)))
 | succ fuel ih =>
  intro listed a w vs hu M MR
  by_cases hdone : ∀ j, j < n → listed.getD j false = true
  ·have ha := final listed a w vs M hdone
   subst ha
   have hcount : ∀ (m : Nat) (x : Array Bool), x.size = ops.length → (∀ i, i < ops.length → (x.getD i false = true ↔ i < m)) → m ≤ ops.length → m + unl x = ops.length := by
    intro m
    generalize hd : ops.length - m = d
    induction d generalizing m with
    | zero =>
     intro x hx hl hm
     have : unl x = 0 := by
      unfold unl
      rw [List.length_eq_zero_iff, List.filter_eq_nil_iff]
      intro b hb
      obtain ⟨i, hi, rfl⟩ := List.getElem_of_mem hb
      have hi' : i < x.size := by simpa using hi
      have := (hl i (by omega)).2 (by omega)
      simp only [Array.getD, hi', dite_true] at this
      simp [show x.toList[i] = true from this]
     omega
    | succ d ihd =>
     intro x hx hl hm
     have hmlt : m < ops.length := by omega
     have h0 : x.getD m true = false := by
      have : ¬ x.getD m false = true := fun e => by have := (hl m hmlt).1 e; omega
      have hm' : m < x.size := by omega
      simp only [Array.getD, hm', dite_true] at this ⊢
      simpa using this
     have := ihd (m + 1) (by omega) (x.setIfInBounds m true) (by simpa using hx) (fun i hi => by
      by_cases e : m = i
      ·subst e
       have : m < x.size := by omega
       simp [this]
      ·rw [getD_set_ne false e, hl i hi]; omega) (by omega)
     have := qBd h0
     omega
   have hl : ∀ i, i < ops.length → (listed.getD i false = true ↔ i < n) := fun i hi => ⟨M.heads i, hdone i⟩
   have := hcount n listed M.size hl ok.hn
   exact rK ok (fuel + 1) n listed _ w (by omega) (Nat.le_refl _) M.size hl (hT vs w M.cls fun j hj => MR j hj (hdone j hj))
  ·have hex : ∃ j, j < n ∧ listed.getD j false ≠ true := by
    refine Classical.byContradiction fun hne => hdone fun j hj => ?_
    refine Classical.byContradiction fun h => hne ⟨j, hj, h⟩
   have hn := ok.hn
   have hready : ∃ j, j ∈ Region.ready .any ops.toArray listed := by
    obtain ⟨j, hj, hjl⟩ := hex
    have : ∀ d j, j = d → j < n → listed.getD j false ≠ true → ∃ j, j ∈ Region.ready .any ops.toArray listed := by
     intro d
     induction d using Nat.strongRecOn with
     | _ d ihd =>
      intro j hd hj hjl
      subst hd
      have ho : ops[j]? = some (ops[j]'(by omega)) := List.getElem?_eq_getElem _
      by_cases hall : ∀ e ∈ (ops[j]'(by omega)).after, Region.binds .any e = true → listed.getD e.on false = true
      ·refine ⟨j, mem_ready.2 ⟨?_, ops[j]'(by omega), by simp, hall⟩⟩
       have h2 : j < listed.size := by rw [M.size]; omega
       simp only [Array.getD, h2, dite_true] at hjl ⊢
       simpa using hjl
      ·have : ∃ e ∈ (ops[j]'(by omega)).after, Region.binds .any e = true ∧ listed.getD e.on false ≠ true := by
        refine Classical.byContradiction fun hne => hall fun e he hb => ?_
        refine Classical.byContradiction fun h => hne ⟨e, he, hb, h⟩
       obtain ⟨e, he, hb, hl⟩ := this
       have hlt := ok.down j _ e ho he hb
       exact ihd e.on hlt e.on rfl (by omega) hl
    exact this j j rfl hj hjl
   obtain ⟨j0, hj0⟩ := hready
   refine ⟨fun h0 => absurd hj0 (by rw [h0]; simp), fun i hi => ?_⟩
   obtain ⟨hun, o, ho, hall⟩ := mem_ready.1 hi
   have ho' : ops[i]? = some o := by simpa using ho
   have hilt : i < ops.length := (List.getElem?_eq_some_iff.1 ho').1
   have hin : i < n := by
    rcases Nat.lt_or_ge i n with h | h
    ·exact h
    ·exfalso
     apply hdone
     have key : ∀ d j, i - j = d → j < i → listed.getD j false = true := by
      intro d
      induction d using Nat.strongRecOn with
      | _ d ihd =>
       intro j hd hji
       obtain ⟨k, hk1, hk2, hk3⟩ := ok.tail i j hilt h hji
       rcases Nat.lt_or_ge k i with hki | hki
       ·exact M.clos k j (ihd (i - k) (by omega) k rfl hki) hk3
       ·have : k = i := by omega
        subst this
        exact dN hi hk3
     exact fun j hj => key _ j rfl (by omega)
   have hu' : unl (listed.setIfInBounds i true) = fuel := by have := qBd hun; omega
   have hdi : aJ ops i = o.dst := by unfold aJ; rw [ho']; rfl
   have hlt' : jL N o.dst := by
    cases hd : o.dst with
    | none => trivial
    | some t => exact hlt i t hin (hdi.trans hd)
   let nxt : Value → Nat → Value := fun u j => if j = i then u else vs j
   have nxt_i : ∀ u, nxt u i = u := fun u => if_pos rfl
   have nxt_ne : ∀ u j, j ≠ i → nxt u j = vs j := fun u j h => if_neg h
   have rest : ∀ u w', R i u w' → Le i w w' → ∀ j, j < n → (listed.setIfInBounds i true).getD j false = true → R j (nxt u j) w' := by
    intro u w' hu hB j hj hl
    by_cases e : j = i
    ·subst e; rw [nxt_i]; exact hu
    ·rw [nxt_ne u j e]
     rw [getD_set_ne false (Ne.symm e)] at hl
     exact hS j i _ w w' hj hin e M.cls (MR j hj hl) hB
   have step : ∀ u w', C w' → Mid N C ops n (kE F.base l) (nxt u) (listed.setIfInBounds i true) (a.put o.dst u) w' := by
    intro u w' hC
    have hlt := hlt'
    have hset : ∀ j, (listed.setIfInBounds i true).getD j false = true → j = i ∨ listed.getD j false = true := by
     intro j h
     by_cases e : i = j
     ·exact .inl e.symm
     ·rw [getD_set_ne false e] at h; exact .inr h
    have hseti : (listed.setIfInBounds i true).getD i false = true := by
     have : i < listed.size := by rw [M.size]; exact hilt
     simp [this]
    refine ⟨by simpa using M.size, ?_, ?_, ?_, ?_, ?_, ?_, hC⟩
    ·intro k j hk he
     rcases hset k hk with rfl | hk
     ·exact getD_set_true (dN hi he)
     ·exact getD_set_true (M.clos k j hk he)
    ·intro k hk
     rcases hset k hk with rfl | hk
     ·exact hin
     ·exact M.heads k hk
    ·cases hd : o.dst <;> exact M.defers
    ·cases hd : o.dst with
     | none => exact M.tsize
     | some d => simp only [Act.put, Array.size_setIfInBounds]; exact M.tsize
    ·intro j t hj hjl hd
     rcases hset j hjl with rfl | hjl'
     ·rw [hdi] at hd
      rw [hd] at hlt ⊢
      simp only [Act.put]
      rw [Array.getElem?_setIfInBounds_self_of_lt (by rw [M.tsize]; exact hlt), nxt_i]
     ·by_cases e : j = i
      ·subst e
       rw [hdi] at hd
       rw [hd] at hlt ⊢
       simp only [Act.put]
       rw [Array.getElem?_setIfInBounds_self_of_lt (by rw [M.tsize]; exact hlt), nxt_i]
      ·rw [nxt_ne u j e]
       have h1 := M.new j t hj hjl' hd
       cases hdo : o.dst with
       | none => exact h1
       | some d =>
        have hne : d ≠ t := fun e' => e (uniq j i t hj hin hd (by rw [hdi, hdo, e']))
        simp only [Act.put]
        rw [Array.getElem?_setIfInBounds_ne hne]; exact h1
    ·intro t ht
     have h1 := M.old t (fun j hj hjl => ht j hj (getD_set_true hjl))
     have h2 := ht i hin hseti
     rw [hdi] at h2
     cases hdo : o.dst with
     | none => exact h1
     | some d =>
      have hne : d ≠ t := fun e' => h2 (by rw [hdo, e'])
      simp only [Act.put]
      rw [Array.getElem?_setIfInBounds_ne hne]; exact h1
   obtain ⟨b, hb, hbt, hbf⟩ := H i o hin ho' vs w M.cls fun j t hj hd ht => by
    obtain ⟨l1, -⟩ := ok.looks i o t hin ho' ht
    exact MR j (by omega) (dN hi (l1 j (by omega) hd).2)
   have hw : Region.wanted o (yielded ops.toArray a.tmps) = b := by
    unfold gd at hb
    split at hb
    ·rename_i hg; simp only [Region.wanted, hg]; exact hb
    ·rename_i g want hg
     split at hb
     ·rename_i d hd
      split at hb
      ·rename_i bb hbb
       have hdd : aJ ops g = some d := by
        unfold aJ
        simp only [bQ, List.getElem?_map, Option.map_eq_some_iff] at hd
        obtain ⟨x, hx, hx'⟩ := hd
        simp [hx, hx']
       obtain ⟨X, hX1, hX2⟩ := slot listed a w vs i o d M hin ho' hi (jB hg hdd)
       rw [hbb] at hX2
       cases hX2
       have : yielded ops.toArray a.tmps g = some bb := by
        unfold yielded
        unfold aJ at hdd
        simp only [List.getElem?_toArray, hdd, Option.bind_some, hX1]
       simp only [Region.wanted, hg, this]
       rw [← hb]
       cases bb <;> cases want <;> rfl
      ·rename_i bb hnb hbb
       have hdd : aJ ops g = some d := by
        unfold aJ
        simp only [bQ, List.getElem?_map, Option.map_eq_some_iff] at hd
        obtain ⟨x, hx, hx'⟩ := hd
        simp [hx, hx']
       obtain ⟨X, hX1, hX2⟩ := slot listed a w vs i o d M hin ho' hi (jB hg hdd)
       rw [hbb] at hX2
       cases hX2
       have : yielded ops.toArray a.tmps g = none := by
        unfold yielded
        unfold aJ at hdd
        simp only [List.getElem?_toArray, hdd, Option.bind_some, hX1]
        split
        ·rename_i b' e; cases e; exact (hnb b' rfl).elim
        ·rfl
       simp only [Region.wanted, hg, this]
       rw [← hb]
       rfl
      ·exact hb.elim
     ·exact hb.elim
   unfold wpOp
   simp only [ho, hw]
   cases b with
   | true =>
    simp only [if_true]
    refine .inl (eK ?_)
    have hcong : execOp a.eval o = execOp (evD (eH l ops vs i)) o := by
     refine execOp_congr o (ok.sel i o ho') (fun x hx => ?_)
     cases x with
     | tmp t =>
      obtain ⟨X, hX1, hX2⟩ := slot listed a w vs i o t M hin ho' hi (uW hx)
      simp [Act.eval, evD, ev, hX1, hX2]
     | const c => rfl
     | global g => rfl
     | func f => rfl
    rw [hcong]
    exact (hbt rfl).mono fun u w' ⟨hu, hC, hB⟩ => ih _ _ _ _ hu' (step u w' hC) (rest u w' hu hB)
   | false =>
    simp only [Bool.false_eq_true, if_false]
    exact ih _ _ _ _ hu' (step undef w M.cls) (rest undef w (hbf rfl) (hLe i w))
end
section
variable {P : Program} {N : Nat} {Q : qC5} {l : Env} {w : World}
theorem qT5 {id : Nat} {ops : List Oper} (keys : List Nat) (n : Nat) (hm : P.follows .mixedOrders = true) (aT : pC l = keys) (hok : uN keys ops n = true) (hlt : DLt N ops n)
  {C : World → Prop} {R : Nat → Value → World → Prop} (hC : C w.drew) {Le : Nat → World → World → Prop} (hLe : ∀ i w, Le i w w) (hS : ∀ j i u w w', j < n → i < n → j ≠ i → C w → R j u w → Le i w w' → R j u w')
  (H : ∀ i o, i < n → ops[i]? = some o → ∀ (vs : Nat → Value) (w : World), C w → (∀ j t, j < i → aJ ops j = some t → t ∈ o.looksAt ops.toArray → R j (vs j) w) →
   ∃ b, gd (eH l ops vs i) (bQ ops) o.guard (· = b) ∧ (b = true → Yields P (execOp (evD (eH l ops vs i)) o) w fun u w' => R i u w' ∧ C w' ∧ Le i w w') ∧ (b = false → R i undef w))
  (hT : ∀ (vs : Nat → Value) (w : World), C w → (∀ j, j < n → R j (vs j) w) → VC P N (bQ ops) (fun l' w' => Q .normal l' w') (ops.drop n) (eH l ops vs n) w) : W P N (.region id ops.toArray true) Q l w := fun hk F => by
 have ok := nE hok
 refine wp_region_any hm ?_
 have := qM0 ok F hk (fun t ht => uZ (by rw [aT]; exact ht)) hlt hLe hS H (Q := qV2 N Q)
  (fun vs w' hw' hR => vK F (K := fun l w => Q .normal l w) (fun l' w' hk' hK => ⟨F, l', rfl, hk', hK⟩) _ _ _ (qCl hlt hk n (Nat.le_refl _)) (hT vs w' hw' hR))
  ops.length (Array.replicate ops.length false) (mk F l) w.drew (fun _ => undef) (oC _)
  ⟨by simp, (fun i j hi => by rw [getD_replicate_false] at hi; cases hi), (fun i hi => by rw [getD_replicate_false] at hi; cases hi), rfl, by simp [mk, lX, F.hN], (fun j t _ hl => by rw [getD_replicate_false] at hl; cases hl), fun t _ => rfl, hC⟩
  (fun j _ hl => by rw [getD_replicate_false] at hl; cases hl)
 simpa using this
theorem zJ1 {id : Nat} {ops : List Oper} (keys : List Nat) (n : Nat) (hm : P.follows .mixedOrders = true) (aT : pC l = keys) (hok : uN keys ops n = true) (hlt : DLt N ops n)
  {C : World → Prop} {R : Nat → Value → World → Prop} (hC : C w.drew) (hS : ∀ i u w w', C w → R i u w → Below w.heap.size w w' → R i u w')
  (H : ∀ i o, i < n → ops[i]? = some o → ∀ (vs : Nat → Value) (w : World), C w → (∀ j t, j < i → aJ ops j = some t → t ∈ o.looksAt ops.toArray → R j (vs j) w) →
   ∃ b, gd (eH l ops vs i) (bQ ops) o.guard (· = b) ∧ (b = true → Yields P (execOp (evD (eH l ops vs i)) o) w fun u w' => R i u w' ∧ C w' ∧ Below w.heap.size w w') ∧ (b = false → R i undef w))
  (hT : ∀ (vs : Nat → Value) (w : World), C w → (∀ j, j < n → R j (vs j) w) → VC P N (bQ ops) (fun l' w' => Q .normal l' w') (ops.drop n) (eH l ops vs n) w) : W P N (.region id ops.toArray true) Q l w :=
 qT5 keys n hm aT hok hlt hC (Le := fun _ w w' => Below w.heap.size w w') (fun _ w => Below.refl _ _) (fun j _ u w w' _ _ _ hc hr hb => hS j u w w' hc hr hb) H hT
end
end Go.Eng
end

section
set_option linter.unusedSimpArgs false
set_option linter.unusedVariables false
namespace Go.Eng
open Go Go.RowKit

def bM : Operand → List Nat
 | .tmp t => [t]
 | _ => []
def vZ : List Operand → List Nat
 | [] => []
 | x :: r => bM x ++ vZ r
def qU : List (Nat × Operand) → List Nat
 | [] => []
 | (_, x) :: r => bM x ++ qU r
def qGh : Option Operand → List Nat
 | some x => bM x
 | none => []
def qH7 : Callee → List Nat
 | .value x => bM x
 | _ => []
def aZ : Op → List Nat
 | .move x => bM x
 | .assign x => bM x
 | .nilCheck x => bM x
 | .pick c a b => bM c ++ (bM a ++ bM b)
 | .extract x _ => bM x
 | .field _ x _ => bM x
 | .fieldAddr _ x _ => bM x
 | .load _ x => bM x
 | .unOp _ _ x => bM x
 | .convert _ _ x => bM x
 | .indexAddr _ x i => bM x ++ bM i
 | .index _ x i => bM x ++ bM i
 | .slice _ x l h none => bM x ++ (qGh l ++ qGh h)
 | .binOp _ _ x y _ => bM x ++ bM y
 | .build _ ps => qU ps.toList
 | .buildSlice _ _ ps => qU ps.toList
 | .makeSlice _ x y => bM x ++ bM y
 | .call ⟨k, args, _⟩ => qH7 k ++ vZ args.toList
 | _ => []
theorem iQ {x : Operand} {t : Nat} (h : t ∈ bM x) : x = .tmp t := by
 cases x <;> simp [bM] at h
 subst h; rfl
theorem qH5 : ∀ {l : List Operand} {t : Nat}, t ∈ vZ l → Operand.tmp t ∈ l
 | [], t, h => by simp [vZ] at h
 | x :: r, t, h => by
  simp only [vZ, List.mem_append] at h
  rcases h with h | h
  ·rw [iQ h]; exact List.mem_cons_self ..
  ·exact List.mem_cons_of_mem _ (qH5 h)
theorem qDc : ∀ {l : List (Nat × Operand)} {t : Nat}, t ∈ qU l → Operand.tmp t ∈ l.map (·.2)
 | [], t, h => by simp [qU] at h
 | (k, x) :: r, t, h => by
  simp only [qU, List.mem_append] at h
  rcases h with h | h
  ·rw [List.map_cons, iQ h]; exact List.mem_cons_self ..
  ·rw [List.map_cons]; exact List.mem_cons_of_mem _ (qDc h)
theorem qMa {x : Option Operand} {t : Nat} (h : t ∈ qGh x) : x = some (.tmp t) := by
 cases x with
 | none => simp [qGh] at h
 | some x => rw [iQ h]
theorem qRa {o : Op} {t : Nat} (h : t ∈ aZ o) : Operand.tmp t ∈ o.operands := by
 unfold aZ at h
 split at h
 all_goals try simp only [List.mem_append] at h
 case h_13 => 
  simp only [Op.operands]
  rcases h with h | h | h
  ·rw [iQ h]; simp
  ·rw [qMa h]; simp
  ·rw [qMa h]; simp
 case h_15 => simpa [Op.operands] using qDc h
 case h_16 => simpa [Op.operands] using qDc h
 case h_18 =>
  simp only [Op.operands, Call.operands, Array.mem_append]
  rcases h with h | h
  ·refine .inl ?_
   unfold qH7 at h
   split at h
   ·rw [iQ h]; simp
   ·simp at h
  ·exact .inr (by simpa using qH5 h)
 case h_19 => simp at h
 all_goals
  simp only [Op.operands]
  first
  | (rw [iQ h]; simp; done)
  | (rcases h with h | h <;> (rw [iQ h]; simp))
  | (rcases h with h | h | h <;> (rw [iQ h]; simp))
def iJ (ds : List (Option Nat)) : Option (Nat × Bool) → List Nat
 | none => []
 | some (g, _) => match ds[g]? with
  | some (some d) => [d]
  | _ => []
def kM (e : aH) : List Nat → aH
 | [] => []
 | t :: r => match hlk e t with
  | some h => (t, h) :: kM e r
  | none => kM e r
theorem uQ {e : aH} : ∀ {l : List Nat} {t : Nat} {h : HV}, hlk (kM e l) t = some h → t ∈ l ∧ hlk e t = some h
 | [], t, h, hh => by simp [kM, hlk] at hh
 | k :: r, t, h, hh => by
  simp only [kM] at hh
  split at hh
  ·rename_i x hx
   simp only [hlk] at hh
   by_cases ek : k = t
   ·subst ek; rw [if_pos rfl] at hh; exact ⟨List.mem_cons_self .., by rw [hx]; exact hh⟩
   ·rw [if_neg ek] at hh
    obtain ⟨a, b⟩ := uQ hh
    exact ⟨List.mem_cons_of_mem _ a, b⟩
  ·obtain ⟨a, b⟩ := uQ hh
   exact ⟨List.mem_cons_of_mem _ a, b⟩
def zEn (P : Program) (f : FuncId) (args : List HV) (T : HS) (K : HV → Prop) : Prop :=
 aE P f = true ∧ ∃ h, K h ∧ ∀ (c : Ctx) (look : Nat → Option Value) (w : World) (ρ : Nat → Value) (xs : Nat → List Value) (vs : List Value), Good c T look w ρ xs → qAa w (c.A ρ T.st) c.n0 ρ vs args →
  Calls P f vs.toArray w (Ret fun u w' => RepH w' (c.A ρ T.st) c.n0 ρ u h ∧ Below w.heap.size w w')
def nG : aH → Bool
 | [] => true
 | (_, .v _) :: r => nG r
 | (_, .lst _ _) :: r => nG r
 | (_, .agg _) :: r => nG r
 | _ => false
def zAf (d : Option Nat) (S : HS) (K : HS → Prop) : HOut → Prop
 | .go c (.own i) S' => match rlk S'.st i with
  | some (.sl _ _ _ els) => c ∧ K (S.set d (.lst true els))
  | _ => False
 | _ => False
def zLn : Op → Bool
 | .buildSlice .. => true
 | .makeSlice .. => true
 | _ => false
def qC2 (P : Program) (o : Oper) (S T : HS) (K : HS → Prop) : HOut → Prop
 | .go c h _ => match dD o.op with
  | true => c ∧ K (S.set o.dst h)
  | false => match zLn o.op && nG T.env with
   | true => zAf o.dst S K (hop P ⟨T.env, []⟩ (rB o.dst) o.op)
   | false => False
 | .call f args => zEn P f args T (fun x => kZ K (S.set o.dst x))
 | .eqn t x y neg => ∃ r, EqR P t x.toArray y.toArray r ∧ kZ K (S.set o.dst (.v (.bool (neg ^^ r))))
 | .bytes _ _ => False
 | .bad => False
def qY1 (P : Program) (N : Nat) (o : Oper) (S T : HS) (K : HS → Prop) : Prop := match eV N o.dst with
 | true => qC2 P o S T K (hop P T (rB o.dst) o.op)
 | false => False
def jN (P : Program) (N : Nat) (o : Oper) (S T : HS) (K : HS → Prop) : GOut → Prop
 | .yes => qY1 P N o S T K
 | .no => mW N o.dst S K
 | .ask d b want => match b == want with
  | true => qY1 P N o (S.rep d (.v (.bool want))) (T.rep d (.v (.bool want))) K
  | false => mW N o.dst (S.rep d (.v (.bool (!want)))) K
 | .bad => False
def HVr (P : Program) (N : Nat) (ds : List (Option Nat)) (K : HS → Prop) : List Oper → HS → Prop
 | [], S => K S
 | o :: rest, S => jN P N o S ⟨kM S.env (iJ ds o.guard ++ aZ o.op), S.st⟩ (HVr P N ds K rest) (hG (kM S.env (iJ ds o.guard ++ aZ o.op)) ds o.guard)
end Go.Eng
end

section
set_option linter.unusedSimpArgs false
set_option linter.unusedVariables false
namespace Go.Eng
open Go Go.RowKit
section
variable {P : Program} {N : Nat} {c : Ctx} {S T : HS} {Q : eW} {l : Env} {look : Nat → Option Value} {w w' : World} {ρ : Nat → Value} {xs : Nat → List Value} {K : HS → Prop}
theorem RepH.above {A : Nat → Prop} {n0 : Nat} {v : Value} {x : HV} (h : RepH w A n0 ρ v x) (B : Below w.heap.size w w') : RepH w' A n0 ρ v x := h.up B.size (fun b hlt _ => B.block b hlt) (fun b _ h => h) (Nat.le_refl _)
theorem nN {d : Nat} {h : HV} : ∀ {E : aH}, hlk E d = some h → ∀ k, hlk (xR d h E) k = hlk E k
 | [], e, k => by simp [hlk] at e
 | (j, x) :: r, e, k => by
  simp only [hlk] at e
  simp only [xR]
  by_cases ej : j = d
  ·rw [if_pos ej] at e ⊢
   simp only [Option.some.injEq] at e
   subst e; rfl
  ·rw [if_neg ej] at e ⊢
   simp only [hlk, nN e k]
theorem Good.sameEnv {E : aH} {st : aB} (G : Good c ⟨E, st⟩ look w ρ xs) {E' : aH} (h : ∀ k, hlk E' k = hlk E k) : Good c ⟨E', st⟩ look w ρ xs := ⟨G.rows, G.apart, fun k x hk => G.env k x (by rw [← h k]; exact hk), G.kept, G.a0⟩
theorem qUp (G : Good c T (lk l) w ρ xs) {id i : Nat} {o : Op} {ty : TypeId} {cnd : Prop} {S' : HS} (hp : nG T.env = true) (h : hop P ⟨T.env, []⟩ id o = .go cnd (.own i) S') {nw : Bool} {t sz : Nat} {els : List (List FV)} (hr : rlk S'.st i = some (.sl nw t sz els)) (hc : cnd) :
  aQ P l o ty w (fun u w' => RepH w' (c.A ρ T.st) c.n0 ρ u (.lst true els) ∧ Below w.heap.size w w') (fun u w' => RepH w' (c.A ρ T.st) c.n0 ρ u (.lst true els) ∧ Below w.heap.size w w') := by
 have hA : ∀ b, c.A ρ T.st b → b < w.heap.size := by
  rintro b (h0 | ⟨i, r, hi, hb⟩)
  ·have := (G.a0 b h0).1; have := G.kept.size; omega
  ·exact G.lt hi hb
 have G2 : Good ⟨w, fun _ => False, c.A ρ T.st, c.n0, Nat.le_trans c.hn G.kept.size, fun _ _ => False⟩ ⟨T.env, []⟩ (lk l) w ρ xs := by
  refine ⟨fun id r hr => by simp [rlk] at hr, fun i j r s b hne hi => by simp [rlk] at hi, fun k x hk => ?_, Kept.refl _ _, fun b hb => ⟨hA b hb, fun h => h⟩⟩
  obtain ⟨u, h1, h2⟩ := G.env k _ hk
  refine ⟨u, h1, h2.up (Nat.le_refl _) (fun _ _ _ => rfl) (fun b _ hb => ?_) (Nat.le_refl _)⟩
  rcases hb with hb | ⟨i, r, hi, -⟩
  ·exact hb
  ·simp [rlk] at hi
 refine aU (qL8 G2 (aW _ _) h hc) fun u w' ⟨ρ2, xs2, G3, r⟩ => ?_
 have B : Below w.heap.size w w' := G3.kept.below (fun _ _ h => h)
 refine ⟨?_, B⟩
 cases r
 obtain ⟨o1, o2, o3⟩ := dC G3 hr
 have R0 := G3.rows i _ hr
 refine .lst (qBk o1 o2 (fun p k hp hk => ?_) (fun b hb => ?_))
 ·obtain ⟨u, a, b, d⟩ := o3 p k hp hk
  exact ⟨u, a, b, d.up (Nat.le_refl _) (fun _ _ _ => rfl) (fun b _ h => .inl h) (Nat.le_refl _)⟩
 ·rcases (R0.new b hb).1 with h | h
  ·have h : w.heap.size ≤ b := h
   exact ⟨fun hA' => by have := hA b hA'; omega, fun _ => by have := c.hn; have := G.kept.size; omega⟩
  ·exact h.elim
theorem qC1 {o : Oper} (h : qY1 P N o S T K) : jL N o.dst ∧ ∃ x, K (S.set o.dst x) ∧ ∀ (c : Ctx) (l : Env) (w : World) (ρ : Nat → Value) (xs : Nat → List Value), Good c T (lk l) w ρ xs →
  aQ P l o.op o.type w (fun u w' => RepH w' (c.A ρ T.st) c.n0 ρ u x ∧ Below w.heap.size w w') (fun u w' => RepH w' (c.A ρ T.st) c.n0 ρ u x ∧ Below w.heap.size w w') := by
 unfold qY1 at h
 split at h
 ·rename_i hd
  refine ⟨cY hd, ?_⟩
  cases ho : hop P T (rB o.dst) o.op with
  | go c' hv S' =>
   rw [ho] at h
   unfold qC2 at h
   dsimp only at h
   split at h
   ·rename_i hq
    obtain ⟨h0, h1⟩ := h
    refine ⟨hv, h1, fun c l w ρ xs G => ?_⟩
    obtain ⟨v, hK, hv'⟩ := qUg (ty := o.type) (vY (ty := 0) G (aW _ _) ho hq h0)
    exact aU (hv' w (Below.refl _ _)) fun u w' ⟨e, B⟩ => by subst e; exact ⟨hK.2.2.above B, B⟩
   ·split at h
    ·rename_i hm
     simp only [Bool.and_eq_true] at hm
     unfold zAf at h
     split at h
     ·rename_i c2 i S2 hm2
      split at h
      ·rename_i nw t sz els hr
       exact ⟨_, h.2, fun c l w ρ xs G => qUp G hm.2 hm2 hr h.1⟩
      ·exact h.elim
     ·exact h.elim
    ·exact h.elim
  | call f args =>
   rw [ho] at h
   obtain ⟨hf, x, hK, hc⟩ := h
   refine ⟨x, hK, fun c l w ρ xs G => ?_⟩
   obtain ⟨y, ay, ats, e, hfn, has⟩ := qEn ho
   rw [e]
   obtain ⟨vs, e1, e2, e3⟩ := G.evs (aW _ _) has
   unfold aQ
   simp only [aG, bP, e1, G.fn (aW _ _) hfn]
   exact ⟨hf, hc c (lk l) w ρ xs vs G ⟨e2, e3⟩⟩
  | eqn t x y neg =>
   rw [ho] at h
   obtain ⟨r, h1, h2⟩ := h
   refine ⟨_, h2, fun c l w ρ xs G => ?_⟩
   exact aU (qH2 G (aW _ l) ho h1) fun v w' ⟨e, _, r⟩ => by subst e; exact ⟨r, Below.refl _ _⟩
  | bytes ok s => rw [ho] at h; exact h.elim
  | bad => rw [ho] at h; exact h.elim
 ·exact h.elim
def FrOk (ops : List Oper) (E0 : aH) (hs : Nat → HV) (i : Nat) (E : aH) : Prop := ∀ t h, hlk E t = some h → (∃ j, j < i ∧ aJ ops j = some t ∧ hs j = h) ∨ ((∀ j, j < i → aJ ops j ≠ some t) ∧ hlk E0 t = some h)
theorem FrOk.congr {ops : List Oper} {E0 E : aH} {hs hs' : Nat → HV} {i : Nat} (h : FrOk ops E0 hs i E) (he : ∀ j, j < i → hs' j = hs j) : FrOk ops E0 hs' i E := fun t x hx => by
 rcases h t x hx with ⟨j, a, b, d⟩ | r
 ·exact .inl ⟨j, a, b, by rw [he j a]; exact d⟩
 ·exact .inr r
theorem FrOk.env {ops : List Oper} {E0 E E' : aH} {hs : Nat → HV} {i : Nat} (h : FrOk ops E0 hs i E) (he : ∀ t x, hlk E' t = some x → hlk E t = some x) : FrOk ops E0 hs i E' := fun t x hx => h t x (he t x hx)
theorem FrOk.set {ops : List Oper} {E0 : aH} {hs : Nat → HV} {i : Nat} {S : HS} (h : FrOk ops E0 hs i S.env) {o : Oper} (ho : ops[i]? = some o) : FrOk ops E0 hs (i + 1) (S.set o.dst (hs i)).env := by
 have hd : aJ ops i = o.dst := by unfold aJ; rw [ho]; rfl
 intro t x hx
 cases e : o.dst with
 | none =>
  rw [e] at hx hd
  rcases h t x hx with ⟨j, a, b, d⟩ | ⟨a, b⟩
  ·exact .inl ⟨j, by omega, b, d⟩
  ·refine .inr ⟨fun j hj => ?_, b⟩
   by_cases ej : j = i
   ·subst ej; rw [hd]; simp
   ·exact a j (by omega)
 | some d =>
  rw [e] at hx hd
  simp only [HS.set, hlk] at hx
  by_cases et : d = t
  ·rw [if_pos et] at hx
   simp only [Option.some.injEq] at hx
   exact .inl ⟨i, by omega, by rw [hd, et], hx⟩
  ·rw [if_neg et] at hx
   rcases h t x hx with ⟨j, a, b, d'⟩ | ⟨a, b⟩
   ·exact .inl ⟨j, by omega, b, d'⟩
   ·refine .inr ⟨fun j hj => ?_, b⟩
    by_cases ej : j = i
    ·subst ej; rw [hd]; simpa using et
    ·exact a j (by omega)
structure HeadOk (P : Program) (N : Nat) (ops : List Oper) (E0 : aH) (st : aB) (hs : Nat → HV) (i : Nat) (o : Oper) : Prop where
 lt : jL N o.dst
 head : ∃ T : aH, FrOk ops E0 hs i T ∧ (∀ t h, hlk T t = some h → t ∈ iJ (bQ ops) o.guard ++ aZ o.op) ∧ ∀ (c : Ctx) (l : Env) (w : World) (ρ : Nat → Value) (xs : Nat → List Value), Good c ⟨T, st⟩ (lk l) w ρ xs →
  ∃ b, gd l (bQ ops) o.guard (· = b) ∧ (b = true → aQ P l o.op o.type w (fun u w' => RepH w' (c.A ρ st) c.n0 ρ u (hs i) ∧ Below w.heap.size w w') (fun u w' => RepH w' (c.A ρ st) c.n0 ρ u (hs i) ∧ Below w.heap.size w w')) ∧ (b = false → hs i = .v undef)
theorem qAc {d : Option Nat} (h : mW N d S K) : jL N d ∧ K (S.set d (.v undef)) := by
 unfold mW at h
 split at h
 ·rename_i hd; exact ⟨cY hd, h⟩
 ·exact h.elim
theorem qF5 {ops : List Oper} {E0 : aH} {st : aB} : ∀ (rest : List Oper) (i : Nat) (S : HS) (hs0 : Nat → HV), (∀ k o, rest[k]? = some o → ops[i + k]? = some o) → S.st = st → FrOk ops E0 hs0 i S.env → HVr P N (bQ ops) K rest S →
  ∃ hs, (∀ j, j < i → hs j = hs0 j) ∧ (∀ k o, rest[k]? = some o → HeadOk P N ops E0 st hs (i + k) o) ∧ ∃ S', S'.st = st ∧ FrOk ops E0 hs (i + rest.length) S'.env ∧ K S'
 | [], i, S, hs0, hops, hst, F, h => ⟨hs0, fun _ _ => rfl, fun k o hk => by simp at hk, S, hst, F, h⟩
 | o :: rest, i, S, hs0, hops, hst, F, h => by
  have hoi : ops[i]? = some o := hops 0 o (by simp)
  rw [HVr] at h
  generalize hT : kM S.env (iJ (bQ ops) o.guard ++ aZ o.op) = T at h
  have TF : ∀ t x, hlk T t = some x → t ∈ iJ (bQ ops) o.guard ++ aZ o.op ∧ hlk S.env t = some x := fun t x hx => by subst hT; exact uQ hx
  have key : ∀ (S1 : HS) (x : HV), S1.st = st → FrOk ops E0 hs0 i S1.env → HVr P N (bQ ops) K rest (S1.set o.dst x) → jL N o.dst →
    (∀ (c : Ctx) (l : Env) (w : World) (ρ : Nat → Value) (xs : Nat → List Value), Good c ⟨T, st⟩ (lk l) w ρ xs →
     ∃ b, gd l (bQ ops) o.guard (· = b) ∧ (b = true → aQ P l o.op o.type w (fun u w' => RepH w' (c.A ρ st) c.n0 ρ u x ∧ Below w.heap.size w w') (fun u w' => RepH w' (c.A ρ st) c.n0 ρ u x ∧ Below w.heap.size w w')) ∧ (b = false → x = .v undef)) →
    ∃ hs, (∀ j, j < i → hs j = hs0 j) ∧ (∀ k o', (o :: rest)[k]? = some o' → HeadOk P N ops E0 st hs (i + k) o') ∧ ∃ S', S'.st = st ∧ FrOk ops E0 hs (i + (o :: rest).length) S'.env ∧ K S' := by
   intro S1 x hst1 F1 hK hlt hrun
   let hs1 : Nat → HV := fun j => if j = i then x else hs0 j
   have e1 : hs1 i = x := if_pos rfl
   have e2 : ∀ j, j < i → hs1 j = hs0 j := fun j hj => if_neg (by omega)
   have F2 : FrOk ops E0 hs1 (i + 1) (S1.set o.dst x).env := by
    have := (F1.congr e2).set hoi
    rw [e1] at this; exact this
   obtain ⟨hs, a, b, S', d, e, f⟩ := qF5 rest (i + 1) (S1.set o.dst x) hs1 (fun k o' hk => by
    have := hops (k + 1) o' (by simpa using hk)
    rw [show i + 1 + k = i + (k + 1) by omega]; exact this) (by cases o.dst <;> exact hst1) F2 hK
   have ei : hs i = x := by rw [a i (by omega), e1]
   have ej : ∀ j, j < i → hs j = hs0 j := fun j hj => by rw [a j (by omega), e2 j hj]
   refine ⟨hs, ej, fun k o' hk => ?_, S', d, ?_, f⟩
   ·cases k with
    | zero =>
     simp only [List.getElem?_cons_zero, Option.some.injEq] at hk
     subst hk
     exact ⟨hlt, T, (F.congr ej).env (fun t x hx => (TF t x hx).2), fun t x hx => (TF t x hx).1, by rw [Nat.add_zero, ei]; exact hrun⟩
    | succ k =>
     have := b k o' (by simpa using hk)
     rw [show i + 1 + k = i + (k + 1) by omega] at this; exact this
   ·rw [List.length_cons, show i + (rest.length + 1) = i + 1 + rest.length by omega]; exact e
  cases hg : hG T (bQ ops) o.guard with
  | yes =>
   rw [hg] at h
   obtain ⟨hlt, x, hK, hv⟩ := qC1 h
   refine key S x hst F hK hlt fun c l w ρ xs G => ⟨true, qKd (S := ⟨T, st⟩) hg rfl, fun _ => ?_, fun e => by cases e⟩
   have := hv c l w ρ xs (by rw [hst]; exact G)
   rw [hst] at this; exact this
  | no =>
   rw [hg] at h
   obtain ⟨hlt, hK⟩ := qAc h
   exact key S _ hst F hK hlt fun c l w ρ xs G => ⟨false, qZv (S := ⟨T, st⟩) ⟨ρ, xs, G⟩ hg rfl, fun e => (by cases e), fun _ => rfl⟩
  | ask d b want =>
   rw [hg] at h
   obtain ⟨j, hj, hd, hb⟩ := qX1 (S := ⟨T, st⟩) hg
   have hbS := (TF d _ hb).2
   simp only [jN] at h
   split at h
   ·rename_i e
    have e' : b = want := by simpa using e
    subst e'
    obtain ⟨hlt, x, hK, hv⟩ := qC1 h
    refine key (S.rep d (.v (.bool b))) x hst (F.env fun t x hx => by rw [← nN hbS t]; exact hx) hK hlt fun c l w ρ xs G => ⟨true, (xU (S := ⟨T, st⟩) ⟨ρ, xs, G⟩ hg (k := (· = true)) e).1, fun _ => ?_, fun e => by cases e⟩
    have := hv c l w ρ xs (by rw [hst]; exact G.sameEnv (nN hb))
    simp only [HS.rep] at this
    rw [hst] at this; exact this
   ·rename_i e
    have e' : b = !want := by cases b <;> cases want <;> simp_all
    subst e'
    obtain ⟨hlt, hK⟩ := qAc h
    exact key (S.rep d (.v (.bool (!want)))) _ hst (F.env fun t x hx => by rw [← nN hbS t]; exact hx) hK hlt fun c l w ρ xs G => ⟨false, (xU (S := ⟨T, st⟩) ⟨ρ, xs, G⟩ hg (k := (· = false)) e).1, fun e => (by cases e), fun _ => rfl⟩
  | bad => rw [hg] at h; exact h.elim
end
end Go.Eng
end

section
set_option linter.unusedSimpArgs false
set_option linter.unusedVariables false
namespace Go.Eng
open Go Go.RowKit
section
variable {P : Program} {N : Nat} {c : Ctx} {S T : HS} {Q : eW} {l : Env} {look : Nat → Option Value} {w w' : World} {ρ : Nat → Value} {xs : Nat → List Value} {K : HS → Prop}
theorem oR {ops : List Oper} {o : Oper} {t : Nat} (h : t ∈ iJ (bQ ops) o.guard ++ aZ o.op) : t ∈ o.looksAt ops.toArray := by
 rcases List.mem_append.1 h with h | h
 ·cases hg : o.guard with
  | none => rw [hg] at h; simp [iJ] at h
  | some p =>
   obtain ⟨g, b⟩ := p
   rw [hg] at h
   simp only [iJ] at h
   split at h
   ·rename_i d hd
    simp only [List.mem_singleton] at h
    subst h
    refine jB hg ?_
    unfold aJ
    simp only [bQ, List.getElem?_map, Option.map_eq_some_iff] at hd
    obtain ⟨x, hx, hx'⟩ := hd
    simp [hx, hx']
   ·simp at h
 ·exact uW (qRa h)
theorem nV {x : HV} {k : Nat} : ∀ {e : aH}, hlk e k = some x → k ∈ aT e
 | [], h => by simp [hlk] at h
 | (j, y) :: r, h => by
  simp only [hlk] at h
  by_cases ej : j = k
  ·simp [aT, ej]
  ·rw [if_neg ej] at h
   have := nV h
   simp only [aT, List.map_cons, List.mem_cons]
   exact .inr this
theorem zNm {id : Nat} {ops : List Oper} (n : Nat) (hm : P.follows .mixedOrders = true) (hok : uN (aT S.env) ops n = true)
  (h : ∀ K : HS → Prop, (∀ S', Q .normal S' → K S') → HVr P N (bQ ops) (fun S' => kZ (HV2 P N (bQ ops) K (ops.drop n)) S') (ops.take n) S) : HW P N (.region id ops.toArray true) Q S := fun c l w I => by
 have hks : ∀ k ∈ aT S.env, ∃ v, lk l k = some v := fun k hk => by
  obtain ⟨x, hx⟩ := nW hk
  obtain ⟨ρ, xs, G⟩ := I
  obtain ⟨v, h1, -⟩ := G.env k x hx
  exact ⟨v, h1⟩
 refine qA9 (aT S.env) ?_
 have I' : Inv c S (lk (keep (aT S.env) l)) w := I.agree fun k x hk => oF (nV hk)
 have hkk : pC (keep (aT S.env) l) = aT S.env := nM hks
 generalize keep (aT S.env) l = l' at I' hkk
 obtain ⟨ρ, xs, G⟩ := I'
 have ok := nE hok
 have hlen : (ops.take n).length = n := by rw [List.length_take]; have := ok.hn; omega
 have get_take : ∀ {i : Nat} {o : Oper}, (ops.take n)[i]? = some o → i < n ∧ ops[i]? = some o := fun {i o} h => by
  have hi := (List.getElem?_eq_some_iff.1 h).1
  rw [hlen] at hi
  rw [List.getElem?_take_of_lt hi] at h
  exact ⟨hi, h⟩
 obtain ⟨hs, -, heads, S1, e1, F1, h1⟩ := qF5 (E0 := S.env) (st := S.st) (ops.take n) 0 S (fun _ => .junk) (fun k o hk => by rw [Nat.zero_add]; exact (get_take hk).2) rfl (fun t x hx => .inr ⟨fun j hj => absurd hj (Nat.not_lt_zero _), hx⟩) (h (Q .normal) fun _ h => h)
 rw [hlen, Nat.zero_add] at F1
 have head : ∀ i o, i < n → ops[i]? = some o → HeadOk P N ops S.env S.st hs i o := fun i o hi ho => by
  have := heads i o (by rw [List.getElem?_take_of_lt hi]; exact ho)
  rw [Nat.zero_add] at this; exact this
 have uniq : ∀ i j t, i < n → j < n → aJ ops i = some t → aJ ops j = some t → i = j := by
  intro i j t hi hj h1 h2
  rcases Nat.lt_trichotomy i j with h | h | h
  ·rcases ok.uniq j i hj h with e | e
   ·rw [h2] at e; cases e
   ·exact absurd (h2.trans h1.symm) e
  ·exact h
  ·rcases ok.uniq i j hi h with e | e
   ·rw [h1] at e; cases e
   ·exact absurd (h1.trans h2.symm) e
 have hlt : DLt N ops n := fun i t hi hd => by
  obtain ⟨o, ho, hod⟩ := oA hd
  have := (head i o hi ho).lt
  rw [hod] at this; exact this
 -- what a frame of the heads' names reads
 have frame : ∀ (vs : Nat → Value) (w' : World) (i : Nat) (E : aH), i ≤ n → Below w.heap.size w w' → FrOk ops S.env hs i E →
   (∀ j t x, j < i → aJ ops j = some t → hlk E t = some x → RepH w' (c.A ρ S.st) c.n0 ρ (vs j) (hs j)) → Good c ⟨E, S.st⟩ (lk (eH l' ops vs i)) w' ρ xs := fun vs w' i E hi hB F hv => by
  have GB := G.below hB
  refine ⟨GB.rows, GB.apart, fun k x hk => ?_, GB.kept, GB.a0⟩
  rcases F k x hk with ⟨j, a, b, d⟩ | ⟨a, b⟩
  ·refine ⟨vs j, (jK (l := l') (vs := vs) hlt (base := Array.replicate N undef) (by simp) b (fun q hq hne e => hne (uniq q j k hq (by omega) e b)) i hi a).1, ?_⟩
   rw [← d]; exact hv j k x a b hk
  ·obtain ⟨v, v1, v2⟩ := GB.env k x b
   exact ⟨v, by rw [(kY (l := l') (vs := vs) #[] k i a).1]; exact v1, v2⟩
 refine zJ1 (aT S.env) n hm hkk hok hlt (C := fun w' => Below w.heap.size w w') (R := fun j u w' => RepH w' (c.A ρ S.st) c.n0 ρ u (hs j)) (Below.refl _ _).drew (fun i u w1 w2 _ hr hB => hr.above hB) ?_ ?_
 ·intro i o hi ho vs w1 hC hR
  obtain ⟨T, TF, TS, run⟩ := (head i o hi ho).head
  have GT : Good c ⟨T, S.st⟩ (lk (eH l' ops vs i)) w1 ρ xs := frame vs w1 i T (by omega) hC TF fun j t x hj hd hx => hR j t hj hd (oR (TS t x hx))
  obtain ⟨b, b1, b2, b3⟩ := run c _ w1 ρ xs GT
  refine ⟨b, b1, fun hb => ?_, fun hb => ?_⟩
  ·exact (iV (fun x X hx => by simp [evD, hx]) (b2 hb)).mono fun u w2 ⟨hu, hB⟩ => ⟨hu, hC.trans (hB.mono hC.size), hB⟩
  ·rw [b3 hb]; exact .v _
 ·intro vs w1 hC hR
  obtain ⟨E1, st1⟩ := S1
  have e1 : st1 = S.st := e1
  subst e1
  have G1 := frame vs w1 n E1 (Nat.le_refl _) hC F1 fun j t x hj _ _ => hR j hj
  exact HW_drw.V2.mono' (uH _ _ _ _ h1 ⟨ρ, xs, G1⟩) fun l2 w2 h2 => h2
theorem zU7 {f : FuncId} {args args' : List HV} {x : HV} {K : HV → Prop} (hc : aE P f = true) (H : HFun P f args' (fun h st => h = x ∧ st = [])) (hf : FreshH x) (hn : ∀ ρ ρ' : Nat → Value, ∀ (w : World) (A : Nat → Prop) (n : Nat) (v : Value), RepH w A n ρ v x → RepH w A n ρ' v x) (hl : Lends T.st args args') (hK : K x) : zEn P f args T K :=
 ⟨hc, x, hK, fun c look w ρ xs vs G R => Ret.mono (H w vs (qF G R hl)) fun v w' ⟨B, h, st, h8, ⟨e1, e2⟩, ρ', xs', G', hr⟩ => ⟨by
  subst e1; subst e2
  have hw : c.n0 ≤ w.heap.size := Nat.le_trans c.hn G.kept.size
  refine hn ρ' ρ _ _ _ _ (hr.up (Nat.le_refl _) (fun _ _ _ => rfl) (fun b _ hA => ?_) hw)
  left
  show b < w.heap.size
  rcases hA with h0 | ⟨i, r, hi, hb⟩
  ·have := (G.a0 b h0).1; have := G.kept.size; omega
  ·exact G.lt hi hb, B⟩⟩
theorem zN1 {f : FuncId} {args args' : List HV} {x : Value} {K : HV → Prop} (hc : aE P f = true) (H : HFun P f args' (fun h st => h = .v x)) (hl : Lends T.st args args') (hK : K (.v x)) : zEn P f args T K :=
 ⟨hc, .v x, hK, fun c look w ρ xs vs G R => Ret.mono (H w vs (qF G R hl)) fun v w' ⟨B, h, st, h8, q, ρ', xs', G', hr⟩ => ⟨by subst q; have := aX hr; subst this; exact .v _, B⟩⟩
end
end Go.Eng
end

section
set_option linter.unusedSimpArgs false
set_option linter.unusedVariables false
namespace Go.Eng
open Go Go.RowKit
section
variable {P : Program} {T : HS}
theorem qGn {f : FuncId} {args args' : List HV} {ty sz : Nat} {els : List (List FV)} {K : HV → Prop} (hc : aE P f = true) (H : HFun P f args' (fun h st => h = .own 0 ∧ st = [(0, .sl true ty sz els)])) (hl : Lends T.st args args') (hK : K (.lst true els)) : zEn P f args T K :=
 ⟨hc, _, hK, fun c look w ρ xs vs G R => Ret.mono (H w vs (qF G R hl)) fun v w' ⟨B, h, st, h8, ⟨e1, e2⟩, ρ', xs', G', hr⟩ => ⟨by
  subst e1; subst e2
  have hw : c.n0 ≤ w.heap.size := Nat.le_trans c.hn G.kept.size
  have hA : ∀ b, c.A ρ T.st b → b < w.heap.size := by
   rintro b (h0 | ⟨i, r, hi, hb⟩)
   ·have := (G.a0 b h0).1; have := G.kept.size; omega
   ·exact G.lt hi hb
  have e0 : rlk (HS.st ⟨[], [(0, Row.sl true ty sz els)]⟩) 0 = some (.sl true ty sz els) := rfl
  cases hr
  obtain ⟨o1, o2, o3⟩ := dC G' e0
  have R0 := G'.rows 0 _ e0
  refine .lst (qBk o1 o2 (fun p k hp hk => ?_) (fun b hb => ?_))
  ·obtain ⟨u, a, b, d⟩ := o3 p k hp hk
   exact ⟨u, a, b, d.up (Nat.le_refl _) (fun _ _ _ => rfl) (fun b _ h => .inl (hA b h)) hw⟩
  ·rcases (R0.new b hb).1 with h | h
   ·have h : w.heap.size ≤ b := h
    exact ⟨fun hA' => by have := hA b hA'; omega, fun _ => by omega⟩
   ·exact h.elim, B⟩⟩
end
end Go.Eng
end

section
set_option linter.unusedSimpArgs false
set_option linter.unusedVariables false
namespace Go.Eng
open Go Go.RowKit
theorem zS (t : Nat) : hlk [] t = none := nr rfl
theorem zM (k : Nat) (v : HV) (r : aH) (t : Nat) : hlk ((k, v) :: r) t = if k = t then some v else hlk r t := nr rfl
theorem zX (t : Nat) : rlk [] t = none := nr rfl
theorem zU (k : Nat) (v : Row) (r : aB) (t : Nat) : rlk ((k, v) :: r) t = if k = t then some v else rlk r t := nr rfl
theorem zMa (l : aH) (t : Nat) : hev l (.tmp t) = hlk l t := nr rfl
theorem zC5 (l : aH) (v : Value) : hev l (.const v) = some (.v v) := nr rfl
theorem qWu (l : aH) (g : Nat) : hev l (.global g) = some (.v (.pointer (some ⟨g, 0, none⟩))) := nr rfl
theorem zHj (l : aH) (f : FuncId) : hev l (.func f) = some (.v (.func (.func f) #[] #[])) := nr rfl
theorem zHi (l : aH) : kV l [] = some [] := nr rfl
theorem zC4 (l : aH) (x : Operand) (r : List Operand) : kV l (x :: r) = match hev l x with | some v => (match kV l r with | some vs => some (v :: vs) | none => none) | none => none := nr rfl
theorem zQc (x : Value) : qEc (some (.v x)) = some x := nr rfl
theorem zB6  : qEc none = none := nr rfl
theorem zGk (fr : Bool) (xs : List (List FV)) : qEc (some (.lst fr xs)) = none := nr rfl
theorem zGj (i : Nat) : qEc (some (.own i)) = none := nr rfl
theorem zGi (i s j k : Nat) : qEc (some (.ptr i s j k)) = none := nr rfl
theorem zGl (fr : Bool) (xs : List (List FV)) (s j k : Nat) : qEc (some (.elt fr xs s j k)) = none := nr rfl
theorem zGm (cs : List HV) : qEc (some (.agg cs)) = none := nr rfl
theorem zGh (cs : List HV) : qEc (some (.tup cs)) = none := nr rfl
theorem zLo (i s o n : Nat) : qEc (some (.vw i s o n)) = none := nr rfl
theorem zB7  : qEc (some .junk) = none := nr rfl
theorem qXk (S : HS) (id : Nat) (P : Program) (o : Op) (c : Prop) (v : Value) : oS S id P o (some (c, v)) = .go c (.v v) S := nr rfl
theorem qXl (S : HS) (id : Nat) (P : Program) (o : Op) : oS S id P o none = gW P S id o := nr rfl
theorem zQg (P : Program) (S : HS) (id : Nat) (o : Op) : hop P S id o = oS S id P o (aG P (lo S.env) o) := nr rfl
theorem zC8 (P : Program) (S : HS) (id : Nat) (x : Operand) : gW P S id (.move x) = vE S (hev S.env x) := nr rfl
theorem qSs (P : Program) (S : HS) (id : Nat) (x : Operand) : gW P S id (.assign x) = vE S (hev S.env x) := nr rfl
theorem zC6 (P : Program) (S : HS) (id : Nat) (c a b : Operand) : gW P S id (.pick c a b) = qEr S (hev S.env c) (hev S.env a) (hev S.env b) := nr rfl
theorem qP5 (P : Program) (S : HS) (id : Nat) (x : Operand) (i : Nat) : gW P S id (.extract x i) = mN S i (hev S.env x) := nr rfl
theorem qW0 (P : Program) (S : HS) (id : Nat) (t : TypeId) (x : Operand) (f : Nat) : gW P S id (.field t x f) = uE S (qEx P t f) (hev S.env x) := nr rfl
theorem qW1 (P : Program) (S : HS) (id : Nat) (t : TypeId) (x : Operand) (f : Nat) : gW P S id (.fieldAddr t x f) = uF S (iU P t f) (hev S.env x) := nr rfl
theorem zC7 (P : Program) (S : HS) (id : Nat) (x : Operand) : gW P S id (.nilCheck x) = qLr S (hev S.env x) := nr rfl
theorem qWz (P : Program) (S : HS) (id : Nat) (t : TypeId) (x i : Operand) : gW P S id (.indexAddr t x i) = nX S (bE P t) (qNn P t) (hev S.env x) (hev S.env i) := nr rfl
theorem qWw (P : Program) (S : HS) (id : Nat) (t : TypeId) (x : Operand) (l h : Option Operand) : gW P S id (.slice t x l h none) = rE S (bE P t) l h (hev S.env x) := nr rfl
theorem zC9 (P : Program) (S : HS) (id : Nat) (t : TypeId) (x : Operand) : gW P S id (.load t x) = tD S (bN P t) (hev S.env x) := nr rfl
theorem qWv (P : Program) (S : HS) (id : Nat) (t : TypeId) (x y : Operand) : gW P S id (.store t x y) = uC S (bN P t) (hev S.env x) (hev S.env y) := nr rfl
theorem qW5 (P : Program) (S : HS) (id : Nat) (t : TypeId) : gW P S id (.alloc t) = pB S id t (eR P t) := nr rfl
theorem zHn (P : Program) (S : HS) (id : Nat) (t : TypeId) (x : Operand) : gW P S id (.box t x) = qS8 S id t (hev S.env x) := nr rfl
theorem qW4 (P : Program) (S : HS) (id : Nat) (t : TypeId) (ps : Array (Nat × Operand)) : gW P S id (.build t ps) = xT S (cJ P t) (dE P t) (eR P t) (jA S.env ps.toList) := nr rfl
theorem qSr (P : Program) (S : HS) (id : Nat) (t n : TypeId) (ps : Array (Nat × Operand)) : gW P S id (.buildSlice t n ps) = lF S id n (mB P t) (jA S.env ps.toList) := nr rfl
theorem qWx (P : Program) (S : HS) (id : Nat) (t : TypeId) (x y : Operand) : gW P S id (.makeSlice t x y) = qGo S id (mB P t) (hev S.env x) (hev S.env y) := nr rfl
theorem zHl (P : Program) (S : HS) (id : Nat) (args : Array Operand) (ats : Array TypeId) : gW P S id (.call ⟨.builtin .len, args, ats⟩) = match kV S.env args.toList with | some [h] => qJ8 S (bH ((bE P (cZ ats)).isSome = true ∧ ats.size = 1)) (some h) | _ => .bad := nr rfl
theorem zHo (P : Program) (S : HS) (id : Nat) (args : Array Operand) (ats : Array TypeId) : gW P S id (.call ⟨.builtin .append, args, ats⟩) = kB S id (ats == #[cZ ats, cZ ats]) (qUm P ats) (mB P (cZ ats)) (kV S.env args.toList) := nr rfl
theorem qW3 (P : Program) (S : HS) (id : Nat) (f : FuncId) (args : Array Operand) (ats : Array TypeId) : gW P S id (.call ⟨.value (.func f), args, ats⟩) = qGp f (kV S.env args.toList) := nr rfl
theorem zHm (P : Program) (S : HS) (id : Nat) (t : TypeId) (x y : Operand) (u : TypeId) : gW P S id (.binOp .eql t x y u) = hEq S (qGw P t) t false (hev S.env x) (hev S.env y) := nr rfl
theorem zHk (P : Program) (S : HS) (id : Nat) (t : TypeId) (x y : Operand) (u : TypeId) : gW P S id (.binOp .neq t x y u) = hEq S (qGw P t) t true (hev S.env x) (hev S.env y) := nr rfl
theorem zDb (P : Program) (S : HS) (id : Nat) (s d : TypeId) (x : Operand) : gW P S id (.convert s d x) = tK S (qDm P s d) (qKp P s d) (hev S.env x) := nr rfl
theorem zHu (S : HS) (h : HV) : vE S (some h) = .go True h S := nr rfl
theorem zHr (S : HS) (t : Bool) (a b : HV) : qEr S (some (.v (.bool t))) (some a) (some b) = .go True (bif t then a else b) S := nr rfl
theorem qS3 (S : HS) (i : Nat) (hs : List HV) : mN S i (some (.tup hs)) = match hs[i]? with | some h => .go True h S | none => .bad := nr rfl
theorem qWy (P : Program) (S : HS) (id : Nat) (t : TypeId) (x i : Operand) : gW P S id (.index t x i) = pU S (qK4 P t) (hev S.env x) (hev S.env i) := nr rfl
theorem qS2 (S : HS) (m : Nat) (hs : List HV) (k : IntKind) (n : Int) : pU S (some m) (some (.agg hs)) (some (.v (.int k n))) = match hs[n.toNat]? with | some h => .go (bH (0 ≤ n ∧ n < m)) h S | none => .bad := nr rfl
theorem qX3 (S : HS) (off : Nat) (hs : List HV) : uE S (some (off, none)) (some (.agg hs)) = match hs[off]? with | some h => .go True h S | none => .bad := nr rfl
theorem qX2 (S : HS) (off n : Nat) (hs : List HV) : uE S (some (off, some n)) (some (.agg hs)) = .go (bH (off + n ≤ hs.length)) (.agg ((hs.drop off).take n)) S := nr rfl
theorem qX4 (S : HS) (off id sz i k : Nat) : uF S (some off) (some (.ptr id sz i k)) = .go True (.ptr id sz i (k + off)) S := nr rfl
theorem qX5 (S : HS) (off : Nat) (fr : Bool) (xs : List (List FV)) (sz i k : Nat) : uF S (some off) (some (.elt fr xs sz i k)) = .go True (.elt fr xs sz i (k + off)) S := nr rfl
theorem zHs (S : HS) (id sz i k : Nat) : qLr S (some (.ptr id sz i k)) = .go True (.ptr id sz i k) S := nr rfl
theorem zHt (S : HS) (fr : Bool) (xs : List (List FV)) (sz i k : Nat) : qLr S (some (.elt fr xs sz i k)) = .go True (.elt fr xs sz i k) S := nr rfl
theorem qXs (S : HS) (id : Nat) (us ua : Option (Nat × Nat)) (kk : IntKind) (n : Int) : nX S us ua (some (.own id)) (some (.v (.int kk n))) = pV S id n us (rlk S.st id) := nr rfl
theorem qXt (S : HS) (fr : Bool) (xs : List (List FV)) (us ua : Option (Nat × Nat)) (kk : IntKind) (n : Int) : nX S us ua (some (.lst fr xs)) (some (.v (.int kk n))) = tG S fr xs n us := nr rfl
theorem qXr (S : HS) (id sz i k : Nat) (us ua : Option (Nat × Nat)) (kk : IntKind) (n : Int) : nX S us ua (some (.ptr id sz i k)) (some (.v (.int kk n))) = tF S id sz i k n ua := nr rfl
theorem qXu (S : HS) (fr : Bool) (xs : List (List FV)) (sz i k : Nat) (us ua : Option (Nat × Nat)) (kk : IntKind) (n : Int) : nX S us ua (some (.elt fr xs sz i k)) (some (.v (.int kk n))) = tJ S fr xs sz i k n ua := nr rfl
theorem qXx (S : HS) (id : Nat) (n : Int) (e sz : Nat) (nw : Bool) (ty s : Nat) (els : List (List FV)) : pV S id n (some (e, sz)) (some (.sl nw ty s els)) = .go (bH (sz = s ∧ 0 ≤ n ∧ n < els.length)) (.ptr id s n.toNat 0) S := nr rfl
theorem qXz (S : HS) (fr : Bool) (xs : List (List FV)) (n : Int) (e sz : Nat) : tG S fr xs n (some (e, sz)) = .go (bH (0 ≤ n ∧ n < xs.length) ∧ Wid sz xs) (.elt fr xs sz n.toNat 0) S := nr rfl
theorem qXy (S : HS) (id sz i k : Nat) (n : Int) (len size : Nat) : tF S id sz i k n (some (len, size)) = .go (bH (0 ≤ n ∧ n < len)) (.ptr id sz i (k + n.toNat * size)) S := nr rfl
theorem qX0 (S : HS) (fr : Bool) (xs : List (List FV)) (sz i k : Nat) (n : Int) (len size : Nat) : tJ S fr xs sz i k n (some (len, size)) = .go (bH (0 ≤ n ∧ n < len)) (.elt fr xs sz i (k + n.toNat * size)) S := nr rfl
theorem zMb (S : HS) (c : Prop) (i s o n : Nat) : qJ8 S c (some (.vw i s o n)) = .go c (.v (.int .i64 n)) S := nr rfl
theorem qXg (S : HS) (us : Option (Nat × Nat)) (l h : Option Operand) (id : Nat) : rE S us l h (some (.own id)) = sY S id (lN (lo S.env) l 0) (lN (lo S.env) h (zKw (rlk S.st id))) us (rlk S.st id) := nr rfl
theorem zDe (S : HS) (us : Option (Nat × Nat)) (l h : Option Operand) (id sz off n : Nat) : rE S us l h (some (.vw id sz off n)) = sX S id sz off (lN (lo S.env) l 0) (lN (lo S.env) h n) us (rlk S.st id) := nr rfl
theorem qXi (S : HS) (id : Nat) (a b : Int) (e sz : Nat) (nw : Bool) (ty s : Nat) (els : List (List FV)) : sY S id (some a) (some b) (some (e, sz)) (some (.sl nw ty s els)) = .go (bH (sz = s ∧ 0 ≤ a ∧ a ≤ b ∧ b ≤ els.length)) (.vw id s a.toNat (b.toNat - a.toNat)) S := nr rfl
theorem qXh (S : HS) (id sz off : Nat) (a b : Int) (e sz' : Nat) (nw : Bool) (ty s : Nat) (els : List (List FV)) : sX S id sz off (some a) (some b) (some (e, sz')) (some (.sl nw ty s els)) = .go (bH (sz' = sz ∧ s = sz ∧ 0 ≤ a ∧ a ≤ b ∧ off + b ≤ els.length)) (.vw id sz (off + a.toNat) (b.toNat - a.toNat)) S := nr rfl
theorem zKv (nw : Bool) (ty s : Nat) (els : List (List FV)) : zKw (some (.sl nw ty s els)) = els.length := nr rfl
theorem zDl (S : HS) (id s off m : Nat) (us ua : Option (Nat × Nat)) (kk : IntKind) (n : Int) : nX S us ua (some (.vw id s off m)) (some (.v (.int kk n))) = tE S id s off m n us (rlk S.st id) := nr rfl
theorem qXv (S : HS) (id s off m : Nat) (n : Int) (e sz : Nat) (nw : Bool) (ty s' : Nat) (els : List (List FV)) : tE S id s off m n (some (e, sz)) (some (.sl nw ty s' els)) = .go (bH (sz = s ∧ s' = s ∧ 0 ≤ n ∧ n < m)) (.ptr id s (off + n.toNat) 0) S := nr rfl
theorem zBx (st : aB) (sz id s off n : Nat) : lP st sz (.vw id s off n) = match rlk st id with | some (.sl _ _ s' els) => some (bH (s = sz ∧ s' = sz), (els.drop off).take n) | _ => none := nr rfl
theorem zDc (i s o n : Nat) : cR (.vw i s o n) = some [.vw i s o n] := nr rfl
theorem zL1 (i s o n : Nat) : (HV.vw i s o n).one = true := nr rfl
theorem rD (p : Nat → Bool) (i s o n : Nat) : HV.kill p (.vw i s o n) = bif p i then .junk else .vw i s o n := by rw [HV.kill]
theorem jZ (m : Nat → Option Nat) (i s o n : Nat) : HV.ren m (.vw i s o n) = match m i with | some j => .vw j s o n | none => .junk := by rw [HV.ren]; cases m i <;> rfl
theorem gF (id : Nat) (x0 : HV) (i s o n : Nat) : HV.sub id x0 (.vw i s o n) = if i = id then zEq x0 s o n else .vw i s o n := by rw [HV.sub]
theorem zBn (i s o n : Nat) : wR (.vw i s o n) = [] := nr rfl
theorem qVs (i s o n : Nat) : qBv (.vw i s o n) = [] := nr rfl
theorem zHw (S : HS) (c : Prop) (id : Nat) : qJ8 S c (some (.own id)) = qEs S c (rlk S.st id) := nr rfl
theorem zHx (S : HS) (c : Prop) (fr : Bool) (xs : List (List FV)) : qJ8 S c (some (.lst fr xs)) = .go c (.v (.int .i64 xs.length)) S := nr rfl
theorem zHy (S : HS) (c : Prop) (nw : Bool) (ty s : Nat) (els : List (List HV)) : qEs S c (some (.hl nw ty s els)) = .go c (.v (.int .i64 els.length)) S := nr rfl
theorem qXw (S : HS) (id : Nat) (n : Int) (e sz : Nat) (nw : Bool) (ty s : Nat) (els : List (List HV)) : pV S id n (some (e, sz)) (some (.hl nw ty s els)) = .go (bH (sz = s ∧ 0 ≤ n ∧ n < els.length)) (.ptr id s n.toNat 0) S := nr rfl
theorem zHz (S : HS) (c : Prop) (nw : Bool) (ty s : Nat) (els : List (List FV)) : qEs S c (some (.sl nw ty s els)) = .go c (.v (.int .i64 els.length)) S := nr rfl
theorem zDf (S : HS) (us : Option (Nat × Nat)) (l h : Option Operand) (fr : Bool) (xs : List (List FV)) : rE S us l h (some (.lst fr xs)) = sZ S fr xs (lN (lo S.env) l 0) (lN (lo S.env) h xs.length) us := nr rfl
theorem qXj (S : HS) (fr : Bool) (xs : List (List FV)) (a b : Int) (e sz : Nat) : sZ S fr xs (some a) (some b) (some (e, sz)) = .go (bH (0 ≤ a ∧ a ≤ b ∧ b ≤ xs.length) ∧ Wid sz xs) (.lst fr ((xs.take b.toNat).drop a.toNat)) S := nr rfl
theorem zDg (S : HS) (kt : Option (Option Nat)) (id sz i k : Nat) : tD S kt (some (.ptr id sz i k)) = mM S sz i k kt (rlk S.st id) := nr rfl
theorem zDh (S : HS) (kt : Option (Option Nat)) (fr : Bool) (xs : List (List FV)) (sz i k : Nat) : tD S kt (some (.elt fr xs sz i k)) = uD S xs i k kt := nr rfl
theorem zDi (S : HS) (sz i k : Nat) (nw : Bool) (ty s : Nat) (els : List (List FV)) : mM S sz i k (some none) (some (.sl nw ty s els)) = .go (bH (sz = s ∧ i < els.length ∧ k < (els.getD i []).length)) ((els.getD i []).getD k default).h S := nr rfl
theorem qXm (S : HS) (sz i k n : Nat) (nw : Bool) (ty s : Nat) (els : List (List FV)) : mM S sz i k (some (some n)) (some (.sl nw ty s els)) = .go (bH (sz = s ∧ i < els.length ∧ k + n ≤ (els.getD i []).length)) (.agg ((((els.getD i []).drop k).take n).map FV.h)) S := nr rfl
theorem zDk (S : HS) (sz i k : Nat) (nw : Bool) (ty : Nat) (cells : List HV) : mM S sz i k (some none) (some (.bx nw ty cells)) = .go (bH (i = 0 ∧ k < cells.length)) (cells.getD k .junk) S := nr rfl
theorem qXo (S : HS) (sz i k n : Nat) (nw : Bool) (ty : Nat) (cells : List HV) : mM S sz i k (some (some n)) (some (.bx nw ty cells)) = .go (bH (i = 0 ∧ k + n ≤ cells.length)) (.agg ((cells.drop k).take n)) S := nr rfl
theorem zDj (S : HS) (sz i k : Nat) (nw : Bool) (ty s : Nat) (els : List (List HV)) : mM S sz i k (some none) (some (.hl nw ty s els)) = .go (bH (sz = s ∧ i < els.length ∧ k < (els.getD i []).length)) ((els.getD i []).getD k .junk) S := nr rfl
theorem qXn (S : HS) (sz i k n : Nat) (nw : Bool) (ty s : Nat) (els : List (List HV)) : mM S sz i k (some (some n)) (some (.hl nw ty s els)) = .go (bH (sz = s ∧ i < els.length ∧ k + n ≤ (els.getD i []).length)) (.agg (((els.getD i []).drop k).take n)) S := nr rfl
theorem qXe (S : HS) (id sz i k : Nat) (kt : Option (Option Nat)) (h : HV) (nw : Bool) (ty s : Nat) (els : List (List HV)) : oJ S id sz i k kt h (some (.hl nw ty s els)) = pS S id sz i k nw ty s els kt h := nr rfl
theorem qSy (S : HS) (id sz i k : Nat) (nw : Bool) (ty s : Nat) (els : List (List HV)) (h : HV) : pS S id sz i k nw ty s els (some none) h = .go (bH (sz = s ∧ i < els.length ∧ k < (els.getD i []).length ∧ h.one = true)) (.v undef) ⟨S.env, hU id (.hl nw ty s (els.set i ((els.getD i []).set k h))) S.st⟩ := nr (by cases h <;> rfl)
theorem qSz (S : HS) (id sz i k n : Nat) (nw : Bool) (ty s : Nat) (els : List (List HV)) (hs : List HV) : pS S id sz i k nw ty s els (some (some n)) (.agg hs) = .go (bH (sz = s ∧ i < els.length ∧ hs.length = n ∧ k + n ≤ (els.getD i []).length)) (.v undef) ⟨S.env, hU id (.hl nw ty s (els.set i (splice (els.getD i []) k hs))) S.st⟩ := nr rfl
theorem qXp (S : HS) (xs : List (List FV)) (i k : Nat) : uD S xs i k (some none) = .go (bH (i < xs.length ∧ k < (xs.getD i []).length)) ((xs.getD i []).getD k default).h S := nr rfl
theorem qXq (S : HS) (xs : List (List FV)) (i k n : Nat) : uD S xs i k (some (some n)) = .go (bH (i < xs.length ∧ k + n ≤ (xs.getD i []).length)) (.agg ((((xs.getD i []).drop k).take n).map FV.h)) S := nr rfl
theorem zDd (S : HS) (kt : Option (Option Nat)) (id sz i k : Nat) (h : HV) : uC S kt (some (.ptr id sz i k)) (some h) = oJ S id sz i k kt h (rlk S.st id) := nr rfl
theorem qXd (S : HS) (id sz i k : Nat) (kt : Option (Option Nat)) (h : HV) (nw : Bool) (ty s : Nat) (els : List (List FV)) : oJ S id sz i k kt h (some (.sl nw ty s els)) = pR S id sz i k nw ty s els kt h := nr rfl
theorem qXf (S : HS) (id sz i k : Nat) (kt : Option (Option Nat)) (h : HV) (nw : Bool) (ty : Nat) (cells : List HV) : oJ S id sz i k kt h (some (.bx nw ty cells)) = pT S id i k nw ty cells kt h := nr rfl
theorem qSw (S : HS) (id sz i k : Nat) (nw : Bool) (ty s : Nat) (els : List (List FV)) (h : HV) : pR S id sz i k nw ty s els (some none) h = match h.f with | some f => .go (bH (sz = s ∧ i < els.length ∧ k < (els.getD i []).length ∧ f.one = true)) (.v undef) ⟨S.env, hU id (.sl nw ty s (els.set i ((els.getD i []).set k f))) S.st⟩ | none => .bad := nr rfl
theorem qSx (S : HS) (id sz i k n : Nat) (nw : Bool) (ty s : Nat) (els : List (List FV)) (hs : List HV) : pR S id sz i k nw ty s els (some (some n)) (.agg hs) = match HV.fs hs with | some fs => .go (bH (sz = s ∧ i < els.length ∧ fs.length = n ∧ k + n ≤ (els.getD i []).length)) (.v undef) ⟨S.env, hU id (.sl nw ty s (els.set i (splice (els.getD i []) k fs))) S.st⟩ | none => .bad := nr rfl
theorem qS0 (S : HS) (id i k : Nat) (nw : Bool) (ty : Nat) (cells : List HV) (h : HV) : pT S id i k nw ty cells (some none) h = .go (bH (i = 0 ∧ k < cells.length ∧ h.one = true)) (.v undef) ⟨S.env, hU id (.bx nw ty (cells.set k h)) S.st⟩ := nr (by cases h <;> rfl)
theorem qS1 (S : HS) (id i k n : Nat) (nw : Bool) (ty : Nat) (cells : List HV) (hs : List HV) : pT S id i k nw ty cells (some (some n)) (.agg hs) = .go (bH (i = 0 ∧ hs.length = n ∧ k + n ≤ cells.length)) (.v undef) ⟨S.env, hU id (.bx nw ty (splice cells k hs)) S.st⟩ := nr rfl
theorem zDu (S : HS) (id : Nat) (t : TypeId) (z : Array Value) : pB S id t (some z) = .go (bH (tZ z = true)) (.ptr id z.size 0 0) ((S.kill (only id)).row id (.bx true t (z.toList.map .v))) := nr rfl
theorem zMi (S : HS) (id : Nat) (t : TypeId) (h : HV) : qS8 S id t (some h) = qJ9 S id t (cR h) := nr rfl
theorem zH3 (S : HS) (id : Nat) (t : TypeId) (cs : List HV) : qJ9 S id t (some cs) = .go True (.ptr id cs.length 0 0) ((S.kill (only id)).row id (.bx true t (cs.map (HV.kill (only id))))) := nr rfl
theorem qVo (l : aH) : jA l [] = some [] := nr rfl
theorem qRr (l : aH) (i : Nat) (x : Operand) (r : List (Nat × Operand)) : jA l ((i, x) :: r) = match hev l x with | some v => (match jA l r with | some vs => some ((i, v) :: vs) | none => none) | none => none := nr rfl
theorem zC3 (bF : Nat → Option (Nat × Nat)) (cells : List HV) : qEq bF cells [] = some (True, cells) := nr rfl
theorem qWt (bF : Nat → Option (Nat × Nat)) (cells : List HV) (i : Nat) (h : HV) (r : List (Nat × HV)) : qEq bF cells ((i, h) :: r) = match bF i with | some (off, n) => (match cR h with | some cs => (match qEq bF (splice cells off cs) r with | some (c, out) => some (bH (cs.length = n ∧ off + n ≤ cells.length) ∧ c, out) | none => none) | none => none) | none => none := nr rfl
theorem zDt (S : HS) (ok : Bool) (bF : Nat → Option (Nat × Nat)) (z : Array Value) (ps : List (Nat × HV)) : xT S ok bF (some z) (some ps) = tL S (ok && tZ z) (qEq bF (z.toList.map .v) ps) := nr rfl
theorem qYa (S : HS) (ok : Bool) (c : Prop) (cs : List HV) : tL S ok (some (c, cs)) = .go (bH (ok = true) ∧ c) (.agg cs) S := nr rfl
theorem zHc (sz : Nat) (els : List (List FV)) : qP4 sz els [] = some (True, els) := nr rfl
theorem zCy (sz : Nat) (els : List (List FV)) (i : Nat) (h : HV) (r : List (Nat × HV)) : qP4 sz els ((i, h) :: r) = match cR h with | some cs => (match HV.fs cs with | some fs => (match qP4 sz (els.set i fs) r with | some (c, out) => some (bH (fs.length = sz ∧ i < els.length) ∧ c, out) | none => none) | none => none) | none => none := nr rfl
theorem qX7 (S : HS) (id n e sz by' : Nat) (z : Array Value) (ps : List (Nat × HV)) : lF S id n (some (e, sz, by', z)) (some ps) = match tZ z && z.size == sz with | true => kW S id e sz n z ps (qT2 ps) | false => .bad := nr rfl
theorem zJz  : qT2 [] = true := nr rfl
theorem zEl (i : Nat) (h : HV) (r : List (Nat × HV)) : qT2 ((i, h) :: r) = match cR h with | some cs => ((HV.fs cs).isSome && qT2 r) | none => qT2 r := nr rfl
theorem zCz (sz : Nat) (els : List (List HV)) : qEp sz els [] = some (True, els) := nr rfl
theorem qWr (sz : Nat) (els : List (List HV)) (i : Nat) (h : HV) (r : List (Nat × HV)) : qEp sz els ((i, h) :: r) = match cR h with | some cs => (match qEp sz (els.set i cs) r with | some (c, out) => some (bH (cs.length = sz ∧ i < els.length) ∧ c, out) | none => none) | none => none := nr rfl
theorem zQk (id : Nat) (els : List (List HV)) : hkl id els = els.map (List.map (HV.kill (only id))) := nr rfl
theorem qX8 (S : HS) (id e sz n : Nat) (z : Array Value) (ps : List (Nat × HV)) : kW S id e sz n z ps true = mR S id e sz n (qP4 sz (List.replicate n (z.toList.map .v)) ps) := nr rfl
theorem qX9 (S : HS) (id e sz n : Nat) (z : Array Value) (ps : List (Nat × HV)) : kW S id e sz n z ps false = mP S id e sz n (qEp sz (List.replicate n (z.toList.map .v)) ps) := nr rfl
theorem qS6 (S : HS) (id e sz n : Nat) (c : Prop) (els : List (List HV)) : mP S id e sz n (some (c, els)) = .go (bH (n * sz ≤ 16777216 ∧ n ≤ 16777216) ∧ c) (.own id) ((S.kill (only id)).row id (.hl true e sz (hkl id els))) := nr rfl
theorem qS7 (S : HS) (id e sz n : Nat) (c : Prop) (els : List (List FV)) : mR S id e sz n (some (c, els)) = .go (bH (n * sz ≤ 16777216 ∧ n ≤ 16777216) ∧ c) (.own id) ((S.kill (only id)).row id (.sl true e sz els)) := nr rfl
theorem zHv (S : HS) (id e sz by' : Nat) (z : Array Value) (n m : Int) : qGo S id (some (e, sz, by', z)) (some (.v (.int .i64 n))) (some (.v (.int .i64 m))) = match tZ z && z.size == sz with | true => .go (bH (n = m ∧ 0 ≤ n ∧ by' * n.toNat ≤ 281474976710656 ∧ n.toNat ≤ maxLen)) (.own id) ((S.kill (only id)).row id (.sl true e sz (List.replicate n.toNat (z.toList.map .v)))) | false => .bad := nr rfl
theorem qVt (st : aB) (sz id : Nat) : lP st sz (.own id) = match rlk st id with | some (.sl _ _ s els) => some (bH (s = sz), els) | _ => none := nr rfl
theorem qVv (st : aB) (sz : Nat) (fr : Bool) (xs : List (List FV)) : lP st sz (.lst fr xs) = some (Wid sz xs, xs) := nr rfl
theorem qVu (st : aB) (sz : Nat) : lP st sz (.v (.slice none 0 0)) = some (True, []) := nr rfl
theorem qW2 (P : Program) (S : HS) (id : Nat) (t : Nat) (args : Array Operand) (ats : Array TypeId) : gW P S id (.call ⟨.value (.tmp t), args, ats⟩) = qDh (fnH (hlk S.env t)) (kV S.env args.toList) := nr rfl
theorem zTb (f : FuncId) : fnH (some (.v (.func (.func f) #[] #[]))) = some f := nr rfl
theorem qS5 (f : FuncId) (a : Option (List HV)) : qDh (some f) a = qGp f a := nr rfl
theorem zDa (P : Program) (S : HS) (id : Nat) (args : Array Operand) (ats : Array TypeId) : gW P S id (.call ⟨.builtin .copy, args, ats⟩) = vF S (ats == #[cZ ats, cZ ats]) (bE P (cZ ats)) (kV S.env args.toList) := nr rfl
theorem zDm (S : HS) (us : Option (Nat × Nat)) (id : Nat) (x : HV) : vF S true us (some [.own id, x]) = rF S id 0 none none x us (rlk S.st id) := nr rfl
theorem zH1 (S : HS) (us : Option (Nat × Nat)) (id s off n : Nat) (x : HV) : vF S true us (some [.vw id s off n, x]) = rF S id off (some s) (some n) x us (rlk S.st id) := nr rfl
theorem qX6 (S : HS) (id off : Nat) (x : HV) (e sz : Nat) (nw : Bool) (ty s : Nat) (els : List (List FV)) : rF S id off none none x (some (e, sz)) (some (.sl nw ty s els)) = match decide (sz = s) with | true => qA0 S id s off els.length (s = s) nw ty els (lP S.st s x) | false => .bad := nr rfl
theorem zDn (S : HS) (id off s0 n : Nat) (x : HV) (e sz : Nat) (nw : Bool) (ty s : Nat) (els : List (List FV)) : rF S id off (some s0) (some n) x (some (e, sz)) (some (.sl nw ty s els)) = match decide (sz = s) with | true => qA0 S id s off n (s0 = s) nw ty els (lP S.st s x) | false => .bad := nr rfl
def cpy (els : List (List FV)) (off : Nat) (news : List (List FV)) (n : Nat) : List (List FV) := splice els off (news.take n)
def cpn (news : List (List FV)) (n : Nat) : Nat := min news.length n
theorem qS4 (S : HS) (id sz off n : Nat) (ok : Prop) (nw : Bool) (ty : Nat) (els : List (List FV)) (c : Prop) (news : List (List FV)) : qA0 S id sz off n ok nw ty els (some (c, news)) = .go (c ∧ bH (off + n ≤ els.length ∧ 0 < sz ∧ ok)) (.v (.int .i64 (cpn news n : Nat))) ⟨S.env, hU id (.sl nw ty sz (cpy els off news n)) S.st⟩ := nr rfl
theorem qS9 (S : HS) (nid : Nat) (same str : Bool) (e sz by' : Nat) (z : Array Value) (id : Nat) (x : HV) : kB S nid same str (some (e, sz, by', z)) (some [.own id, x]) = match (same || str) && z.size == sz with | true => qEt S id e sz by' same x (qMl same str S.st sz x) (rlk S.st id) | false => .bad := nr rfl
theorem zBy (st : aB) (sz id : Nat) : qJn st sz (.own id) = match rlk st id with | some (.sl _ _ s els) => some (bH (s = sz), els.map (List.map FV.h)) | some (.hl _ _ s els) => some (bH (s = sz), els) | _ => none := nr rfl
theorem zB0 (st : aB) (sz : Nat) (fr : Bool) (xs : List (List FV)) : qJn st sz (.lst fr xs) = some (Wid sz xs, xs.map (List.map FV.h)) := nr rfl
theorem zBz (st : aB) (sz : Nat) : qJn st sz (.v (.slice none 0 0)) = some (True, []) := nr rfl
theorem zNi (a b c d : Nat) : (#[a, b] == #[c, d]) = (a == c && b == d) := by rw [Bool.eq_iff_iff]; simp
theorem zLi (str : Bool) (st : aB) (sz : Nat) (x : HV) : qMl true str st sz x = lP st sz x := nr rfl
theorem zLj (st : aB) (sz : Nat) (x : HV) : qMl false true st sz x = qRy x := nr rfl
theorem zBw (s : ByteArray) : qRy (.v (.string s)) = some (True, gJ s) := nr rfl
theorem qTa (S : HS) (nid : Nat) (same str : Bool) (e sz by' : Nat) (z : Array Value) (x : HV) : kB S nid same str (some (e, sz, by', z)) (some [.v (.slice none 0 0), x]) = match same && z.size == sz with | true => qA1 S nid e sz by' true [] (lP S.st sz x) | false => .bad := nr rfl
theorem zH4 (S : HS) (id e sz by' : Nat) (same : Bool) (x : HV) (news : Option (Prop × List (List FV))) (nw : Bool) (ty s : Nat) (els : List (List HV)) : qEt S id e sz by' same x news (some (.hl nw ty s els)) = match same && (decide (ty = e) && decide (s = sz)) with | true => qGq S id e sz by' nw els (qJn S.st sz x) | false => .bad := nr rfl
theorem zH7 (S : HS) (id e sz by' : Nat) (nw : Bool) (els news : List (List HV)) (c : Prop) : qGq S id e sz by' nw els (some (c, news)) = .go (c ∧ bH ((els.length + news.length) * by' ≤ 140737488355328 ∧ 0 < by' ∧ 0 < sz)) (.own id) ((S.kill (only id)).row id (.hl nw e sz (hkl id (els ++ news)))) := nr rfl
theorem zH5 (S : HS) (id e sz by' : Nat) (same : Bool) (x : HV) (news : Option (Prop × List (List FV))) (nw : Bool) (ty s : Nat) (els : List (List FV)) : qEt S id e sz by' same x news (some (.sl nw ty s els)) = match decide (ty = e) && decide (s = sz) with | true => qA1 S id e sz by' nw els news | false => .bad := nr rfl
theorem zH6 (S : HS) (id e sz by' : Nat) (nw : Bool) (els : List (List FV)) (c : Prop) (news : List (List FV)) : qA1 S id e sz by' nw els (some (c, news)) = .go (c ∧ bH ((els.length + news.length) * by' ≤ 140737488355328 ∧ 0 < by' ∧ 0 < sz)) (.own id) ((S.kill (only id)).row id (.sl nw e sz (els ++ news))) := nr rfl
theorem zB5  : uX [] = some [] := nr rfl
theorem qV3 (x : Value) (r : List HV) : uX (.v x :: r) = match uX r with | some vs => some (x :: vs) | none => none := nr rfl
theorem zQs (S : HS) (up : Bool) (t : TypeId) (neg : Bool) (xs ys : List HV) : hEq S up t neg (some (.agg xs)) (some (.agg ys)) = qP7 t neg (uX xs) (uX ys) := nr rfl
theorem zMf (S : HS) (up : Bool) (t : TypeId) (neg : Bool) (a b c d : Nat) : hEq S up t neg (some (.ptr a b c d)) (some (.v (.pointer none))) = .go (bH (up = true)) (.v (.bool neg)) S := nr rfl
theorem zMg (S : HS) (up : Bool) (t : TypeId) (neg fr : Bool) (xs : List (List FV)) (a b c : Nat) : hEq S up t neg (some (.elt fr xs a b c)) (some (.v (.pointer none))) = .go (bH (up = true)) (.v (.bool neg)) S := nr rfl
theorem zDo (S : HS) (ok okB : Bool) (s : ByteArray) : tK S ok okB (some (.v (.string s))) = .bytes okB s := nr rfl
theorem zDp (S : HS) (ok okB : Bool) (id : Nat) : tK S ok okB (some (.own id)) = qDg S ok (rlk S.st id) := nr rfl
theorem zDq (S : HS) (ok okB fr : Bool) (xs : List (List FV)) : tK S ok okB (some (.lst fr xs)) = rG S ok (rN xs) := nr rfl
theorem zDr (S : HS) (ok nw : Bool) (t s : Nat) (els : List (List FV)) : qDg S ok (some (.sl nw t s els)) = rG S ok (rN els) := nr rfl
theorem zDs (S : HS) (ok : Bool) (ns : List Int) : rG S ok (some ns) = .go (bH (ok = true)) (.v (.string (strOfNums ns))) S := nr rfl
theorem qYs  : rN [] = some [] := nr rfl
theorem qTy (n : Int) (r : List (List FV)) : rN ([.v (.int .u8 n)] :: r) = match rN r with | some ns => some (n :: ns) | none => none := nr rfl
theorem zMh (t : TypeId) (neg : Bool) (xs ys : List Value) : qP7 t neg (some xs) (some ys) = .eqn t xs ys neg := nr rfl
theorem zH2 (f : FuncId) (hs : List HV) : qGp f (some hs) = .call f hs := nr rfl
theorem zNg (ats : Array TypeId) : cZ ats = ats.getD 0 0 := nr rfl
theorem zBr (z : Array Value) : tZ z = z.toList.all (fun v => v.oneCell') := nr rfl
theorem zU6 (x : Value) : (HV.v x).f = some (.v x) := nr rfl
theorem zQp (i : Nat) : (HV.own i).f = none := nr rfl
theorem zS7 (i s o n : Nat) : (HV.vw i s o n).f = none := nr rfl
theorem zQo (i s j k : Nat) : (HV.ptr i s j k).f = none := nr rfl
theorem zQq (fr : Bool) (xs : List (List FV)) : (HV.lst fr xs).f = some (.lst fr xs) := nr rfl
theorem zL9  : HV.fs [] = some [] := nr rfl
theorem zHh (h : HV) (r : List HV) : HV.fs (h :: r) = match h.f, HV.fs r with | some f, some fs => some (f :: fs) | _, _ => none := nr rfl
theorem zQw (x : Value) : (FV.v x).one = x.oneCell' := nr rfl
theorem zJb (fr : Bool) (xs : List (List FV)) : (FV.lst fr xs).one = true := nr rfl
theorem zQh (x : Value) : (HV.v x).one = x.oneCell' := nr rfl
theorem zHa (fr : Bool) (xs : List (List FV)) : (HV.lst fr xs).one = true := nr rfl
theorem zG9 (i : Nat) : (HV.own i).one = true := nr rfl
theorem zG8 (i s j k : Nat) : (HV.ptr i s j k).one = true := nr rfl
theorem zTd (x : Value) : (FV.v x).h = .v x := nr rfl
theorem zJh (fr : Bool) (xs : List (List FV)) : (FV.lst fr xs).h = .lst fr xs := nr rfl
theorem zLb (k : IntKind) (n : Int) : Value.oneCell' (.int k n) = true := nr rfl
theorem qW8 (k : IntKind) (n : Int) : cR (.v (.int k n)) = some [.v (.int k n)] := nr rfl
theorem zF2 (b : Bool) : Value.oneCell' (.bool b) = true := nr rfl
theorem qSu (b : Bool) : cR (.v (.bool b)) = some [.v (.bool b)] := nr rfl
theorem zK9 (s : ByteArray) : Value.oneCell' (.string s) = true := nr rfl
theorem qW6 (s : ByteArray) : cR (.v (.string s)) = some [.v (.string s)] := nr rfl
theorem zBq (a : Option Addr) (n c : Nat) : Value.oneCell' (.slice a n c) = true := nr rfl
theorem qP6 (a : Option Addr) (n c : Nat) : cR (.v (.slice a n c)) = some [.v (.slice a n c)] := nr rfl
theorem zLa (a : Option Addr) : Value.oneCell' (.pointer a) = true := nr rfl
theorem qW7 (a : Option Addr) : cR (.v (.pointer a)) = some [.v (.pointer a)] := nr rfl
theorem qXc (cs : List HV) : cR (.agg cs) = some cs := nr rfl
theorem qXb (fr : Bool) (xs : List (List FV)) : cR (.lst fr xs) = some [.lst fr xs] := nr rfl
theorem qXa (i : Nat) : cR (.own i) = some [.own i] := nr rfl
theorem qW9 (i s j k : Nat) : cR (.ptr i s j k) = some [.ptr i s j k] := nr rfl
theorem zAy {α : Type} (l : List α) (k : Nat) (cs : List α) : splice l k cs = l.take k ++ cs ++ l.drop (k + cs.length) := nr rfl
theorem qHc (e : aH) (s : aB) (p : Nat → Bool) : HS.kill ⟨e, s⟩ p = ⟨iX p e, cF p s⟩ := nr rfl
theorem qPb (e : aH) (s : aB) (id : Nat) (r : Row) : HS.row ⟨e, s⟩ id r = ⟨e, (id, r) :: s⟩ := nr rfl
theorem zE6 (e : aH) (s : aB) (k : Nat) (h : HV) : HS.set ⟨e, s⟩ (some k) h = ⟨(k, h) :: e, s⟩ := nr rfl
theorem zE7 (S : HS) (h : HV) : HS.set S none h = S := nr rfl
theorem qPd (e : aH) (s : aB) (d : Nat) (h : HV) : HS.rep ⟨e, s⟩ d h = ⟨xR d h e, s⟩ := nr rfl
theorem qEm (d : Nat) (h : HV) : xR d h [] = [] := nr rfl
theorem qCg (d : Nat) (h : HV) (k : Nat) (x : HV) (r : aH) : xR d h ((k, x) :: r) = if k = d then (k, h) :: r else (k, x) :: xR d h r := nr rfl
theorem nZ (p : Nat → Bool) : iX p [] = [] := nr rfl
theorem lR (p : Nat → Bool) (k : Nat) (h : HV) (r : aH) : iX p ((k, h) :: r) = (k, h.kill p) :: iX p r := nr rfl
theorem nC (p : Nat → Bool) : cF p [] = [] := nr rfl
theorem lL (p : Nat → Bool) (k : Nat) (h : Row) (r : aB) : cF p ((k, h) :: r) = bif p k then cF p r else (k, h.kill p) :: cF p r := nr rfl
theorem qV (p : Nat → Bool) (nw : Bool) (t s : Nat) (xs : List (List FV)) : (Row.sl nw t s xs).kill p = .sl nw t s xs := nr rfl
theorem qW (p : Nat → Bool) (nw : Bool) (t s : Nat) (xs : List (List HV)) : (Row.hl nw t s xs).kill p = .hl nw t s (xs.map (List.map (HV.kill p))) := nr rfl
theorem qX (p : Nat → Bool) (nw : Bool) (t : Nat) (cs : List HV) : (Row.bx nw t cs).kill p = .bx nw t (cs.map (HV.kill p)) := nr rfl
theorem xS (p : Nat → Bool) (x : Value) : HV.kill p (.v x) = .v x := by rw [HV.kill]
theorem rC (m : Nat → Option Nat) (x : Value) : HV.ren m (.v x) = .v x := by rw [HV.ren]
theorem jD (id : Nat) (x0 : HV) (x : Value) : HV.sub id x0 (.v x) = .v x := by rw [HV.sub]
theorem nT (p : Nat → Bool) (fr : Bool) (xs : List (List FV)) : HV.kill p (.lst fr xs) = .lst fr xs := by rw [HV.kill]
theorem jG (m : Nat → Option Nat) (fr : Bool) (xs : List (List FV)) : HV.ren m (.lst fr xs) = .lst fr xs := by rw [HV.ren]
theorem dW (id : Nat) (x0 : HV) (fr : Bool) (xs : List (List FV)) : HV.sub id x0 (.lst fr xs) = .lst fr xs := by rw [HV.sub]
theorem qCh (p : Nat → Bool) (fr : Bool) (xs : List (List FV)) (s j k : Nat) : HV.kill p (.elt fr xs s j k) = .elt fr xs s j k := by rw [HV.kill]
theorem zG5 (m : Nat → Option Nat) (fr : Bool) (xs : List (List FV)) (s j k : Nat) : HV.ren m (.elt fr xs s j k) = .elt fr xs s j k := by rw [HV.ren]
theorem dX (id : Nat) (x0 : HV) (fr : Bool) (xs : List (List FV)) (s j k : Nat) : HV.sub id x0 (.elt fr xs s j k) = .elt fr xs s j k := by rw [HV.sub]
theorem lQ (p : Nat → Bool) : HV.kill p .junk = .junk := by rw [HV.kill]
theorem iS (m : Nat → Option Nat) : HV.ren m .junk = .junk := by rw [HV.ren]
theorem cW (id : Nat) (x0 : HV) : HV.sub id x0 .junk = .junk := by rw [HV.sub]
theorem nR (p : Nat → Bool) (i : Nat) : HV.kill p (.own i) = bif p i then .junk else .own i := by rw [HV.kill]
theorem nQ (p : Nat → Bool) (i s j k : Nat) : HV.kill p (.ptr i s j k) = bif p i then .junk else .ptr i s j k := by rw [HV.kill]
theorem nU (p : Nat → Bool) (cs : List HV) : HV.kill p (.agg cs) = .agg (cs.map (HV.kill p)) := by rw [HV.kill]
theorem nP (p : Nat → Bool) (cs : List HV) : HV.kill p (.tup cs) = .tup (cs.map (HV.kill p)) := by rw [HV.kill]
theorem jF (m : Nat → Option Nat) (i : Nat) : HV.ren m (.own i) = match m i with | some j => .own j | none => .junk := by rw [HV.ren]; cases m i <;> rfl
theorem kR (m : Nat → Option Nat) (i s j k : Nat) : HV.ren m (.ptr i s j k) = match m i with | some i' => .ptr i' s j k | none => .junk := by rw [HV.ren]; cases m i <;> rfl
theorem jH (m : Nat → Option Nat) (cs : List HV) : HV.ren m (.agg cs) = .agg (cs.map (HV.ren m)) := by rw [HV.ren]
theorem jE (m : Nat → Option Nat) (cs : List HV) : HV.ren m (.tup cs) = .tup (cs.map (HV.ren m)) := by rw [HV.ren]
theorem dV (id : Nat) (x0 : HV) (i : Nat) : HV.sub id x0 (.own i) = if i = id then x0 else .own i := by rw [HV.sub]
theorem dU (id : Nat) (x0 : HV) (i s j k : Nat) : HV.sub id x0 (.ptr i s j k) = if i = id then .junk else .ptr i s j k := by rw [HV.sub]
theorem dY (id : Nat) (x0 : HV) (cs : List HV) : HV.sub id x0 (.agg cs) = .agg (cs.map (HV.sub id x0)) := by rw [HV.sub]
theorem dT (id : Nat) (x0 : HV) (cs : List HV) : HV.sub id x0 (.tup cs) = .tup (cs.map (HV.sub id x0)) := by rw [HV.sub]
theorem mF (m : Nat → Option Nat) (nw : Bool) (t s : Nat) (xs : List (List FV)) : (Row.sl nw t s xs).ren m = .sl nw t s xs := nr rfl
theorem mG (m : Nat → Option Nat) (nw : Bool) (t s : Nat) (xs : List (List HV)) : (Row.hl nw t s xs).ren m = .hl nw t s (xs.map (List.map (HV.ren m))) := nr rfl
theorem mH (m : Nat → Option Nat) (nw : Bool) (t : Nat) (cs : List HV) : (Row.bx nw t cs).ren m = .bx nw t (cs.map (HV.ren m)) := nr rfl
theorem fY (id : Nat) (x0 : HV) (nw : Bool) (t s : Nat) (xs : List (List FV)) : (Row.sl nw t s xs).sub id x0 = .sl nw t s xs := nr rfl
theorem fZ (id : Nat) (x0 : HV) (nw : Bool) (t s : Nat) (xs : List (List HV)) : (Row.hl nw t s xs).sub id x0 = .hl nw t s (xs.map (List.map (HV.sub id x0))) := nr rfl
theorem gC (id : Nat) (x0 : HV) (nw : Bool) (t : Nat) (cs : List HV) : (Row.bx nw t cs).sub id x0 = .bx nw t (cs.map (HV.sub id x0)) := nr rfl
theorem wT (id i : Nat) : only id i = (i == id) := nr rfl
theorem zJk (n i : Nat) : eC n i = (decide (n ≤ i) && decide (i < n + 8)) := by rw [Bool.eq_iff_iff]; simp [eC]
theorem zSk (n i : Nat) : sh n i = bif decide (i < 8) then some (n + i) else none := by unfold sh; congr 1; rw [Bool.eq_iff_iff]; simp
theorem zNj (e : aH) (s : aB) (n : Nat) (st : aB) : HS.adds ⟨e, s⟩ n st = ⟨iX (eC n) e, qDx n st (cF (eC n) s)⟩ := nr rfl
theorem zBg (n : Nat) (b : aB) : qDx n [] b = b := nr rfl
theorem qVa (n k : Nat) (r : Row) (t b : aB) : qDx n ((k, r) :: t) b = (n + k, r.ren (sh n)) :: qDx n t b := nr rfl
theorem gD (e : aH) (s : aB) (id : Nat) (x : HV) : HS.rest ⟨e, s⟩ id x = ⟨qTg id x e, qHz id x s⟩ := nr rfl
theorem dZ (id : Nat) (x : HV) : qTg id x [] = [] := nr rfl
theorem cX (id : Nat) (x : HV) (k : Nat) (h : HV) (r : aH) : qTg id x ((k, h) :: r) = (k, HV.sub id x h) :: qTg id x r := nr rfl
theorem dR (id : Nat) (x : HV) : qHz id x [] = [] := nr rfl
theorem cT (id : Nat) (x : HV) (k : Nat) (h : Row) (r : aB) : qHz id x ((k, h) :: r) = if k = id then qHz id x r else (k, h.sub id x) :: qHz id x r := nr rfl
theorem uL (id : Nat) (r : Row) : hU id r [] = [] := nr rfl
theorem qC (id : Nat) (r : Row) (k : Nat) (s : Row) (t : aB) : hU id r ((k, s) :: t) = if k = id then (k, r) :: t else (k, s) :: hU id r t := nr rfl
theorem zMe (l : aH) (ds : List (Option Nat)) : hG l ds none = .yes := nr rfl
theorem zMd (l : aH) (ds : List (Option Nat)) (j : Nat) (want : Bool) : hG l ds (some (j, want)) = match ds[j]? with | some (some d) => hGv d want (hlk l d) | _ => .bad := nr rfl
theorem zH0 (d : Nat) (want b : Bool) : hGv d want (some (.v (.bool b))) = .ask d b want := nr rfl
theorem zMc (d : Nat) (want : Bool) (vs : Array Value) : hGv d want (some (.v (.tuple vs))) = .no := nr rfl
theorem zQm (P : Program) (d : Option Nat) (S : HS) (K : HS → Prop) (c : Prop) (h : HV) (S' : HS) : qGa P d S K (.go c h S') = (c ∧ K (S'.set d h)) := nr rfl
theorem zHf (P : Program) (d : Option Nat) (S : HS) (K : HS → Prop) (f : FuncId) (args : List HV) : qGa P d S K (.call f args) = HAt P f args S (fun h S' => kZ K (S'.set d h)) := nr rfl
theorem zL7 (P : Program) (d : Option Nat) (S : HS) (K : HS → Prop) (t : TypeId) (x y : List Value) (neg : Bool) : qGa P d S K (.eqn t x y neg) = ∃ r, EqR P t x.toArray y.toArray r ∧ kZ K (S.set d (.v (.bool (neg ^^ r)))) := nr rfl
theorem zC2 (P : Program) (d : Option Nat) (S : HS) (K : HS → Prop) (ok : Bool) (s : ByteArray) : qGa P d S K (.bytes ok s) = (bH (ok = true ∧ s.size ≤ 9223372036854775807) ∧ K (S.set d (.lst true (gJ s)))) := nr rfl
theorem zQn (P : Program) (N : Nat) (o : Oper) (S : HS) (K : HS → Prop) : HGo P N o S K = zNu P N o (mX S o.op) K := nr rfl
theorem zL8 (P : Program) (N : Nat) (o : Oper) (S : HS) (K : HS → Prop) : zNu P N o S K = match eV N o.dst with | true => qGa P o.dst S K (hop P S (rB o.dst) o.op) | false => False := nr rfl
theorem zCs (S : HS) (x : Operand) : mX S (.move x) = S := nr rfl
theorem qSo (S : HS) (x : Operand) : mX S (.assign x) = S := nr rfl
theorem zCq (S : HS) (c a b : Operand) : mX S (.pick c a b) = S := nr rfl
theorem qP3 (S : HS) (x : Operand) (i : Nat) : mX S (.extract x i) = S := nr rfl
theorem qWn (S : HS) (t : TypeId) (x : Operand) (f : Nat) : mX S (.field t x f) = S := nr rfl
theorem qWo (S : HS) (t : TypeId) (x : Operand) (f : Nat) : mX S (.fieldAddr t x f) = S := nr rfl
theorem zCr (S : HS) (x : Operand) : mX S (.nilCheck x) = S := nr rfl
theorem qWm (S : HS) (t : TypeId) (x i : Operand) : mX S (.indexAddr t x i) = S := nr rfl
theorem qWk (S : HS) (t : TypeId) (x : Operand) (l h m : Option Operand) : mX S (.slice t x l h m) = S := nr rfl
theorem zCu (S : HS) (t : TypeId) (x : Operand) : mX S (.load t x) = S := nr rfl
theorem qWp (S : HS) (t : TypeId) (ps : Array (Nat × Operand)) : mX S (.build t ps) = S := nr rfl
theorem zG7 (S : HS) (b : BinOp) (t : TypeId) (x y : Operand) (u : TypeId) : mX S (.binOp b t x y u) = S := nr rfl
theorem zL0 (S : HS) (u : UnOp) (t : TypeId) (x : Operand) : mX S (.unOp u t x) = S := nr rfl
theorem zCv (S : HS) (s d : TypeId) (x : Operand) : mX S (.convert s d x) = S := nr rfl
theorem qWl (S : HS) (t : TypeId) (x i : Operand) : mX S (.index t x i) = S := nr rfl
theorem zCw (S : HS) (c : Call) : mX S (.call c) = S := nr rfl
theorem qWq (S : HS) (t : TypeId) : mX S (.alloc t) = S := nr rfl
theorem zG6 (S : HS) (t : TypeId) (x : Operand) : mX S (.box t x) = S := nr rfl
theorem zCt (S : HS) (t : TypeId) (x y : Operand) : mX S (.makeSlice t x y) = S := nr rfl
theorem qWj (S : HS) (t : TypeId) (x y : Operand) : mX S (.store t x y) = restAll S (zFr S (hev S.env x) (hev S.env y)) := nr rfl
theorem qSn (S : HS) (t n : TypeId) (ps : Array (Nat × Operand)) : mX S (.buildSlice t n ps) = restAll S (zFw (jA S.env ps.toList)) := nr rfl
theorem zFq (S : HS) (id sz i k : Nat) (h : HV) : zFr S (some (.ptr id sz i k)) (some h) = qRt S h (rlk S.st id) := nr rfl
theorem zFs (S : HS) (h : HV) (nw : Bool) (ty s : Nat) (els : List (List FV)) : qRt S h (some (.sl nw ty s els)) = wR h := nr rfl
theorem zFu (S : HS) (h : HV) (nw : Bool) (ty : Nat) (cs : List HV) : qRt S h (some (.bx nw ty cs)) = [] := nr rfl
theorem zFv (ps : List (Nat × HV)) : zFw (some ps) = ps.flatMap fun p => wR p.2 := nr rfl
theorem qVp (i : Nat) : wR (.own i) = [i] := nr rfl
theorem zFx (x : Value) : wR (.v x) = [] := nr rfl
theorem qVq (fr : Bool) (xs : List (List FV)) : wR (.lst fr xs) = [] := nr rfl
theorem qVr (cs : List HV) : wR (.agg cs) = cs.flatMap qBv := nr rfl
theorem qRv (i : Nat) : qBv (.own i) = [i] := nr rfl
theorem zBo (x : Value) : qBv (.v x) = [] := nr rfl
theorem qRw (fr : Bool) (xs : List (List FV)) : qBv (.lst fr xs) = [] := nr rfl
theorem qRh (S : HS) : restAll S [] = S := nr rfl
theorem qPc (S : HS) (i : Nat) (r : List Nat) : restAll S (i :: r) = restAll (qDv S i) r := nr rfl
theorem qU7 (e : aH) (s : aB) (i : Nat) : qDv ⟨e, s⟩ i = match decide (i < 1000000) with | true => (match rlk s i with | some (.sl nw _ _ els) => HS.rest ⟨e, s⟩ i (.lst nw els) | _ => ⟨e, s⟩) | false => ⟨e, s⟩ := by unfold qDv; rw [show Nat.blt i held = decide (i < 1000000) by rw [Bool.eq_iff_iff]; simp [Nat.blt_eq, held]]; rfl
theorem zFt (S : HS) (h : HV) (nw : Bool) (ty s : Nat) (els : List (List HV)) : qRt S h (some (.hl nw ty s els)) = [] := nr rfl
theorem zG4 (N : Nat) (d : Option Nat) (S : HS) (K : HS → Prop) : mW N d S K = match eV N d with | true => K (S.set d (.v undef)) | false => False := nr rfl
theorem zCo (P : Program) (N : Nat) (o : Oper) (S : HS) (K : HS → Prop) : qNf P N o S K .yes = HGo P N o S K := nr rfl
theorem zG3 (P : Program) (N : Nat) (o : Oper) (S : HS) (K : HS → Prop) : qNf P N o S K .no = mW N o.dst S K := nr rfl
theorem zCp (P : Program) (N : Nat) (o : Oper) (S : HS) (K : HS → Prop) (d : Nat) (b want : Bool) : qNf P N o S K (.ask d b want) = match b == want with | true => HGo P N o (S.rep d (.v (.bool want))) K | false => mW N o.dst (S.rep d (.v (.bool (!want)))) K := nr rfl
theorem zLz (P : Program) (N : Nat) (ds : List (Option Nat)) (K : HS → Prop) (S : HS) : HV2 P N ds K [] S = K S := nr rfl
theorem zG2 (P : Program) (N : Nat) (ds : List (Option Nat)) (K : HS → Prop) (o : Oper) (rest : List Oper) (S : HS) : HV2 P N ds K (o :: rest) S = qNf P N o S (HV2 P N ds K rest) (hG S.env ds o.guard) := nr rfl
theorem zL5 (P : Program) (o : Oper) (S : HS) (K : HS → Prop) (c : Prop) (h : HV) (S' : HS) : qFe P o S K (.go c h S') = (dD o.op = true ∧ c ∧ K (S.set o.dst h)) := nr rfl
theorem zC1 (P : Program) (o : Oper) (S : HS) (K : HS → Prop) (f : FuncId) (args : List HV) : qFe P o S K (.call f args) = zTy P f args S (fun x => kZ K (S.set o.dst (.v x))) := nr rfl
theorem zHe (P : Program) (o : Oper) (S : HS) (K : HS → Prop) (t : TypeId) (x y : List Value) (neg : Bool) : qFe P o S K (.eqn t x y neg) = ∃ r, EqR P t x.toArray y.toArray r ∧ kZ K (S.set o.dst (.v (.bool (neg ^^ r)))) := nr rfl
theorem zL6 (P : Program) (N : Nat) (o : Oper) (S : HS) (K : HS → Prop) : qUb P N o S K = match eV N o.dst with | true => qFe P o S K (hop P S (rB o.dst) o.op) | false => False := nr rfl
theorem qWh (P : Program) (N : Nat) (o : Oper) (S : HS) (K : HS → Prop) : qF8 P N o S K .yes = qUb P N o S K := nr rfl
theorem zCn (P : Program) (N : Nat) (o : Oper) (S : HS) (K : HS → Prop) : qF8 P N o S K .no = mW N o.dst S K := nr rfl
theorem qWi (P : Program) (N : Nat) (o : Oper) (S : HS) (K : HS → Prop) (d : Nat) (b want : Bool) : qF8 P N o S K (.ask d b want) = match b == want with | true => qUb P N o (S.rep d (.v (.bool want))) K | false => mW N o.dst (S.rep d (.v (.bool (!want)))) K := nr rfl
theorem zLy (P : Program) (N : Nat) (ds : List (Option Nat)) (K : HS → Prop) (S : HS) : HVq P N ds K [] S = K S := nr rfl
theorem zG1 (P : Program) (N : Nat) (ds : List (Option Nat)) (K : HS → Prop) (o : Oper) (rest : List Oper) (S : HS) : HVq P N ds K (o :: rest) S = qF8 P N o S (HVq P N ds K rest) (hG S.env ds o.guard) := nr rfl
theorem zA4 (t : Nat) : bM (.tmp t) = [t] := nr rfl
theorem qRd (v : Value) : bM (.const v) = [] := nr rfl
theorem qN6 (g : Nat) : bM (.global g) = [] := nr rfl
theorem qUy (f : FuncId) : bM (.func f) = [] := nr rfl
theorem qUx  : vZ [] = [] := nr rfl
theorem qRc (x : Operand) (r : List Operand) : vZ (x :: r) = bM x ++ vZ r := nr rfl
theorem qUv  : qU [] = [] := nr rfl
theorem qQ9 (k : Nat) (x : Operand) (r : List (Nat × Operand)) : qU ((k, x) :: r) = bM x ++ qU r := nr rfl
theorem qUz (x : Operand) : qGh (some x) = bM x := nr rfl
theorem qU0  : qGh none = [] := nr rfl
theorem qN1 (x : Operand) : aZ (.move x) = bM x := nr rfl
theorem qH4 (x : Operand) : aZ (.assign x) = bM x := nr rfl
theorem qN0 (x : Operand) : aZ (.nilCheck x) = bM x := nr rfl
theorem qNz (c a b : Operand) : aZ (.pick c a b) = bM c ++ (bM a ++ bM b) := nr rfl
theorem qGx (x : Operand) (i : Nat) : aZ (.extract x i) = bM x := nr rfl
theorem qLi (t : TypeId) (x : Operand) (f : Nat) : aZ (.field t x f) = bM x := nr rfl
theorem qLj (t : TypeId) (x : Operand) (f : Nat) : aZ (.fieldAddr t x f) = bM x := nr rfl
theorem qN2 (t : TypeId) (x : Operand) : aZ (.load t x) = bM x := nr rfl
theorem qUw (u : UnOp) (t : TypeId) (x : Operand) : aZ (.unOp u t x) = bM x := nr rfl
theorem qN3 (s d : TypeId) (x : Operand) : aZ (.convert s d x) = bM x := nr rfl
theorem qLh (t : TypeId) (x i : Operand) : aZ (.indexAddr t x i) = bM x ++ bM i := nr rfl
theorem qLg (t : TypeId) (x i : Operand) : aZ (.index t x i) = bM x ++ bM i := nr rfl
theorem qLe (t : TypeId) (x : Operand) (l h : Option Operand) : aZ (.slice t x l h none) = bM x ++ (qGh l ++ qGh h) := nr rfl
theorem qRb (b : BinOp) (t : TypeId) (x y : Operand) (u : TypeId) : aZ (.binOp b t x y u) = bM x ++ bM y := nr rfl
theorem qLk (t : TypeId) (ps : Array (Nat × Operand)) : aZ (.build t ps) = qU ps.toList := nr rfl
theorem qH3 (t : TypeId) (n : Nat) (ps : Array (Nat × Operand)) : aZ (.buildSlice t n ps) = qU ps.toList := nr rfl
theorem qLf (t : TypeId) (x y : Operand) : aZ (.makeSlice t x y) = bM x ++ bM y := nr rfl
theorem qN4 (k : Callee) (args : Array Operand) (ats : Array TypeId) : aZ (.call ⟨k, args, ats⟩) = qH7 k ++ vZ args.toList := nr rfl
theorem qN5 (x : Operand) : qH7 (.value x) = bM x := nr rfl
theorem qH6 (b : Builtin) : qH7 (.builtin b) = [] := nr rfl
theorem qU2 (ds : List (Option Nat)) : iJ ds none = [] := nr rfl
theorem qU1 (ds : List (Option Nat)) (g : Nat) (b : Bool) : iJ ds (some (g, b)) = match ds[g]? with | some (some d) => [d] | _ => [] := nr rfl
theorem zBk (e : aH) : kM e [] = [] := nr rfl
theorem qVl (e : aH) (t : Nat) (r : List Nat) : kM e (t :: r) = match hlk e t with | some h => (t, h) :: kM e r | none => kM e r := nr rfl
theorem qVi  : nG [] = true := nr rfl
theorem zFm (k : Nat) (v : Value) (r : aH) : nG ((k, .v v) :: r) = nG r := nr rfl
theorem qVj (k : Nat) (b : Bool) (xs : List (List FV)) (r : aH) : nG ((k, .lst b xs) :: r) = nG r := nr rfl
theorem qVk (k : Nat) (hs : List HV) (r : aH) : nG ((k, .agg hs) :: r) = nG r := nr rfl
theorem zHb (d : Option Nat) (S : HS) (K : HS → Prop) (c : Prop) (i : Nat) (S' : HS) : zAf d S K (.go c (.own i) S') = match rlk S'.st i with | some (.sl _ _ _ els) => c ∧ K (S.set d (.lst true els)) | _ => False := nr rfl
theorem qR2 (t : TypeId) (n : Nat) (ps : Array (Nat × Operand)) : zLn (.buildSlice t n ps) = true := nr rfl
theorem qV0 (t : TypeId) (x y : Operand) : zLn (.makeSlice t x y) = true := nr rfl
theorem qPi (t : TypeId) (n : Nat) (ps : Array (Nat × Operand)) : dD (.buildSlice t n ps) = false := nr rfl
theorem qRk (t : TypeId) (x y : Operand) : dD (.makeSlice t x y) = false := nr rfl
theorem zL3 (P : Program) (o : Oper) (S T : HS) (K : HS → Prop) (c : Prop) (h : HV) (S' : HS) : qC2 P o S T K (.go c h S') = match dD o.op with | true => c ∧ K (S.set o.dst h) | false => (match zLn o.op && nG T.env with | true => zAf o.dst S K (hop P ⟨T.env, []⟩ (rB o.dst) o.op) | false => False) := nr rfl
theorem zC0 (P : Program) (o : Oper) (S T : HS) (K : HS → Prop) (f : FuncId) (args : List HV) : qC2 P o S T K (.call f args) = zEn P f args T (fun x => kZ K (S.set o.dst x)) := nr rfl
theorem zHd (P : Program) (o : Oper) (S T : HS) (K : HS → Prop) (t : TypeId) (x y : List Value) (neg : Bool) : qC2 P o S T K (.eqn t x y neg) = ∃ r, EqR P t x.toArray y.toArray r ∧ kZ K (S.set o.dst (.v (.bool (neg ^^ r)))) := nr rfl
theorem zL4 (P : Program) (N : Nat) (o : Oper) (S T : HS) (K : HS → Prop) : qY1 P N o S T K = match eV N o.dst with | true => qC2 P o S T K (hop P T (rB o.dst) o.op) | false => False := nr rfl
theorem qWf (P : Program) (N : Nat) (o : Oper) (S T : HS) (K : HS → Prop) : jN P N o S T K .yes = qY1 P N o S T K := nr rfl
theorem zCm (P : Program) (N : Nat) (o : Oper) (S T : HS) (K : HS → Prop) : jN P N o S T K .no = mW N o.dst S K := nr rfl
theorem qWg (P : Program) (N : Nat) (o : Oper) (S T : HS) (K : HS → Prop) (d : Nat) (b want : Bool) : jN P N o S T K (.ask d b want) = match b == want with | true => qY1 P N o (S.rep d (.v (.bool want))) (T.rep d (.v (.bool want))) K | false => mW N o.dst (S.rep d (.v (.bool (!want)))) K := nr rfl
theorem zLx (P : Program) (N : Nat) (ds : List (Option Nat)) (K : HS → Prop) (S : HS) : HVr P N ds K [] S = K S := nr rfl
theorem zG0 (P : Program) (N : Nat) (ds : List (Option Nat)) (K : HS → Prop) (o : Oper) (rest : List Oper) (S : HS) : HVr P N ds K (o :: rest) S = jN P N o S ⟨kM S.env (iJ ds o.guard ++ aZ o.op), S.st⟩ (HVr P N ds K rest) (hG (kM S.env (iJ ds o.guard ++ aZ o.op)) ds o.guard) := nr rfl
theorem zCk (k : Nat) : rB (some k) = 8 * k := nr rfl
theorem zCl  : rB none = 0 := nr rfl
theorem qVd (x : Operand) : dD (.move x) = true := nr rfl
theorem qPj (x : Operand) : dD (.assign x) = true := nr rfl
theorem qVb (c a b : Operand) : dD (.pick c a b) = true := nr rfl
theorem qLn (x : Operand) (i : Nat) : dD (.extract x i) = true := nr rfl
theorem qRn (t : TypeId) (x : Operand) (f : Nat) : dD (.field t x f) = true := nr rfl
theorem qRo (t : TypeId) (x : Operand) (f : Nat) : dD (.fieldAddr t x f) = true := nr rfl
theorem qVc (x : Operand) : dD (.nilCheck x) = true := nr rfl
theorem qRm (t : TypeId) (x i : Operand) : dD (.indexAddr t x i) = true := nr rfl
theorem qRj (t : TypeId) (x : Operand) (l h m : Option Operand) : dD (.slice t x l h m) = true := nr rfl
theorem qVe (t : TypeId) (x : Operand) : dD (.load t x) = true := nr rfl
theorem qRp (t : TypeId) (ps : Array (Nat × Operand)) : dD (.build t ps) = true := nr rfl
theorem zBj (b : BinOp) (t : TypeId) (x y : Operand) (u : TypeId) : dD (.binOp b t x y u) = true := nr rfl
theorem zFi (u : UnOp) (t : TypeId) (x : Operand) : dD (.unOp u t x) = true := nr rfl
theorem qVf (s d : TypeId) (x : Operand) : dD (.convert s d x) = true := nr rfl
theorem qRl (t : TypeId) (x i : Operand) : dD (.index t x i) = true := nr rfl
theorem zBi (args : Array Operand) (ats : Array TypeId) : dD (.call ⟨.builtin .len, args, ats⟩) = true := nr rfl
theorem zBh (args : Array Operand) (ats : Array TypeId) : dD (.call ⟨.builtin .min, args, ats⟩) = true := nr rfl
theorem zEk (k : Nat) : qA8 k [] = [] := nr rfl
theorem qYx (k : Nat) (v : HV) (r : List HV) : qA8 k (v :: r) = (k, v) :: qA8 (k + 1) r := nr rfl
theorem zZ (e : aH) (s : aB) (ks ids : List Nat) : HS.keep ⟨e, s⟩ ks ids = ⟨vC ks e, qAe ids s⟩ := nr rfl
theorem zR (l : aH) : vC [] l = [] := nr rfl
theorem zP (k : Nat) (r : List Nat) (l : aH) : vC (k :: r) l = match hlk l k with | some v => (k, v) :: vC r l | none => vC r l := nr rfl
theorem zQ (l : aB) : qAe [] l = [] := nr rfl
theorem zN (k : Nat) (r : List Nat) (l : aB) : qAe (k :: r) l = match rlk l k with | some v => (k, v) :: qAe r l | none => qAe r l := nr rfl
theorem yA (P : Program) (rs : List ResultVar) (Q : HV → aB → Prop) (S : HS) : zHg P rs Q .normal S = uM P S rs fun hs => qF9 S (qEk hs) Q := nr rfl
theorem yM (P : Program) (rs : List ResultVar) (Q : HV → aB → Prop) (S : HS) : zHg P rs Q .ret S = uM P S rs fun hs => qF9 S (qEk hs) Q := nr rfl
theorem yH (P : Program) (S : HS) (K : List HV → Prop) : uM P S [] K = K [] := nr rfl
theorem aA (P : Program) (S : HS) (p ty : Nat) (r : List ResultVar) (K : List HV → Prop) : uM P S (.cell p ty :: r) K = zPf (tD S (bN P ty) (hlk S.env p)) fun h => uM P S r fun hs => K (h :: hs) := nr rfl
theorem aD (c : Prop) (h : HV) (S : HS) (K : HV → Prop) : zPf (.go c h S) K = (c ∧ K h) := nr rfl
theorem yE (P : Program) (S : HS) (t : Nat) (r : List ResultVar) (K : List HV → Prop) : uM P S (.tmp t :: r) K = match hlk S.env t with | some h => uM P S r fun hs => K (h :: hs) | none => False := nr rfl
theorem yK (h : HV) : qEk [h] = h := nr rfl
theorem yJ (a b : HV) (r : List HV) : qEk (a :: b :: r) = .tup (a :: b :: r) := nr rfl
theorem zK6 (i : Nat) : pos [] i = none := nr rfl
theorem yF (k : Nat) (r : List Nat) (i : Nat) : pos (k :: r) i = if k = i then some 0 else (pos r i).map (· + 1) := nr rfl
theorem zA7 (m : Nat → Option Nat) (st : aB) (k : Nat) : kL m st k [] = [] := nr rfl
theorem yG (m : Nat → Option Nat) (st : aB) (k id : Nat) (r : List Nat) : kL m st k (id :: r) = match rlk st id with | some row => (k, row.ren m) :: kL m st (k + 1) r | none => kL m st (k + 1) r := nr rfl
theorem qYn {p : Prop} (h : p) : bH p = True := eq_true h
theorem zD5 : bH True = True := rfl
theorem ltT {a b : Int} (h : a < b) : decide (a < b) = true := decide_eq_true h
theorem ltF {a b : Int} (h : b ≤ a) : decide (a < b) = false := decide_eq_false (by omega)
theorem leT {a b : Int} (h : a ≤ b) : decide (a ≤ b) = true := decide_eq_true h
theorem leF {a b : Int} (h : b < a) : decide (a ≤ b) = false := decide_eq_false (by omega)
theorem eqT {a b : Int} (h : a = b) : decide (a = b) = true := decide_eq_true h
theorem eqF {a b : Int} (h : a < b ∨ b < a) : decide (a = b) = false := decide_eq_false (by omega)
theorem zMl {α : Type} {l : List α} {i : Nat} {d : α} (h : i < l.length) : l.getD i d = l[i] := eP h
theorem oT {α β : Type} {f : α → β} {l : List α} {i : Nat} {d : β} (h : i < l.length) : (l.map f).getD i d = f (l[i]) := by rw [zMl (by simpa using h), List.getElem_map]
theorem qYe : (default : FV) = .v (.bool false) := rfl
theorem zR9 {x : Int} (h1 : -9223372036854775808 ≤ x) (h2 : x ≤ 9223372036854775807) : IntKind.i64.wrap x = x := zNw ⟨by unfold zQb; exact h1, by unfold zQl; exact h2⟩
theorem qUh (n : Nat) : ((n : Int) + 1).toNat = n + 1 := by omega
theorem zAp (n m : Nat) : ((n : Int) + (m : Int)).toNat = n + m := by omega
theorem qBc {α : Type} {f : α → List FV} {sz : Nat} (l : List α) (h : ∀ a, (f a).length = sz) : Wid sz (l.map f) := fun x hx => by
 obtain ⟨a, -, rfl⟩ := List.mem_map.1 hx; exact h a
end Go.Eng
end

section
set_option linter.unusedSimpArgs false
set_option linter.unusedVariables false
namespace Go.Eng
open Go Go.RowKit
def qAi (s : ByteArray) : List FV := [.v (.string s)]
def aR (a : List ByteArray) : List (List FV) := a.map qAi
def zCe (n : Int) : List FV := [.v (.int .i64 n)]
def mL (a : List Int) : List (List FV) := a.map zCe
def zGx (r : Int × Int) : List FV := [.v (.int .i64 r.1), .v (.int .i64 r.2)]
def qAg (a : List (Int × Int)) : List (List FV) := a.map zGx
theorem aN (a : List ByteArray) : (aR a).length = a.length := by simp [aR]
theorem qAx (a : List Int) : (mL a).length = a.length := by simp [mL]
theorem qB8 (a : List (Int × Int)) : (qAg a).length = a.length := by simp [qAg]
theorem fX (a : List ByteArray) : Wid 1 (aR a) = True := eq_true (qBc a fun _ => rfl)
theorem qEe (a : List Int) : Wid 1 (mL a) = True := eq_true (qBc a fun _ => rfl)
theorem zCg (a : List (Int × Int)) : Wid 2 (qAg a) = True := eq_true (qBc a fun _ => rfl)
theorem oM {a : List ByteArray} {i : Nat} {d : List FV} (h : i < a.length) : (aR a).getD i d = [.v (.string a[i])] := by unfold aR; rw [oT h]; rfl
theorem qJ2 {a : List Int} {i : Nat} {d : List FV} (h : i < a.length) : (mL a).getD i d = [.v (.int .i64 a[i])] := by unfold mL; rw [oT h]; rfl
theorem zCh {a : List (Int × Int)} {i : Nat} {d : List FV} (h : i < a.length) : (qAg a).getD i d = [.v (.int .i64 a[i].1), .v (.int .i64 a[i].2)] := by unfold qAg; rw [oT h]; rfl
theorem bU (a : List ByteArray) : oZ (aR a) = aR a := by
 unfold oZ aR; rw [List.map_map]; apply List.map_congr_left; intro s _; simp [qAi, FV.old]
theorem zGw (a : List Int) : oZ (mL a) = mL a := by
 unfold oZ mL; rw [List.map_map]; apply List.map_congr_left; intro s _; simp [zCe, FV.old]
theorem iY (a : List ByteArray) : ∀ x ∈ aR a, ∀ f ∈ x, FreshF f := fun x hx f hf => by
 obtain ⟨s, -, rfl⟩ := List.mem_map.1 hx; simp [qAi] at hf; subst hf; exact .v _
theorem qJ3 (a : List Int) : ∀ x ∈ mL a, ∀ f ∈ x, FreshF f := fun x hx f hf => by
 obtain ⟨s, -, rfl⟩ := List.mem_map.1 hx; simp [zCe] at hf; subst hf; exact .v _
theorem qSi (a : List (Int × Int)) : ∀ x ∈ qAg a, ∀ f ∈ x, FreshF f := fun x hx f hf => by
 obtain ⟨s, -, rfl⟩ := List.mem_map.1 hx; simp [zGx] at hf; rcases hf with rfl | rfl <;> exact .v _
theorem uK (a : List ByteArray) (s : ByteArray) : aR a ++ [[.v (.string s)]] = aR (a ++ [s]) := by simp [aR, qAi]
theorem qWa (a : List (Int × Int)) (x y : Int) : qAg a ++ [[.v (.int .i64 x), .v (.int .i64 y)]] = qAg (a ++ [(x, y)]) := by simp [qAg, zGx]
theorem qBf (a : List ByteArray) (n : Nat) : (aR a).take n = aR (a.take n) := by simp [aR, List.map_take]
theorem qBg (a : List ByteArray) (n : Nat) : (aR a).drop n = aR (a.drop n) := by simp [aR, List.map_drop]
theorem zR1 {P : Program} {N : Nat} {x : Code} {Q : eW} {S : HS} (k id ty sz : Nat) (hk : hlk S.env k = some (.v (.slice none 0 0))) (h : HW P N x Q (((S.kill (only id)).row id (.sl true ty sz [])).rep k (.own id))) : HW P N x Q S := fun c l w I => by
 refine h c l w ?_
 obtain ⟨ρ, xs, G⟩ := I
 have G2 := G.new id (.sl true ty sz []) [] (.slice none 0 0) (w' := w) (Below.refl _ _) (fun b hb => by cases hb) (fun _ _ =>
  ⟨by rw [aF]; exact World.ownsRow_nil w 0 ty sz, ⟨by simp, fun i k hi => absurd hi (by simp)⟩, fun b hb => by rw [aF] at hb; cases hb⟩)
 refine ⟨_, _, G2.rows, G2.apart, fun j y hj => ?_, G2.kept, G2.a0⟩
 simp only [HS.rep, qJ5] at hj
 by_cases e : j = k
 ·subst e
  rw [if_pos rfl] at hj
  have h1 : hlk ((S.kill (only id)).row id (.sl true ty sz [])).env j = some (.v (.slice none 0 0)) := by
   show hlk (iX (only id) S.env) j = _
   rw [lY, hk]; simp [HV.kill]
  rw [h1] at hj
  simp only [Option.map_some, Option.some.injEq] at hj
  subst hj
  obtain ⟨v, a, b⟩ := G2.env j _ h1
  have := aX b
  subst this
  refine ⟨_, a, ?_⟩
  have := RepH.own (w := w) (A := c.A (eE ρ id (.slice none 0 0)) (((S.kill (only id)).row id (.sl true ty sz [])).rep j (.own id)).st) (n0 := c.n0) (ρ := eE ρ id (.slice none 0 0)) id (by rw [aF]; rfl)
  rw [aF] at this
  exact this
 ·rw [if_neg e] at hj
  exact G2.env j y hj
theorem vD {P : Program} {f : FuncId} {args : List HV} {x : Value} (h : ∀ (w : World) (vs : List Value), qAa w (fun _ => False) w.heap.size (fun _ => undef) vs args → Calls P f vs.toArray w (Ret fun r w' => r = x ∧ Below w.heap.size w w')) : HFun P f args (fun h st => h = .v x ∧ st = []) := fun w vs R =>
 Ret.mono (h w vs R) fun v w' ⟨hv, B⟩ => ⟨B, .v x, [], fun i r hi => by simp [rlk] at hi, ⟨rfl, rfl⟩, fun _ => undef, fun _ => [], ⟨fun id r hr => by simp [rlk] at hr, fun i j r s b hne hi => by simp [rlk] at hi, fun k x hk => by simp [hlk] at hk, ⟨B.os, B.tape, B.output, B.size, fun b hlt _ => B.block b hlt⟩, fun b hb => ⟨hb, fun h => h⟩⟩, by rw [hv]; exact .v x⟩
theorem aK {st : aB} {fr : Bool} {xs ys : List (List FV)} (h : oZ xs = ys) : Lend st (.lst fr xs) (.lst false ys) := h ▸ .lst fr xs
theorem kD {st : aB} {id ty sz : Nat} {nw : Bool} {els ys : List (List FV)} (h : oZ els = ys) (hr : rlk st id = some (.sl nw ty sz els)) : Lend st (.own id) (.lst false ys) := h ▸ .own hr
section
variable {S : HS} {Q : HV → aB → Prop}
theorem aM {a : Value} (q : Q (.v a) []) : qF9 S (.v a) Q := ⟨[], by simp, rfl, .v _, fun id h => by simp at h, by rw [HV.ren]; exact q⟩
theorem oH {a b : Value} (q : Q (.tup [.v a, .v b]) []) : qF9 S (.tup [.v a, .v b]) Q :=
 ⟨[], by simp, rfl, .tup fun x hx => by simp at hx; rcases hx with rfl | rfl <;> exact .v _, fun id h => by simp at h, by rw [HV.ren]; simp only [List.map_cons, List.map_nil, HV.ren]; exact q⟩
theorem kP {a b c : Value} (q : Q (.tup [.v a, .v b, .v c]) []) : qF9 S (.tup [.v a, .v b, .v c]) Q :=
 ⟨[], by simp, rfl, .tup fun x hx => by simp at hx; rcases hx with rfl | rfl | rfl <;> exact .v _, fun id h => by simp at h, by rw [HV.ren]; simp only [List.map_cons, List.map_nil, HV.ren]; exact q⟩
theorem xQ {id ty sz : Nat} {els : List (List FV)} (hr : rlk S.st id = some (.sl true ty sz els)) (hf : ∀ x ∈ els, ∀ f ∈ x, FreshF f) (q : Q (.own 0) [(0, .sl true ty sz els)]) : qF9 S (.own id) Q :=
 ⟨[id], by simp, by simp [dup], .own _, fun i h r hr' => by
  simp at h; subst h; rw [hr] at hr'; simp only [Option.some.injEq] at hr'; subst hr'; exact ⟨rfl, hf⟩, by
  rw [HV.ren]; simp only [pos, if_true, kL, hr, Row.ren]; exact q⟩
theorem qEl {id ty sz : Nat} {els : List (List FV)} {b : Value} (hr : rlk S.st id = some (.sl true ty sz els)) (hf : ∀ x ∈ els, ∀ f ∈ x, FreshF f) (q : Q (.tup [.own 0, .v b]) [(0, .sl true ty sz els)]) : qF9 S (.tup [.own id, .v b]) Q :=
 ⟨[id], by simp, by simp [dup], .tup fun x hx => by simp at hx; rcases hx with rfl | rfl <;> first | exact .v _ | exact .own _, fun i h r hr' => by
  simp at h; subst h; rw [hr] at hr'; simp only [Option.some.injEq] at hr'; subst hr'; exact ⟨rfl, hf⟩, by
  rw [HV.ren]; simp only [List.map_cons, List.map_nil, HV.ren, pos, if_true, kL, hr, Row.ren]; exact q⟩
end
theorem qZg {P : Program} {w w' : World} {ty sz : Nat} {els : List (List FV)} {v : Value} {l : List Value} (B : Below w.heap.size w w') (h : Own w' w.heap.size ty sz v els.length l) (hw : ∀ x ∈ els, x.length = sz)
  (hl : ∀ i k (hi : i < els.length) (hk : k < els[i].length), ∃ u, l[i * sz + k]? = some u ∧ u.oneCell' = true ∧ els[i][k] = .v u) :
  ∃ ρ xs, Good (cx w (fun _ => False) (fun b => b < w.heap.size)) ⟨[], [(0, .sl true ty sz els)]⟩ (fun _ => none) w' ρ xs ∧ ρ 0 = v := by
 refine ⟨fun _ => v, fun _ => l, ⟨fun id r hr => ?_, fun i j r s b hne hi hj => ?_, fun k x hk => by simp [hlk] at hk, ⟨B.os, B.tape, B.output, B.size, fun b hlt _ => B.block b hlt⟩, fun b hb => ⟨hb, fun h => h⟩⟩, rfl⟩
 ·simp only [rlk] at hr
  split at hr
  ·simp only [Option.some.injEq] at hr
   subst hr
   refine ⟨⟨h.1, h.2.imp _root_.id fun ⟨g, cap, cur, a, b, d⟩ => ⟨g, cap, cur, a, Nat.zero_le _, d⟩⟩, ⟨hw, fun i k hi hk => ?_⟩, fun b hb => ⟨.inl (h.lt b hb).1, fun _ => (h.lt b hb).1⟩⟩
   obtain ⟨u, a, b, e⟩ := hl i k hi hk
   exact ⟨u, a, b, by rw [e]; exact .v u⟩
  ·cases hr
 ·simp only [rlk] at hi hj
  split at hi
  ·split at hj
   ·omega
   ·cases hj
  ·cases hi
end Go.Eng
end

section
set_option linter.unusedSimpArgs false
set_option linter.unusedVariables false
namespace Go.Eng
open Go Go.RowKit
theorem zF6 (j : Nat) : qFr [] j = none := nr rfl
theorem zBu (k : Nat) (r : List Nat) (j : Nat) : qFr (k :: r) j = if j = 0 then some k else qFr r (j - 1) := by cases j <;> simp [qFr]
theorem zPc (ids : List Nat) (n j : Nat) : sh2 ids n j = match qFr ids j with | some i => some i | none => bif decide (j < 8) then some (n + j) else none := by
 unfold sh2; split <;> rename_i h <;> rw [h]; congr 1; rw [Bool.eq_iff_iff]; simp [Nat.blt_eq]
theorem zLv (i : Nat) : inL [] i = false := nr rfl
theorem zGy (k : Nat) (r : List Nat) (i : Nat) : inL (k :: r) i = (k == i || inL r i) := nr rfl
theorem zCb : qV9 none = true := nr rfl
theorem zLq (nw : Bool) (t s : Nat) (xs : List (List FV)) : qV9 (some (.sl nw t s xs)) = true := nr rfl
theorem zLs (nw : Bool) (t : Nat) (cs : List HV) : qV9 (some (.bx nw t cs)) = false := nr rfl
theorem zLr (nw : Bool) (t s : Nat) (xs : List (List HV)) : qV9 (some (.hl nw t s xs)) = true := nr rfl
theorem zLu (nw : Bool) (t s : Nat) (xs : List (List HV)) : uB (some (.hl nw t s xs)) = False := nr rfl
theorem zCc : uB none = False := nr rfl
theorem zLt (nw : Bool) (t s : Nat) (xs : List (List FV)) : uB (some (.sl nw t s xs)) = False := nr rfl
theorem zQe (t : Nat) (cs : List HV) : uB (some (.bx true t cs)) = False := nr rfl
theorem zQf (t : Nat) (cs : List HV) : uB (some (.bx false t cs)) = True := nr rfl
theorem zAn (ids : List Nat) (st : aB) (n i : Nat) : vN ids st n i = (eC n i || (inL ids i && qV9 (rlk st i))) := nr rfl
theorem zMj (ids : List Nat) (n i : Nat) : qEu ids n i = (eC n i || inL ids i) := nr rfl
theorem zBs (ids : List Nat) (st : aB) (j : Nat) : kG ids st j = match qFr ids j with | some i => rlk st i | none => none := nr rfl
theorem zM1 (nw : Bool) (t s : Nat) (xs : List (List FV)) : (Row.sl nw t s xs).dark = .sl nw t s xs := nr rfl
theorem zM3 (nw : Bool) (t : Nat) (cs : List HV) : (Row.bx nw t cs).dark = .bx false t cs := nr rfl
theorem zM2 (nw : Bool) (t s : Nat) (xs : List (List HV)) : (Row.hl nw t s xs).dark = .hl nw t s xs := nr rfl
theorem zMu (o : Option Row) (nw : Bool) (t s : Nat) (xs : List (List HV)) : (Row.hl nw t s xs).flag o = .hl nw t s xs := by
 cases o with
 | none => rfl
 | some o => cases o <;> rfl
theorem zJg (r : Row) (nw : Bool) (t s : Nat) (xs : List (List HV)) : r.flag (some (.hl nw t s xs)) = r := by cases r <;> rfl
theorem zDy (r : Row) : r.flag none = r := nr rfl
theorem zMt (o : Option Row) (nw : Bool) (t s : Nat) (xs : List (List FV)) : (Row.sl nw t s xs).flag o = .sl nw t s xs := by
 cases o with
 | none => rfl
 | some o => cases o <;> rfl
theorem zMv (nw n2 : Bool) (t t2 : Nat) (cs c2 : List HV) : (Row.bx n2 t2 c2).flag (some (.bx nw t cs)) = .bx nw t2 c2 := nr rfl
theorem zJf (r : Row) (nw : Bool) (t s : Nat) (xs : List (List FV)) : r.flag (some (.sl nw t s xs)) = r := by cases r <;> rfl
theorem zD1 (m : Nat → Option Nat) (st : aB) (k : Nat) : rL m st k [] = [] := nr rfl
theorem qYl (m : Nat → Option Nat) (st : aB) (k id : Nat) (r : List Nat) : rL m st k (id :: r) = match rlk st id with | some row => (k, (row.ren m).dark) :: rL m st (k + 1) r | none => rL m st (k + 1) r := nr rfl
theorem zKj (S0 : aB) (ids : List Nat) (n : Nat) (b : aB) : swp S0 ids n [] b = b := nr rfl
theorem zEz (S0 : aB) (ids : List Nat) (n j : Nat) (r : Row) (t b : aB) : swp S0 ids n ((j, r) :: t) b = ((sh2 ids n j).getD 0, (r.ren (sh2 ids n)).flag (kG ids S0 j)) :: swp S0 ids n t b := nr rfl
theorem zKk (e : aH) (s : aB) (ids : List Nat) (n : Nat) (st : aB) : HS.swap ⟨e, s⟩ ids n st = ⟨iX (vN ids s n) e, swp s ids n st (cF (qEu ids n) s)⟩ := nr rfl
theorem zEh (st : aB) (k : Nat) : qKw st k [] = True := nr rfl
theorem yL (st : aB) (k id : Nat) (r : List Nat) : qKw st k (id :: r) = ((uB (rlk st id) → k = id) ∧ qKw st (k + 1) r) := nr rfl
theorem zB9 (ids : List Nat) (st : aB) : sW ids st [] = True := nr rfl
theorem zGs (ids : List Nat) (st : aB) (j : Nat) (nw : Bool) (t s : Nat) (xs : List (List FV)) (r : aB) : sW ids st ((j, .sl nw t s xs) :: r) = sW ids st r := nr rfl
theorem zGt (ids : List Nat) (st : aB) (j : Nat) (nw : Bool) (t s : Nat) (xs : List (List HV)) (r : aB) : sW ids st ((j, .hl nw t s xs) :: r) = sW ids st r := nr rfl
theorem zGu (ids : List Nat) (st : aB) (j : Nat) (t : Nat) (cs : List HV) (r : aB) : sW ids st ((j, .bx true t cs) :: r) = sW ids st r := nr rfl
theorem zGv (ids : List Nat) (st : aB) (j : Nat) (t : Nat) (cs : List HV) (r : aB) : sW ids st ((j, .bx false t cs) :: r) = ((qFr ids j = some j ∧ uB (rlk st j)) ∧ sW ids st r) := by
 rw [pP]; rfl
theorem aP (P : Program) (rs : List ResultVar) (st0 : aB) (Q : HV → aB → Prop) (S : HS) : qWs P rs st0 Q .normal S = uM P S rs fun hs => qLa st0 S (qEk hs) Q := rfl
theorem bS (P : Program) (rs : List ResultVar) (st0 : aB) (Q : HV → aB → Prop) (S : HS) : qWs P rs st0 Q .ret S = uM P S rs fun hs => qLa st0 S (qEk hs) Q := rfl
theorem kQ (ids : List Nat) {st0 : aB} {S : HS} {h : HV} {Q : HV → aB → Prop} (h1 : ids.length ≤ 8) (h2 : dup ids = false) (h3 : qKw S.st 0 ids) (h4 : sW ids S.st st0) {h' : HV} {st' : aB} (h5 : h.ren (pos ids) = h') (h6 : kL (pos ids) S.st 0 ids = st') (q : Q h' st') : qLa st0 S h Q :=
 ⟨ids, h1, h2, h3, h4, by rw [h5, h6]; exact q⟩
theorem cM : qEk [] = .tup [] := nr rfl
section
variable {P : Program} {N : Nat} {x : Code} {Q : eW} {S S' : HS}
theorem zAc (id k nid ty sz : Nat) {nw : Bool} {bt : Nat} {cells : List HV} (hne : id ≠ nid) (hr : rlk S.st id = some (.bx nw bt cells)) (hk : cells[k]? = some (.v (.slice none 0 0)))
  (hs : (⟨iX (only nid) S.env, (nid, .sl true ty sz []) :: hU id (.bx nw bt ((cells.map (HV.kill (only nid))).set k (.own nid))) (cF (only nid) S.st)⟩ : HS) = S') (h : HW P N x Q S') : HW P N x Q S := fun c l w I => by
 subst hs
 refine h c l w ?_
 obtain ⟨ρ, xs, G⟩ := I
 have G2 := G.new nid (.sl true ty sz []) [] (.slice none 0 0) (w' := w) (Below.refl _ _) (fun b hb => by cases hb) (fun _ _ =>
  ⟨by rw [aF]; exact World.ownsRow_nil w 0 ty sz, ⟨by simp, fun i k hi => absurd hi (by simp)⟩, fun b hb => by rw [aF] at hb; cases hb⟩)
 have hr2 : rlk (cF (only nid) S.st) id = some (.bx nw bt (cells.map (HV.kill (only nid)))) := by rw [eZ, pN hne, cond_false, hr]; rfl
 have hl : ∀ i, rlk ((nid, Row.sl true ty sz []) :: hU id (.bx nw bt ((cells.map (HV.kill (only nid))).set k (.own nid))) (cF (only nid) S.st)) i =
   if i = id then some (.bx nw bt ((cells.map (HV.kill (only nid))).set k (.own nid))) else rlk ((nid, Row.sl true ty sz []) :: cF (only nid) S.st) i := fun i => by
  simp only [rlk]
  by_cases e : nid = i
  ·rw [if_pos e, if_neg (by omega), if_pos e]
  ·rw [if_neg e, iK id _ _ _ hr2]
   by_cases e2 : i = id
   ·rw [if_pos e2, if_pos e2]
   ·rw [if_neg e2, if_neg e2, if_neg e]
 have hid : rlk ((nid, Row.sl true ty sz []) :: cF (only nid) S.st) id = some (.bx nw bt (cells.map (HV.kill (only nid)))) := by simp only [rlk]; rw [if_neg (by omega)]; exact hr2
 have hA : ∀ b, c.A (eE ρ nid (.slice none 0 0)) ((nid, Row.sl true ty sz []) :: hU id (.bx nw bt ((cells.map (HV.kill (only nid))).set k (.own nid))) (cF (only nid) S.st)) b → c.A (eE ρ nid (.slice none 0 0)) ((nid, Row.sl true ty sz []) :: cF (only nid) S.st) b := by
  rintro b (h0 | ⟨i, s, hi, hb⟩)
  ·exact .inl h0
  ·right
   rw [hl] at hi
   by_cases e : i = id
   ·subst e; exact ⟨_, _, hid, hb⟩
   ·rw [if_neg e] at hi; exact ⟨i, s, hi, hb⟩
 refine ⟨eE ρ nid (.slice none 0 0), fun i => if i = nid then [] else xs i, ⟨fun i r hi => ?_, fun i j r s b hne hi hj hbi hbj => ?_, fun j y hj => ?_, G2.kept, G2.a0⟩⟩
 ·rw [hl] at hi
  by_cases e : i = id
  ·subst e
   rw [if_pos rfl] at hi
   simp only [Option.some.injEq] at hi
   subst hi
   have R := G2.rows i _ hid
   refine ⟨by simpa [Row.ty, Row.sz, Row.len] using R.own, ⟨R.rep.1, fun q hq => ?_⟩, R.new⟩
   have hq' : q < (cells.map (HV.kill (only nid))).length := by simpa using hq
   obtain ⟨u, u1, u2, u3⟩ := R.rep.2 q hq'
   by_cases eq : k = q
   ·subst eq
    refine ⟨u, u1, u2, ?_⟩
    rw [List.getElem_set_self]
    have hc : cells[k]'(by simpa using hq') = .v (.slice none 0 0) := by
     have := List.getElem?_eq_some_iff.1 hk
     exact this.2
    rw [List.getElem_map, hc, HV.kill] at u3
    have := aX u3
    subst this
    have := RepH.own (w := w) (A := c.A (eE ρ nid (.slice none 0 0)) ((nid, Row.sl true ty sz []) :: hU i (.bx nw bt ((cells.map (HV.kill (only nid))).set k (.own nid))) (cF (only nid) S.st))) (n0 := c.n0) (ρ := eE ρ nid (.slice none 0 0)) nid (by rw [aF]; rfl)
    rw [aF] at this
    exact this
   ·refine ⟨u, u1, u2, ?_⟩
    rw [List.getElem_set_ne eq]
    exact u3.up (Nat.le_refl _) (fun _ _ _ => rfl) (fun b _ => hA b) (Nat.le_refl _)
  ·rw [if_neg e] at hi
   exact (G2.rows i r hi).up (Nat.le_refl _) (fun _ _ _ => rfl) (fun b _ => hA b) (fun _ _ => rfl)
 ·have back : ∀ i s, rlk ((nid, Row.sl true ty sz []) :: hU id (.bx nw bt ((cells.map (HV.kill (only nid))).set k (.own nid))) (cF (only nid) S.st)) i = some s → ∃ s0, rlk ((nid, Row.sl true ty sz []) :: cF (only nid) S.st) i = some s0 := by
   intro i s hi
   rw [hl] at hi
   by_cases e : i = id
   ·subst e; exact ⟨_, hid⟩
   ·rw [if_neg e] at hi; exact ⟨s, hi⟩
  obtain ⟨r0, h1⟩ := back i r hi
  obtain ⟨s0, h2⟩ := back j s hj
  exact G2.apart i j r0 s0 b hne h1 h2 hbi hbj
 ·obtain ⟨v, h1, h2⟩ := G2.env j y hj
  exact ⟨v, h1, h2.up (Nat.le_refl _) (fun _ _ _ => rfl) (fun b _ => hA b) (Nat.le_refl _)⟩
end
section
variable {P : Program} {N : Nat} {x : Code} {Q : eW} {S : HS} {id : Nat} {R : HS → Prop}
end
end Go.Eng
end

section
set_option linter.unusedSimpArgs false
set_option linter.unusedVariables false
namespace Go.Eng
open Go Go.RowKit
def zQi (R : HS → Prop) (Q : eW) : eW
 | .normal, S => R S
 | e, S => Q e S
section
variable {P : Program} {N : Nat} {x : Code} {Q : eW} {S : HS} {R : HS → Prop}
theorem qAb {ι : Type} (E : ι → HS) (I : ι → Prop) (ks ids : List Nat) (hx : HW P N x (zQi (fun S' => ∃ j, S'.keep ks ids = E j ∧ I j) Q) S) (hy : ∀ S' j, S'.keep ks ids = E j → I j → Q .normal S') : HW P N x Q S :=
 hx.mono fun e S' h => by
  cases e with
  | normal => obtain ⟨j, hE, hI⟩ := h; exact hy S' j hE hI
  | _ => exact h
end
theorem qQq {P : Program} {N : Nat} {x : Code} {Q : eW} {S S' : HS} (k id ty sz : Nat) (hk : hlk S.env k = some (.v (.slice none 0 0))) (hs : ((S.kill (only id)).row id (.sl true ty sz [])).rep k (.own id) = S') (h : HW P N x Q S') : HW P N x Q S := zR1 k id ty sz hk (hs ▸ h)
end Go.Eng
end

section
set_option linter.unusedSimpArgs false
set_option linter.unusedVariables false
namespace Go.Eng
open Go Go.RowKit
theorem qF4 {P : Program} {N : Nat} {ds : List (Option Nat)} {K : Env → World → Prop} : ∀ {ops more : List Oper} {l : Env} {w : World}, VC P N ds (fun l w => VC P N ds K more l w) ops l w → VC P N ds K (ops ++ more) l w
 | [], more, l, w, h => by rw [VC] at h; exact h
 | o :: rest, more, l, w, h => by
  rw [List.cons_append]
  rw [VC] at h ⊢
  obtain ⟨b, hb, hd, h⟩ := qKe h
  have conv : ∀ {k : Bool → Prop}, k b → gd l ds o.guard k := by
   intro k hkb
   unfold gd at hb ⊢
   split
   ·rename_i hg; rw [hg] at hb; dsimp only at hb; rw [hb]; exact hkb
   ·rename_i j want hg
    rw [hg] at hb
    dsimp only at hb
    split
    ·rename_i d hd'
     rw [hd'] at hb
     dsimp only at hb
     split
     ·rename_i b' hb'; rw [hb'] at hb; dsimp only at hb; rw [hb]; exact hkb
     ·rename_i v hv hb'
      rw [hb'] at hb
      cases v <;> dsimp only at hb <;> first | (exact (hv _ rfl).elim) | (rw [hb]; exact hkb)
     ·rename_i hb'; rw [hb'] at hb; exact hb.elim
    ·rename_i hn
     split at hb
     ·rename_i d hd'; exact (hn d hd').elim
     ·exact hb.elim
  refine conv ⟨hd, ?_⟩
  cases b with
  | true => exact aU h fun v w' hv => qF4 hv
  | false => exact qF4 h
section
variable {P : Program} {N : Nat} {ds : List (Option Nat)} {K : HS → Prop} {S : HS} {Q : eW}
def qY0 (P : Program) (N : Nat) (ds : List (Option Nat)) (K : HS → Prop) (ops : List Oper) (S : HS) : Prop :=
 ∀ (c : Ctx) (l : Env) (w : World), Inv c S (lk l) w → VC P N ds (fun l w => ∃ S', Inv c S' (lk l) w ∧ K S') ops l w
theorem zJ9 {ops : List Oper} (h : HV2 P N ds K ops S) : qY0 P N ds K ops S := fun c l w I => uH (c := c) ops S l w h I
theorem zKa {ops : List Oper} (n : Nat) (ks ids : List Nat) (h : HV2 P N ds (fun S' => kZ (qY0 P N ds K (ops.drop n)) (S'.keep ks ids)) (ops.take n) S) : qY0 P N ds K ops S := fun c l w I => by
 have := uH (c := c) (ops.take n) S l w h I
 rw [← List.take_append_drop n ops]
 exact qF4 (zJ.V.mono this fun l' w' ⟨S', I', q⟩ => (show qY0 P N ds K (ops.drop n) (S'.keep ks ids) from q) c l' w' (I'.keep ks ids))
theorem zNl {id : Nat} {ops : List Oper} (h : ∀ K : HS → Prop, (∀ S', Q .normal S' → K S') → qY0 P N (bQ ops) K ops S) : HW P N (.region id ops.toArray false) Q S := fun c l w I =>
 qT3 fun K hK => by
  have := h (Q .normal) (fun _ h => h) c l w I
  exact (zJ.V.mono this fun l' w' h => hK l' w' h)
end
end Go.Eng
end

section
set_option linter.unusedSimpArgs false
set_option linter.unusedVariables false
namespace Go.Eng
open Go Go.RowKit
def nm (a b : Nat) : Nat → Option Nat := fun i => if i = a then some b else if i = b then none else some i
def qTh (m : Nat → Option Nat) : aH → aH
 | [] => []
 | (k, h) :: r => (k, h.ren m) :: qTh m r
def qNs (a b : Nat) : aB → aB
 | [] => []
 | (k, r) :: t => (if k = a then b else k, r.ren (nm a b)) :: qNs a b t
def HS.name (S : HS) (a b : Nat) : HS := ⟨qTh (nm a b) S.env, qNs a b S.st⟩
theorem qSq (m : Nat → Option Nat) : ∀ (l : aH) (k : Nat), hlk (qTh m l) k = (hlk l k).map (HV.ren m)
 | [], k => rfl
 | (j, h) :: r, k => by
  simp only [qTh, hlk]
  split
  ·rfl
  ·exact qSq m r k
theorem qRf {a b : Nat} (hab : a ≠ b) : ∀ (l : aB) (_ : rlk l b = none) (k : Nat), rlk (qNs a b l) k = if k = b then (rlk l a).map (Row.ren (nm a b)) else if k = a then none else (rlk l k).map (Row.ren (nm a b))
 | [], _, k => by simp [qNs, rlk]
 | (j, r) :: t, h, k => by
  simp only [rlk] at h
  by_cases hj : j = b
  ·rw [if_pos hj] at h; cases h
  ·rw [if_neg hj] at h
   have ih := qRf hab t h k
   simp only [qNs, rlk]
   by_cases e : j = a
   ·subst e
    rw [if_pos rfl, if_pos rfl]
    by_cases e2 : k = b
    ·subst e2; rw [if_pos rfl, if_pos rfl]; rfl
    ·rw [if_neg (by omega), ih, if_neg e2, if_neg e2]
     by_cases e3 : k = j
     ·rw [if_pos e3, if_pos e3]
     ·rw [if_neg e3, if_neg e3, if_neg (by omega)]
   ·rw [if_neg e, if_neg e]
    by_cases e2 : j = k
    ·subst e2; rw [if_pos rfl, if_neg hj, if_neg e, if_pos rfl]; rfl
    ·rw [if_neg e2, ih, if_neg e2]
section
variable {P : Program} {N : Nat} {x : Code} {Q : eW} {c : Ctx} {S S' : HS} {look : Nat → Option Value} {w : World}
theorem Inv.name (I : Inv c S look w) {a b ty sz : Nat} {nw : Bool} {els : List (List FV)} (hab : a ≠ b) (hb : rlk S.st b = none) (ha : rlk S.st a = some (.sl nw ty sz els)) : Inv c (S.name a b) look w := by
 obtain ⟨ρ, xs, G⟩ := I
 let ρ' : Nat → Value := fun i => if i = b then ρ a else ρ i
 let xs' : Nat → List Value := fun i => if i = b then xs a else xs i
 have hm : ∀ i j, nm a b i = some j → ρ' j = ρ i := fun i j h => by
  unfold nm at h
  by_cases e : i = a
  ·rw [if_pos e] at h; simp only [Option.some.injEq] at h; subst h; subst e; show (if b = b then _ else _) = _; rw [if_pos rfl]
  ·rw [if_neg e] at h
   by_cases e2 : i = b
   ·rw [if_pos e2] at h; cases h
   ·rw [if_neg e2] at h; simp only [Option.some.injEq] at h; subst h; show (if i = b then _ else _) = _; rw [if_neg e2]
 have back : ∀ i r, rlk (S.name a b).st i = some r → ∃ j r0, nm a b j = some i ∧ rlk S.st j = some r0 ∧ r = r0.ren (nm a b) ∧ xs' i = xs j := by
  intro i r hi
  simp only [HS.name, qRf hab _ hb] at hi
  by_cases e : i = b
  ·subst e
   rw [if_pos rfl, ha] at hi
   simp only [Option.map_some, Option.some.injEq] at hi
   exact ⟨a, _, by simp [nm], ha, hi.symm, by show (if i = i then _ else _) = _; rw [if_pos rfl]⟩
  ·rw [if_neg e] at hi
   by_cases e2 : i = a
   ·rw [if_pos e2] at hi; cases hi
   ·rw [if_neg e2] at hi
    cases hs : rlk S.st i with
    | none => rw [hs] at hi; cases hi
    | some r0 =>
     rw [hs] at hi
     simp only [Option.map_some, Option.some.injEq] at hi
     exact ⟨i, r0, by simp [nm, e, e2], hs, hi.symm, by show (if i = b then _ else _) = _; rw [if_neg e]⟩
 have hA : ∀ g, c.A ρ' (S.name a b).st g → c.A ρ S.st g := by
  rintro g (h0 | ⟨i, r, hi, hg⟩)
  ·exact .inl h0
  ·obtain ⟨j, r0, h1, h2, -, -⟩ := back i r hi
   rw [hm j i h1] at hg
   exact .inr ⟨j, r0, h2, hg⟩
 have tr : ∀ v y, RepH w (c.A ρ S.st) c.n0 ρ v y → RepH w (c.A ρ' (S.name a b).st) c.n0 ρ' v (y.ren (nm a b)) := fun v y h => (h.up (Nat.le_refl _) (fun _ _ _ => rfl) (fun b _ => hA b) (Nat.le_refl _)).ren hm
 refine ⟨ρ', xs', fun i r hi => ?_, fun i j r s g hne hi hj hgi hgj => ?_, fun k y hk => ?_, G.kept, G.a0⟩
 ·obtain ⟨j, r0, h1, h2, rfl, h4⟩ := back i r hi
  have R := G.rows j r0 h2
  obtain ⟨f1, f2, f3, f4⟩ := Row.ren_facts (nm a b) r0
  rw [h4]
  refine ⟨by rw [f1, f2, f3, hm j i h1]; exact R.own, ?_, fun g hg => by rw [f4]; rw [hm j i h1] at hg; exact R.new g hg⟩
  have rp := R.rep
  cases r0 with
  | sl nw ty sz els =>
   refine ⟨rp.1, fun p k hp hk => ?_⟩
   obtain ⟨u, u1, u2, u3⟩ := rp.2 p k hp hk
   exact ⟨u, u1, u2, u3.up (Nat.le_refl _) (fun _ _ _ => rfl) (fun b _ => hA b) (Nat.le_refl _)⟩
  | bx nw ty cells =>
   refine ⟨?_, fun k hk => ?_⟩
   ·have hji : j = i := by
     unfold nm at h1
     by_cases e : j = a
     ·subst e; rw [ha] at h2; cases h2
     ·rw [if_neg e] at h1
      by_cases e2 : j = b
      ·rw [if_pos e2] at h1; cases h1
      ·rw [if_neg e2] at h1; exact Option.some.inj h1
    rw [hm j i h1]
    rw [← hji]
    exact rp.1
   ·rw [List.length_map] at hk
    obtain ⟨u, u1, u2, u3⟩ := rp.2 k hk
    refine ⟨u, u1, u2, ?_⟩
    rw [List.getElem_map]
    exact tr _ _ u3
  | hl nw ty sz els =>
   refine ⟨fun y hy => ?_, fun p k hp hk => ?_⟩
   ·obtain ⟨z, hz, rfl⟩ := List.mem_map.1 hy
    rw [List.length_map]; exact rp.1 z hz
   ·simp only [List.length_map] at hp
    simp only [List.getElem_map, List.length_map] at hk ⊢
    obtain ⟨u, u1, u2, u3⟩ := rp.2 p k hp hk
    exact ⟨u, u1, u2, tr _ _ u3⟩
 ·obtain ⟨i', r0, h1, h2, -, -⟩ := back i r hi
  obtain ⟨j', s0, h3, h4, -, -⟩ := back j s hj
  rw [hm i' i h1] at hgi
  rw [hm j' j h3] at hgj
  exact G.apart i' j' r0 s0 g (fun e => hne (by subst e; rw [h1] at h3; exact Option.some.inj h3)) h2 h4 hgi hgj
 ·simp only [HS.name, qSq] at hk
  cases hx0 : hlk S.env k with
  | none => rw [hx0] at hk; cases hk
  | some x0 =>
   rw [hx0] at hk
   simp only [Option.map_some, Option.some.injEq] at hk
   subst hk
   obtain ⟨v, h1, h2⟩ := G.env k x0 hx0
   exact ⟨v, h1, tr v x0 h2⟩
theorem qCz (a b : Nat) {ty sz : Nat} {nw : Bool} {els : List (List FV)} (hab : a ≠ b) (hb : rlk S.st b = none) (ha : rlk S.st a = some (.sl nw ty sz els)) (hs : S.name a b = S') (h : HW P N x Q S') : HW P N x Q S := fun c l w I => h c l w (hs ▸ I.name hab hb ha)
theorem zTu (id : Nat) {ty sz : Nat} {nw : Bool} {els : List (List FV)} (hr : rlk S.st id = some (.sl nw ty sz els)) (hs : (⟨S.env, hU id (.hl nw ty sz (els.map (List.map FV.h))) S.st⟩ : HS) = S') (h : HW P N x Q S') : HW P N x Q S := fun c l w I => by
 subst hs
 refine h c l w ?_
 obtain ⟨ρ, xs, G⟩ := I
 have hl := iK id (.hl nw ty sz (els.map (List.map FV.h))) S.st _ hr
 have hA : ∀ b, c.A ρ (hU id (.hl nw ty sz (els.map (List.map FV.h))) S.st) b → c.A ρ S.st b := by
  rintro b (h0 | ⟨i, s, hi, hb⟩)
  ·exact .inl h0
  ·rw [hl] at hi
   by_cases e : i = id
   ·subst e; exact .inr ⟨_, _, hr, hb⟩
   ·rw [if_neg e] at hi; exact .inr ⟨i, s, hi, hb⟩
 have back : ∀ i r, rlk (hU id (.hl nw ty sz (els.map (List.map FV.h))) S.st) i = some r → ∃ r0, rlk S.st i = some r0 := by
  intro i r hi
  rw [hl] at hi
  by_cases e : i = id
  ·subst e; exact ⟨_, hr⟩
  ·rw [if_neg e] at hi; exact ⟨r, hi⟩
 refine ⟨ρ, xs, fun i r hi => ?_, fun i j r s b hne hi hj => ?_, fun k y hk => ?_, G.kept, G.a0⟩
 ·dsimp only at hi
  rw [hl] at hi
  by_cases e : i = id
  ·subst e
   rw [if_pos rfl] at hi
   simp only [Option.some.injEq] at hi
   subst hi
   have R := G.rows i _ hr
   refine ⟨by simpa [Row.ty, Row.sz, Row.len] using R.own, ⟨fun y hy => ?_, fun p k hp hk => ?_⟩, R.new⟩
   ·obtain ⟨z, hz, rfl⟩ := List.mem_map.1 hy
    rw [List.length_map]; exact R.rep.1 z hz
   ·simp only [List.length_map] at hp
    simp only [List.getElem_map, List.length_map] at hk ⊢
    obtain ⟨u, u1, u2, u3⟩ := R.rep.2 p k hp hk
    exact ⟨u, u1, u2, (u3.up (Nat.le_refl _) (fun _ _ _ => rfl) (fun b _ => hA b) (Nat.le_refl _)).h⟩
  ·rw [if_neg e] at hi
   exact (G.rows i r hi).up (Nat.le_refl _) (fun _ _ _ => rfl) (fun b _ => hA b) (fun _ _ => rfl)
 ·obtain ⟨r0, h1⟩ := back i r hi
  obtain ⟨s0, h2⟩ := back j s hj
  exact G.apart i j r0 s0 b hne h1 h2
 ·obtain ⟨v, h1, h2⟩ := G.env k y hk
  exact ⟨v, h1, h2.up (Nat.le_refl _) (fun _ _ _ => rfl) (fun b _ => hA b) (Nat.le_refl _)⟩
end
theorem pQ (e : aH) (s : aB) (a b : Nat) : HS.name ⟨e, s⟩ a b = ⟨qTh (nm a b) e, qNs a b s⟩ := rfl
theorem qEa (a b i : Nat) : nm a b i = if i = a then some b else if i = b then none else some i := rfl
theorem mU (m : Nat → Option Nat) : qTh m [] = [] := rfl
theorem kC (m : Nat → Option Nat) (k : Nat) (h : HV) (r : aH) : qTh m ((k, h) :: r) = (k, h.ren m) :: qTh m r := rfl
theorem mD (a b : Nat) : qNs a b [] = [] := rfl
theorem jR (a b k : Nat) (r : Row) (t : aB) : qNs a b ((k, r) :: t) = (if k = a then b else k, r.ren (nm a b)) :: qNs a b t := rfl
end Go.Eng
end
