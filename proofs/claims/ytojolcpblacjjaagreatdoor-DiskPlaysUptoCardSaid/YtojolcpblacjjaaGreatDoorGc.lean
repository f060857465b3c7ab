/-
  The engine of values: texts Rel, Hr, Hk, Hl, Hlo, He, Enc, Ste, Met, Spl, Nam, laid together.
-/
import Derived.Test.YtojolcpblacjjaaGreatDoorEng
import Derived.Test.YtojolcpblacjjaaGreatDoorGb
section
set_option linter.unusedSimpArgs false
set_option linter.unusedVariables false
namespace Go.Eng
open Go Go.RowKit
section
variable {P : Program} {N : Nat} {C : World → Prop} {ops : List Oper} {n : Nat} {l : Env} {R : Nat → Value → World → Prop}
def dQ (l : Env) (ops : List Oper) (vs : Nat → Value) : Nat → Env
 | 0 => l
 | i + 1 => stp (bA ops i) (vs i) (dQ l ops vs i)
def DLt (N : Nat) (ops : List Oper) (n : Nat) : Prop := ∀ i t, i < n → bA ops i = some t → t < N
variable {vs : Nat → Value}
theorem yW (hl : DLt N ops n) (hk : bZ N l = true) : ∀ i, i ≤ n → bZ N (dQ l ops vs i) = true
 | 0, _ => hk
 | i + 1, hi => eP (yW hl hk i (by omega)) (fun k e => hl i k (by omega) e)
theorem gT (base : Array Value) (t : Nat) : ∀ i, (∀ j, j < i → bA ops j ≠ some t) →
  lk (dQ l ops vs i) t = lk l t ∧ (iF base (dQ l ops vs i))[t]? = (iF base l)[t]?
 | 0, _ => ⟨rfl, rfl⟩
 | i + 1, h => by
  obtain ⟨h1, h2⟩ := gT base t i (fun j hj => h j (by omega))
  have hne := h i (by omega)
  simp only [dQ]
  cases hd : bA ops i with
  | none => exact ⟨h1, h2⟩
  | some d =>
   have : d ≠ t := fun e => hne (by rw [hd, e])
   simp only [stp, lk, iF, if_neg this]
   exact ⟨h1, by rw [Array.getElem?_setIfInBounds_ne this]; exact h2⟩
theorem iW (hl : DLt N ops n) {base : Array Value} (hbase : base.size = N) {t j : Nat} (hj : bA ops j = some t) (huniq : ∀ k, k < n → k ≠ j → bA ops k ≠ some t) : ∀ i, i ≤ n → j < i →
  lk (dQ l ops vs i) t = some (vs j) ∧ (iF base (dQ l ops vs i))[t]? = some (vs j)
 | 0, _, h => absurd h (Nat.not_lt_zero _)
 | i + 1, hi, h => by
  simp only [dQ]
  by_cases e : j = i
  ·subst e
   rw [hj]
   simp only [stp, lk, iF, if_true, true_and]
   rw [Array.getElem?_setIfInBounds_self_of_lt (by rw [jJ, hbase]; exact hl j t (by omega) hj)]
  ·obtain ⟨h1, h2⟩ := iW hl hbase hj huniq i (by omega) (by omega)
   have hne := huniq i (by omega) (Ne.symm e)
   cases hd : bA ops i with
   | none => exact ⟨h1, h2⟩
   | some d =>
    have : d ≠ t := fun e => hne (by rw [hd, e])
    simp only [stp, lk, iF, if_neg this]
    exact ⟨h1, by rw [Array.getElem?_setIfInBounds_ne this]; exact h2⟩
theorem qPw {keys : List Nat} (ok : RegOk keys ops n) (F : Fr N) (hk : bZ N l = true) (bT : ∀ t ∈ keys, ∃ v, lk l t = some v) (hlt : DLt N ops n)
  {Le : Nat → World → World → Prop} (hLe : ∀ i w, Le i w w) (hS : ∀ j i u w w', j < n → i < n → j ≠ i → C w → R j u w → Le i w w' → R j u w')
  (H : ∀ i o, i < n → ops[i]? = some o → ∀ (vs : Nat → Value) (w : World), C w → (∀ j t, j < i → bA ops j = some t → t ∈ o.looksAt ops.toArray → R j (vs j) w) →
   ∃ b, gd (dQ l ops vs i) (cP ops) o.guard (· = b) ∧ (b = true → Yields P (execOp (evD (dQ l ops vs i)) o) w fun u w' => R i u w' ∧ C w' ∧ Le i w w') ∧ (b = false → R i undef w))
  {Q : Exit → Act → World → Prop} (hT : ∀ (vs : Nat → Value) (w : World), C w → (∀ j, j < n → R j (vs j) w) → wpList P ops.toArray Q (ops.drop n) (mk F (dQ l ops vs n)) w) :
  ∀ (fuel : Nat) (listed : Array Bool) (a : Act) (w : World) (vs : Nat → Value), unl listed = fuel → Mid N C ops n (iF F.base l) vs listed a w → (∀ j, j < n → listed.getD j false = true → R j (vs j) w) → wpAny P .any ops.toArray Q fuel listed a w := by
 have uniq : ∀ i j t, i < n → j < n → bA ops i = some t → bA ops j = some t → i = j := by
  intro i j t hi hj h1 h2
  rcases Nat.lt_trichotomy i j with h | h | h
  ·rcases ok.uniq j i hj h with e | e
   ·rw [h2] at e; cases e
   ·exact absurd (h2.trans h1.symm) e
  ·exact h
  ·rcases ok.uniq i j hi h with e | e
   ·rw [h1] at e; cases e
   ·exact absurd (h1.trans h2.symm) e
 have final : ∀ (listed : Array Bool) (a : Act) (w : World) (vs : Nat → Value), Mid N C ops n (iF F.base l) vs listed a w → (∀ j, j < n → listed.getD j false = true) → a = mk F (dQ l ops vs n) := by
  intro listed a w vs M hall
  obtain ⟨tm, df⟩ := a
  have hd : df = [] := M.defers
  subst hd
  show Act.mk _ _ = Act.mk _ _
  congr 1
  apply Array.ext_getElem?
  intro t
  by_cases h : ∃ j, j < n ∧ bA ops j = some t
  ·obtain ⟨j, hj, hd⟩ := h
   have h1 := M.new j t hj (hall j hj) hd
   have h2 := (iW (l := l) (vs := vs) hlt F.hN hd (fun k hk hne e => hne (uniq k j t hk hj e hd)) n (Nat.le_refl _) hj).2
   exact h1.trans h2.symm
  ·have h' : ∀ j, j < n → bA ops j ≠ some t := fun j hj e => h ⟨j, hj, e⟩
   have h1 := M.old t (fun j hj _ => h' j hj)
   have h2 := (gT (l := l) (vs := vs) F.base t n h').2
   exact h1.trans h2.symm
 have slot : ∀ (listed : Array Bool) (a : Act) (w : World) (vs : Nat → Value) (i : Nat) (o : Oper) (t : Nat), Mid N C ops n (iF F.base l) vs listed a w → i < n → ops[i]? = some o → i ∈ Region.ready .any ops.toArray listed → t ∈ o.looksAt ops.toArray →
   ∃ X, a.tmps[t]? = some X ∧ lk (dQ l ops vs i) t = some X := by
  intro listed a w vs i o t M hi ho hr ht
  obtain ⟨l1, l2⟩ := ok.looks i o t hi ho ht
  by_cases h : ∃ j, j < n ∧ bA ops j = some t
  ·obtain ⟨j, hj, hd⟩ := h
   obtain ⟨hji, he⟩ := l1 j hj hd
   exact ⟨vs j, M.new j t hj (dR hr he) hd, (iW (l := l) (vs := vs) hlt F.hN hd (fun k hk hne e => hne (uniq k j t hk hj e hd)) i (by omega) hji).1⟩
  ·have h' : ∀ j, j < n → bA ops j ≠ some t := fun j hj e => h ⟨j, hj, e⟩
   rcases l2 with ⟨j, hj, hd⟩ | hkey
   ·exact absurd hd (h' j (by omega))
   ·obtain ⟨v, hv⟩ := bT t hkey
    refine ⟨v, ?_, ?_⟩
    ·rw [M.old t (fun j hj _ => h' j hj)]; exact iV F hk hv
    ·rw [(gT (l := l) (vs := vs) F.base t i (fun j hj => h' j (by omega))).1]; exact hv
 intro fuel
 induction fuel with
 | zero =>
  intro listed a w vs hu M MR
  have hall : ∀ j, j < ops.length → listed.getD j false = true := fun j hj => qF4 hu (by rw [M.size]; exact hj)
  have hn : n = ops.length := by
   rcases Nat.lt_or_ge n ops.length with h | h
   ·have := M.heads n (hall n h); omega
   ·have := ok.hn; omega
  have ha := final listed a w vs M (fun j hj => hall j (by omega))
  subst ha
  exact jD ok 0 n listed _ w (by omega) (Nat.le_refl _) M.size (fun i hi => ⟨fun _ => by omega, fun _ => hall i hi⟩) (hT vs w M.cls fun j hj => MR j hj (hall j (by omega)))
 | succ fuel ih =>
  intro listed a w vs hu M MR
  by_cases hdone : ∀ j, j < n → listed.getD j false = true
  ·have ha := final listed a w vs M hdone
   subst ha
   have hcount : ∀ (m : Nat) (x : Array Bool), x.size = ops.length → (∀ i, i < ops.length → (x.getD i false = true ↔ i < m)) → m ≤ ops.length → m + unl x = ops.length := by
    intro m
    generalize hd : ops.length - m = d
    induction d generalizing m with
    | zero =>
     intro x hx hl hm
     have : unl x = 0 := by
      unfold unl
      rw [List.length_eq_zero_iff, List.filter_eq_nil_iff]
      intro b hb
      obtain ⟨i, hi, rfl⟩ := List.getElem_of_mem hb
      have hi' : i < x.size := by simpa using hi
      have := (hl i (by omega)).2 (by omega)
      simp only [Array.getD, hi', dite_true] at this
      simp [show x.toList[i] = true from this]
     omega
    | succ d ihd =>
     intro x hx hl hm
     have hmlt : m < ops.length := by omega
     have h0 : x.getD m true = false := by
      have : ¬ x.getD m false = true := fun e => by have := (hl m hmlt).1 e; omega
      have hm' : m < x.size := by omega
      simp only [Array.getD, hm', dite_true] at this ⊢
      simpa using this
     have := ihd (m + 1) (by omega) (x.setIfInBounds m true) (by simpa using hx) (fun i hi => by
      by_cases e : m = i
      ·subst e
       have : m < x.size := by omega
       simp [this]
      ·rw [getD_set_ne false e, hl i hi]; omega) (by omega)
     have := xK h0
     omega
   have hl : ∀ i, i < ops.length → (listed.getD i false = true ↔ i < n) := fun i hi => ⟨M.heads i, hdone i⟩
   have := hcount n listed M.size hl ok.hn
   exact jD ok (fuel + 1) n listed _ w (by omega) (Nat.le_refl _) M.size hl (hT vs w M.cls fun j hj => MR j hj (hdone j hj))
  ·have hex : ∃ j, j < n ∧ listed.getD j false ≠ true := by
    refine Classical.byContradiction fun hne => hdone fun j hj => ?_
    refine Classical.byContradiction fun h => hne ⟨j, hj, h⟩
   have hn := ok.hn
   have hready : ∃ j, j ∈ Region.ready .any ops.toArray listed := by
    obtain ⟨j, hj, hjl⟩ := hex
    have : ∀ d j, j = d → j < n → listed.getD j false ≠ true → ∃ j, j ∈ Region.ready .any ops.toArray listed := by
     intro d
     induction d using Nat.strongRecOn with
     | _ d ihd =>
      intro j hd hj hjl
      subst hd
      have ho : ops[j]? = some (ops[j]'(by omega)) := List.getElem?_eq_getElem _
      by_cases hall : ∀ e ∈ (ops[j]'(by omega)).after, Region.binds .any e = true → listed.getD e.on false = true
      ·refine ⟨j, mem_ready.2 ⟨?_, ops[j]'(by omega), by simp, hall⟩⟩
       have h2 : j < listed.size := by rw [M.size]; omega
       simp only [Array.getD, h2, dite_true] at hjl ⊢
       simpa using hjl
      ·have : ∃ e ∈ (ops[j]'(by omega)).after, Region.binds .any e = true ∧ listed.getD e.on false ≠ true := by
        refine Classical.byContradiction fun hne => hall fun e he hb => ?_
        refine Classical.byContradiction fun h => hne ⟨e, he, hb, h⟩
       obtain ⟨e, he, hb, hl⟩ := this
       have hlt := ok.down j _ e ho he hb
       exact ihd e.on hlt e.on rfl (by omega) hl
    exact this j j rfl hj hjl
   obtain ⟨j0, hj0⟩ := hready
   refine ⟨fun h0 => absurd hj0 (by rw [h0]; simp), fun i hi => ?_⟩
   obtain ⟨hun, o, ho, hall⟩ := mem_ready.1 hi
   have ho' : ops[i]? = some o := by simpa using ho
   have hilt : i < ops.length := (List.getElem?_eq_some_iff.1 ho').1
   have hin : i < n := by
    rcases Nat.lt_or_ge i n with h | h
    ·exact h
    ·exfalso
     apply hdone
     have key : ∀ d j, i - j = d → j < i → listed.getD j false = true := by
      intro d
      induction d using Nat.strongRecOn with
      | _ d ihd =>
       intro j hd hji
       obtain ⟨k, hk1, hk2, hk3⟩ := ok.tail i j hilt h hji
       rcases Nat.lt_or_ge k i with hki | hki
       ·exact M.clos k j (ihd (i - k) (by omega) k rfl hki) hk3
       ·have : k = i := by omega
        subst this
        exact dR hi hk3
     exact fun j hj => key _ j rfl (by omega)
   have hu' : unl (listed.setIfInBounds i true) = fuel := by have := xK hun; omega
   have hdi : bA ops i = o.dst := by unfold bA; rw [ho']; rfl
   have hlt' : jR N o.dst := by
    cases hd : o.dst with
    | none => trivial
    | some t => exact hlt i t hin (hdi.trans hd)
   let nxt : Value → Nat → Value := fun u j => if j = i then u else vs j
   have nxt_i : ∀ u, nxt u i = u := fun u => if_pos rfl
   have nxt_ne : ∀ u j, j ≠ i → nxt u j = vs j := fun u j h => if_neg h
   have rest : ∀ u w', R i u w' → Le i w w' → ∀ j, j < n → (listed.setIfInBounds i true).getD j false = true → R j (nxt u j) w' := by
    intro u w' hu hB j hj hl
    by_cases e : j = i
    ·subst e; rw [nxt_i]; exact hu
    ·rw [nxt_ne u j e]
     rw [getD_set_ne false (Ne.symm e)] at hl
     exact hS j i _ w w' hj hin e M.cls (MR j hj hl) hB
   have step : ∀ u w', C w' → Mid N C ops n (iF F.base l) (nxt u) (listed.setIfInBounds i true) (a.put o.dst u) w' := by
    intro u w' hC
    have hlt := hlt'
    have hset : ∀ j, (listed.setIfInBounds i true).getD j false = true → j = i ∨ listed.getD j false = true := by
     intro j h
     by_cases e : i = j
     ·exact .inl e.symm
     ·rw [getD_set_ne false e] at h; exact .inr h
    have hseti : (listed.setIfInBounds i true).getD i false = true := by
     have : i < listed.size := by rw [M.size]; exact hilt
     simp [this]
    refine ⟨by simpa using M.size, ?_, ?_, ?_, ?_, ?_, ?_, hC⟩
    ·intro k j hk he
     rcases hset k hk with rfl | hk
     ·exact getD_set_true (dR hi he)
     ·exact getD_set_true (M.clos k j hk he)
    ·intro k hk
     rcases hset k hk with rfl | hk
     ·exact hin
     ·exact M.heads k hk
    ·cases hd : o.dst <;> exact M.defers
    ·cases hd : o.dst with
     | none => exact M.tsize
     | some d => simp only [Act.put, Array.size_setIfInBounds]; exact M.tsize
    ·intro j t hj hjl hd
     rcases hset j hjl with rfl | hjl'
     ·rw [hdi] at hd
      rw [hd] at hlt ⊢
      simp only [Act.put]
      rw [Array.getElem?_setIfInBounds_self_of_lt (by rw [M.tsize]; exact hlt), nxt_i]
     ·by_cases e : j = i
      ·subst e
       rw [hdi] at hd
       rw [hd] at hlt ⊢
       simp only [Act.put]
       rw [Array.getElem?_setIfInBounds_self_of_lt (by rw [M.tsize]; exact hlt), nxt_i]
      ·rw [nxt_ne u j e]
       have h1 := M.new j t hj hjl' hd
       cases hdo : o.dst with
       | none => exact h1
       | some d =>
        have hne : d ≠ t := fun e' => e (uniq j i t hj hin hd (by rw [hdi, hdo, e']))
        simp only [Act.put]
        rw [Array.getElem?_setIfInBounds_ne hne]; exact h1
    ·intro t ht
     have h1 := M.old t (fun j hj hjl => ht j hj (getD_set_true hjl))
     have h2 := ht i hin hseti
     rw [hdi] at h2
     cases hdo : o.dst with
     | none => exact h1
     | some d =>
      have hne : d ≠ t := fun e' => h2 (by rw [hdo, e'])
      simp only [Act.put]
      rw [Array.getElem?_setIfInBounds_ne hne]; exact h1
   obtain ⟨b, hb, hbt, hbf⟩ := H i o hin ho' vs w M.cls fun j t hj hd ht => by
    obtain ⟨l1, -⟩ := ok.looks i o t hin ho' ht
    exact MR j (by omega) (dR hi (l1 j (by omega) hd).2)
   have hw : Region.wanted o (yielded ops.toArray a.tmps) = b := by
    unfold gd at hb
    split at hb
    ·rename_i hg; simp only [Region.wanted, hg]; exact hb
    ·rename_i g want hg
     split at hb
     ·rename_i d hd
      split at hb
      ·rename_i bb hbb
       have hdd : bA ops g = some d := by
        unfold bA
        simp only [cP, List.getElem?_map, Option.map_eq_some_iff] at hd
        obtain ⟨x, hx, hx'⟩ := hd
        simp [hx, hx']
       obtain ⟨X, hX1, hX2⟩ := slot listed a w vs i o d M hin ho' hi (gR hg hdd)
       rw [hbb] at hX2
       cases hX2
       have : yielded ops.toArray a.tmps g = some bb := by
        unfold yielded
        unfold bA at hdd
        simp only [List.getElem?_toArray, hdd, Option.bind_some, hX1]
       simp only [Region.wanted, hg, this]
       rw [← hb]
       cases bb <;> cases want <;> rfl
      ·rename_i bb hnb hbb
       have hdd : bA ops g = some d := by
        unfold bA
        simp only [cP, List.getElem?_map, Option.map_eq_some_iff] at hd
        obtain ⟨x, hx, hx'⟩ := hd
        simp [hx, hx']
       obtain ⟨X, hX1, hX2⟩ := slot listed a w vs i o d M hin ho' hi (gR hg hdd)
       rw [hbb] at hX2
       cases hX2
       have : yielded ops.toArray a.tmps g = none := by
        unfold yielded
        unfold bA at hdd
        simp only [List.getElem?_toArray, hdd, Option.bind_some, hX1]
        split
        ·rename_i b' e; cases e; exact (hnb b' rfl).elim
        ·rfl
       simp only [Region.wanted, hg, this]
       rw [← hb]
       rfl
      ·exact hb.elim
     ·exact hb.elim
   unfold wpOp
   simp only [ho, hw]
   cases b with
   | true =>
    simp only [if_true]
    refine .inl (dA ?_)
    have hcong : execOp a.eval o = execOp (evD (dQ l ops vs i)) o := by
     refine execOp_congr o (ok.sel i o ho') (fun x hx => ?_)
     cases x with
     | tmp t =>
      obtain ⟨X, hX1, hX2⟩ := slot listed a w vs i o t M hin ho' hi (nC hx)
      simp [Act.eval, evD, ev, hX1, hX2]
     | const c => rfl
     | global g => rfl
     | func f => rfl
    rw [hcong]
    exact (hbt rfl).mono fun u w' ⟨hu, hC, hB⟩ => ih _ _ _ _ hu' (step u w' hC) (rest u w' hu hB)
   | false =>
    simp only [Bool.false_eq_true, if_false]
    exact ih _ _ _ _ hu' (step undef w M.cls) (rest undef w (hbf rfl) (hLe i w))
end
section
variable {P : Program} {N : Nat} {Q : uR} {l : Env} {w : World}
theorem zFn {id : Nat} {ops : List Oper} (keys : List Nat) (n : Nat) (hm : P.follows .mixedOrders = true) (bT : oK l = keys) (hok : rP keys ops n = true) (hlt : DLt N ops n)
  {C : World → Prop} {R : Nat → Value → World → Prop} (hC : C w.drew) {Le : Nat → World → World → Prop} (hLe : ∀ i w, Le i w w) (hS : ∀ j i u w w', j < n → i < n → j ≠ i → C w → R j u w → Le i w w' → R j u w')
  (H : ∀ i o, i < n → ops[i]? = some o → ∀ (vs : Nat → Value) (w : World), C w → (∀ j t, j < i → bA ops j = some t → t ∈ o.looksAt ops.toArray → R j (vs j) w) →
   ∃ b, gd (dQ l ops vs i) (cP ops) o.guard (· = b) ∧ (b = true → Yields P (execOp (evD (dQ l ops vs i)) o) w fun u w' => R i u w' ∧ C w' ∧ Le i w w') ∧ (b = false → R i undef w))
  (hT : ∀ (vs : Nat → Value) (w : World), C w → (∀ j, j < n → R j (vs j) w) → VC P N (cP ops) (fun l' w' => Q .normal l' w') (ops.drop n) (dQ l ops vs n) w) : W P N (.region id ops.toArray true) Q l w := fun hk F => by
 have ok := gN hok
 refine wp_region_any hm ?_
 have := qPw ok F hk (fun t ht => sH (by rw [bT]; exact ht)) hlt hLe hS H (Q := qV7 N Q)
  (fun vs w' hw' hR => xH F (K := fun l w => Q .normal l w) (fun l' w' hk' hK => ⟨F, l', rfl, hk', hK⟩) _ _ _ (yW hlt hk n (Nat.le_refl _)) (hT vs w' hw' hR))
  ops.length (Array.replicate ops.length false) (mk F l) w.drew (fun _ => undef) (kV _)
  ⟨by simp, (fun i j hi => by rw [getD_replicate_false] at hi; cases hi), (fun i hi => by rw [getD_replicate_false] at hi; cases hi), rfl, by simp [mk, jJ, F.hN], (fun j t _ hl => by rw [getD_replicate_false] at hl; cases hl), fun t _ => rfl, hC⟩
  (fun j _ hl => by rw [getD_replicate_false] at hl; cases hl)
 simpa using this
theorem qU2 {id : Nat} {ops : List Oper} (keys : List Nat) (n : Nat) (hm : P.follows .mixedOrders = true) (bT : oK l = keys) (hok : rP keys ops n = true) (hlt : DLt N ops n)
  {C : World → Prop} {R : Nat → Value → World → Prop} (hC : C w.drew) (hS : ∀ i u w w', C w → R i u w → Below w.heap.size w w' → R i u w')
  (H : ∀ i o, i < n → ops[i]? = some o → ∀ (vs : Nat → Value) (w : World), C w → (∀ j t, j < i → bA ops j = some t → t ∈ o.looksAt ops.toArray → R j (vs j) w) →
   ∃ b, gd (dQ l ops vs i) (cP ops) o.guard (· = b) ∧ (b = true → Yields P (execOp (evD (dQ l ops vs i)) o) w fun u w' => R i u w' ∧ C w' ∧ Below w.heap.size w w') ∧ (b = false → R i undef w))
  (hT : ∀ (vs : Nat → Value) (w : World), C w → (∀ j, j < n → R j (vs j) w) → VC P N (cP ops) (fun l' w' => Q .normal l' w') (ops.drop n) (dQ l ops vs n) w) : W P N (.region id ops.toArray true) Q l w :=
 zFn keys n hm bT hok hlt hC (Le := fun _ w w' => Below w.heap.size w w') (fun _ w => Below.refl _ _) (fun j _ u w w' _ _ _ hc hr hb => hS j u w w' hc hr hb) H hT
end
end Go.Eng
end

section
set_option linter.unusedSimpArgs false
set_option linter.unusedVariables false
namespace Go.Eng
open Go Go.RowKit

def cF : Operand → List Nat
 | .tmp t => [t]
 | _ => []
def tY : List Operand → List Nat
 | [] => []
 | x :: r => cF x ++ tY r
def nV : List (Nat × Operand) → List Nat
 | [] => []
 | (_, x) :: r => cF x ++ nV r
def qEc : Option Operand → List Nat
 | some x => cF x
 | none => []
def qGm : Callee → List Nat
 | .value x => cF x
 | _ => []
def cN : Op → List Nat
 | .move x => cF x
 | .assign x => cF x
 | .nilCheck x => cF x
 | .pick c a b => cF c ++ (cF a ++ cF b)
 | .extract x _ => cF x
 | .field _ x _ => cF x
 | .fieldAddr _ x _ => cF x
 | .load _ x => cF x
 | .unOp _ _ x => cF x
 | .convert _ _ x => cF x
 | .indexAddr _ x i => cF x ++ cF i
 | .index _ x i => cF x ++ cF i
 | .slice _ x l h none => cF x ++ (qEc l ++ qEc h)
 | .binOp _ _ x y _ => cF x ++ cF y
 | .build _ ps => nV ps.toList
 | .buildSlice _ _ ps => nV ps.toList
 | .makeSlice _ x y => cF x ++ cF y
 | .call ⟨k, args, _⟩ => qGm k ++ tY args.toList
 | _ => []
theorem jH {x : Operand} {t : Nat} (h : t ∈ cF x) : x = .tmp t := by
 cases x <;> simp [cF] at h
 subst h; rfl
theorem qGl : ∀ {l : List Operand} {t : Nat}, t ∈ tY l → Operand.tmp t ∈ l
 | [], t, h => by simp [tY] at h
 | x :: r, t, h => by
  simp only [tY, List.mem_append] at h
  rcases h with h | h
  ·rw [jH h]; exact List.mem_cons_self ..
  ·exact List.mem_cons_of_mem _ (qGl h)
theorem qAw : ∀ {l : List (Nat × Operand)} {t : Nat}, t ∈ nV l → Operand.tmp t ∈ l.map (·.2)
 | [], t, h => by simp [nV] at h
 | (k, x) :: r, t, h => by
  simp only [nV, List.mem_append] at h
  rcases h with h | h
  ·rw [List.map_cons, jH h]; exact List.mem_cons_self ..
  ·rw [List.map_cons]; exact List.mem_cons_of_mem _ (qAw h)
theorem qMa {x : Option Operand} {t : Nat} (h : t ∈ qEc x) : x = some (.tmp t) := by
 cases x with
 | none => simp [qEc] at h
 | some x => rw [jH h]
theorem qD8 {o : Op} {t : Nat} (h : t ∈ cN o) : Operand.tmp t ∈ o.operands := by
 unfold cN at h
 split at h
 all_goals try simp only [List.mem_append] at h
 case h_13 => 
  simp only [Op.operands]
  rcases h with h | h | h
  ·rw [jH h]; simp
  ·rw [qMa h]; simp
  ·rw [qMa h]; simp
 case h_15 => simpa [Op.operands] using qAw h
 case h_16 => simpa [Op.operands] using qAw h
 case h_18 =>
  simp only [Op.operands, Call.operands, Array.mem_append]
  rcases h with h | h
  ·refine .inl ?_
   unfold qGm at h
   split at h
   ·rw [jH h]; simp
   ·simp at h
  ·exact .inr (by simpa using qGl h)
 case h_19 => simp at h
 all_goals
  simp only [Op.operands]
  first
  | (rw [jH h]; simp; done)
  | (rcases h with h | h <;> (rw [jH h]; simp))
  | (rcases h with h | h | h <;> (rw [jH h]; simp))
def rM (ds : List (Option Nat)) : Option (Nat × Bool) → List Nat
 | none => []
 | some (g, _) => match ds[g]? with
  | some (some d) => [d]
  | _ => []
def kH (e : bX) : List Nat → bX
 | [] => []
 | t :: r => match hlk e t with
  | some h => (t, h) :: kH e r
  | none => kH e r
theorem xU {e : bX} : ∀ {l : List Nat} {t : Nat} {h : HV}, hlk (kH e l) t = some h → t ∈ l ∧ hlk e t = some h
 | [], t, h, hh => by simp [kH, hlk] at hh
 | k :: r, t, h, hh => by
  simp only [kH] at hh
  split at hh
  ·rename_i x hx
   simp only [hlk] at hh
   by_cases ek : k = t
   ·subst ek; rw [if_pos rfl] at hh; exact ⟨List.mem_cons_self .., by rw [hx]; exact hh⟩
   ·rw [if_neg ek] at hh
    obtain ⟨a, b⟩ := xU hh
    exact ⟨List.mem_cons_of_mem _ a, b⟩
  ·obtain ⟨a, b⟩ := xU hh
   exact ⟨List.mem_cons_of_mem _ a, b⟩
def zG7 (P : Program) (f : FuncId) (args : List HV) (T : HS) (K : HV → Prop) : Prop :=
 aJ P f = true ∧ ∃ h, K h ∧ ∀ (c : Ctx) (look : Nat → Option Value) (w : World) (ρ : Nat → Value) (xs : Nat → List Value) (vs : List Value), Good c T look w ρ xs → mX w (c.A ρ T.st) c.n0 ρ vs args →
  Calls P f vs.toArray w (Ret fun u w' => RepH w' (c.A ρ T.st) c.n0 ρ u h ∧ Below w.heap.size w w')
def kP : bX → Bool
 | [] => true
 | (_, .v _) :: r => kP r
 | (_, .lst _ _) :: r => kP r
 | (_, .agg _) :: r => kP r
 | _ => false
def qZp (d : Option Nat) (S : HS) (K : HS → Prop) : HOut → Prop
 | .go c (.own i) S' => match rlk S'.st i with
  | some (.sl _ _ _ els) => c ∧ K (S.set d (.lst true els))
  | _ => False
 | _ => False
def zGj : Op → Bool
 | .buildSlice .. => true
 | .makeSlice .. => true
 | _ => false
def qAb (P : Program) (o : Oper) (S T : HS) (K : HS → Prop) : HOut → Prop
 | .go c h _ => match dG o.op with
  | true => c ∧ K (S.set o.dst h)
  | false => match zGj o.op && kP T.env with
   | true => qZp o.dst S K (hop P ⟨T.env, []⟩ (qCi o.dst) o.op)
   | false => False
 | .call f args => zG7 P f args T (fun x => mJ K (S.set o.dst x))
 | .eqn t x y neg => ∃ r, EqR P t x.toArray y.toArray r ∧ mJ K (S.set o.dst (.v (.bool (neg ^^ r))))
 | .bytes _ _ => False
 | .bad => False
def qWw (P : Program) (N : Nat) (o : Oper) (S T : HS) (K : HS → Prop) : Prop := match dP N o.dst with
 | true => qAb P o S T K (hop P T (qCi o.dst) o.op)
 | false => False
def qDy (P : Program) (N : Nat) (o : Oper) (S T : HS) (K : HS → Prop) : GOut → Prop
 | .yes => qWw P N o S T K
 | .no => kE N o.dst S K
 | .ask d b want => match b == want with
  | true => qWw P N o (S.rep d (.v (.bool want))) (T.rep d (.v (.bool want))) K
  | false => kE N o.dst (S.rep d (.v (.bool (!want)))) K
 | .bad => False
def HVr (P : Program) (N : Nat) (ds : List (Option Nat)) (K : HS → Prop) : List Oper → HS → Prop
 | [], S => K S
 | o :: rest, S => qDy P N o S ⟨kH S.env (rM ds o.guard ++ cN o.op), S.st⟩ (HVr P N ds K rest) (hG (kH S.env (rM ds o.guard ++ cN o.op)) ds o.guard)
end Go.Eng
end

section
set_option linter.unusedSimpArgs false
set_option linter.unusedVariables false
namespace Go.Eng
open Go Go.RowKit
section
variable {P : Program} {N : Nat} {c : Ctx} {S T : HS} {Q : fF} {l : Env} {look : Nat → Option Value} {w w' : World} {ρ : Nat → Value} {xs : Nat → List Value} {K : HS → Prop}
theorem RepH.above {A : Nat → Prop} {n0 : Nat} {v : Value} {x : HV} (h : RepH w A n0 ρ v x) (B : Below w.heap.size w w') : RepH w' A n0 ρ v x := h.up B.size (fun b hlt _ => B.block b hlt) (fun b _ h => h) (Nat.le_refl _)
theorem yT {d : Nat} {h : HV} : ∀ {E : bX}, hlk E d = some h → ∀ k, hlk (wH d h E) k = hlk E k
 | [], e, k => by simp [hlk] at e
 | (j, x) :: r, e, k => by
  simp only [hlk] at e
  simp only [wH]
  by_cases ej : j = d
  ·rw [if_pos ej] at e ⊢
   simp only [Option.some.injEq] at e
   subst e; rfl
  ·rw [if_neg ej] at e ⊢
   simp only [hlk, yT e k]
theorem Good.sameEnv {E : bX} {st : aN} (G : Good c ⟨E, st⟩ look w ρ xs) {E' : bX} (h : ∀ k, hlk E' k = hlk E k) : Good c ⟨E', st⟩ look w ρ xs := ⟨G.rows, G.apart, fun k x hk => G.env k x (by rw [← h k]; exact hk), G.kept, G.a0⟩
theorem qVh (G : Good c T (lk l) w ρ xs) {id i : Nat} {o : Op} {ty : TypeId} {cnd : Prop} {S' : HS} (hp : kP T.env = true) (h : hop P ⟨T.env, []⟩ id o = .go cnd (.own i) S') {nw : Bool} {t sz : Nat} {els : List (List FV)} (hr : rlk S'.st i = some (.sl nw t sz els)) (hc : cnd) :
  bM P l o ty w (fun u w' => RepH w' (c.A ρ T.st) c.n0 ρ u (.lst true els) ∧ Below w.heap.size w w') (fun u w' => RepH w' (c.A ρ T.st) c.n0 ρ u (.lst true els) ∧ Below w.heap.size w w') := by
 have hA : ∀ b, c.A ρ T.st b → b < w.heap.size := by
  rintro b (h0 | ⟨i, r, hi, hb⟩)
  ·have := (G.a0 b h0).1; have := G.kept.size; omega
  ·exact G.lt hi hb
 have G2 : Good ⟨w, fun _ => False, c.A ρ T.st, c.n0, Nat.le_trans c.hn G.kept.size, fun _ _ => False⟩ ⟨T.env, []⟩ (lk l) w ρ xs := by
  refine ⟨fun id r hr => by simp [rlk] at hr, fun i j r s b hne hi => by simp [rlk] at hi, fun k x hk => ?_, Kept.refl _ _, fun b hb => ⟨hA b hb, fun h => h⟩⟩
  obtain ⟨u, h1, h2⟩ := G.env k _ hk
  refine ⟨u, h1, h2.up (Nat.le_refl _) (fun _ _ _ => rfl) (fun b _ hb => ?_) (Nat.le_refl _)⟩
  rcases hb with hb | ⟨i, r, hi, -⟩
  ·exact hb
  ·simp [rlk] at hi
 refine cA (qL7 G2 (bN _ _) h hc) fun u w' ⟨ρ2, xs2, G3, r⟩ => ?_
 have B : Below w.heap.size w w' := G3.kept.below (fun _ _ h => h)
 refine ⟨?_, B⟩
 cases r
 obtain ⟨o1, o2, o3⟩ := cX G3 hr
 have R0 := G3.rows i _ hr
 refine .lst (xR o1 o2 (fun p k hp hk => ?_) (fun b hb => ?_))
 ·obtain ⟨u, a, b, d⟩ := o3 p k hp hk
  exact ⟨u, a, b, d.up (Nat.le_refl _) (fun _ _ _ => rfl) (fun b _ h => .inl h) (Nat.le_refl _)⟩
 ·rcases (R0.new b hb).1 with h | h
  ·have h : w.heap.size ≤ b := h
   exact ⟨fun hA' => by have := hA b hA'; omega, fun _ => by have := c.hn; have := G.kept.size; omega⟩
  ·exact h.elim
theorem qP9 {o : Oper} (h : qWw P N o S T K) : jR N o.dst ∧ ∃ x, K (S.set o.dst x) ∧ ∀ (c : Ctx) (l : Env) (w : World) (ρ : Nat → Value) (xs : Nat → List Value), Good c T (lk l) w ρ xs →
  bM P l o.op o.type w (fun u w' => RepH w' (c.A ρ T.st) c.n0 ρ u x ∧ Below w.heap.size w w') (fun u w' => RepH w' (c.A ρ T.st) c.n0 ρ u x ∧ Below w.heap.size w w') := by
 unfold qWw at h
 split at h
 ·rename_i hd
  refine ⟨eJ hd, ?_⟩
  cases ho : hop P T (qCi o.dst) o.op with
  | go c' hv S' =>
   rw [ho] at h
   unfold qAb at h
   dsimp only at h
   split at h
   ·rename_i hq
    obtain ⟨h0, h1⟩ := h
    refine ⟨hv, h1, fun c l w ρ xs G => ?_⟩
    obtain ⟨v, hK, hv'⟩ := zBl (ty := o.type) (qGe (ty := 0) G (bN _ _) ho hq h0)
    exact cA (hv' w (Below.refl _ _)) fun u w' ⟨e, B⟩ => by subst e; exact ⟨hK.2.2.above B, B⟩
   ·split at h
    ·rename_i hm
     simp only [Bool.and_eq_true] at hm
     unfold qZp at h
     split at h
     ·rename_i c2 i S2 hm2
      split at h
      ·rename_i nw t sz els hr
       exact ⟨_, h.2, fun c l w ρ xs G => qVh G hm.2 hm2 hr h.1⟩
      ·exact h.elim
     ·exact h.elim
    ·exact h.elim
  | call f args =>
   rw [ho] at h
   obtain ⟨hf, x, hK, hc⟩ := h
   refine ⟨x, hK, fun c l w ρ xs G => ?_⟩
   obtain ⟨y, ay, ats, e, hfn, has⟩ := qJc ho
   rw [e]
   obtain ⟨vs, e1, e2, e3⟩ := G.evs (bN _ _) has
   unfold bM
   simp only [aV, cD, e1, G.fn (bN _ _) hfn]
   exact ⟨hf, hc c (lk l) w ρ xs vs G ⟨e2, e3⟩⟩
  | eqn t x y neg =>
   rw [ho] at h
   obtain ⟨r, h1, h2⟩ := h
   refine ⟨_, h2, fun c l w ρ xs G => ?_⟩
   exact cA (qGf G (bN _ l) ho h1) fun v w' ⟨e, _, r⟩ => by subst e; exact ⟨r, Below.refl _ _⟩
  | bytes ok s => rw [ho] at h; exact h.elim
  | bad => rw [ho] at h; exact h.elim
 ·exact h.elim
def FrOk (ops : List Oper) (E0 : bX) (hs : Nat → HV) (i : Nat) (E : bX) : Prop := ∀ t h, hlk E t = some h → (∃ j, j < i ∧ bA ops j = some t ∧ hs j = h) ∨ ((∀ j, j < i → bA ops j ≠ some t) ∧ hlk E0 t = some h)
theorem FrOk.congr {ops : List Oper} {E0 E : bX} {hs hs' : Nat → HV} {i : Nat} (h : FrOk ops E0 hs i E) (he : ∀ j, j < i → hs' j = hs j) : FrOk ops E0 hs' i E := fun t x hx => by
 rcases h t x hx with ⟨j, a, b, d⟩ | r
 ·exact .inl ⟨j, a, b, by rw [he j a]; exact d⟩
 ·exact .inr r
theorem FrOk.env {ops : List Oper} {E0 E E' : bX} {hs : Nat → HV} {i : Nat} (h : FrOk ops E0 hs i E) (he : ∀ t x, hlk E' t = some x → hlk E t = some x) : FrOk ops E0 hs i E' := fun t x hx => h t x (he t x hx)
theorem FrOk.set {ops : List Oper} {E0 : bX} {hs : Nat → HV} {i : Nat} {S : HS} (h : FrOk ops E0 hs i S.env) {o : Oper} (ho : ops[i]? = some o) : FrOk ops E0 hs (i + 1) (S.set o.dst (hs i)).env := by
 have hd : bA ops i = o.dst := by unfold bA; rw [ho]; rfl
 intro t x hx
 cases e : o.dst with
 | none =>
  rw [e] at hx hd
  rcases h t x hx with ⟨j, a, b, d⟩ | ⟨a, b⟩
  ·exact .inl ⟨j, by omega, b, d⟩
  ·refine .inr ⟨fun j hj => ?_, b⟩
   by_cases ej : j = i
   ·subst ej; rw [hd]; simp
   ·exact a j (by omega)
 | some d =>
  rw [e] at hx hd
  simp only [HS.set, hlk] at hx
  by_cases et : d = t
  ·rw [if_pos et] at hx
   simp only [Option.some.injEq] at hx
   exact .inl ⟨i, by omega, by rw [hd, et], hx⟩
  ·rw [if_neg et] at hx
   rcases h t x hx with ⟨j, a, b, d'⟩ | ⟨a, b⟩
   ·exact .inl ⟨j, by omega, b, d'⟩
   ·refine .inr ⟨fun j hj => ?_, b⟩
    by_cases ej : j = i
    ·subst ej; rw [hd]; simpa using et
    ·exact a j (by omega)
structure HeadOk (P : Program) (N : Nat) (ops : List Oper) (E0 : bX) (st : aN) (hs : Nat → HV) (i : Nat) (o : Oper) : Prop where
 lt : jR N o.dst
 head : ∃ T : bX, FrOk ops E0 hs i T ∧ (∀ t h, hlk T t = some h → t ∈ rM (cP ops) o.guard ++ cN o.op) ∧ ∀ (c : Ctx) (l : Env) (w : World) (ρ : Nat → Value) (xs : Nat → List Value), Good c ⟨T, st⟩ (lk l) w ρ xs →
  ∃ b, gd l (cP ops) o.guard (· = b) ∧ (b = true → bM P l o.op o.type w (fun u w' => RepH w' (c.A ρ st) c.n0 ρ u (hs i) ∧ Below w.heap.size w w') (fun u w' => RepH w' (c.A ρ st) c.n0 ρ u (hs i) ∧ Below w.heap.size w w')) ∧ (b = false → hs i = .v undef)
theorem qLm {d : Option Nat} (h : kE N d S K) : jR N d ∧ K (S.set d (.v undef)) := by
 unfold kE at h
 split at h
 ·rename_i hd; exact ⟨eJ hd, h⟩
 ·exact h.elim
theorem tR {ops : List Oper} {E0 : bX} {st : aN} : ∀ (rest : List Oper) (i : Nat) (S : HS) (hs0 : Nat → HV), (∀ k o, rest[k]? = some o → ops[i + k]? = some o) → S.st = st → FrOk ops E0 hs0 i S.env → HVr P N (cP ops) K rest S →
  ∃ hs, (∀ j, j < i → hs j = hs0 j) ∧ (∀ k o, rest[k]? = some o → HeadOk P N ops E0 st hs (i + k) o) ∧ ∃ S', S'.st = st ∧ FrOk ops E0 hs (i + rest.length) S'.env ∧ K S'
 | [], i, S, hs0, hops, hst, F, h => ⟨hs0, fun _ _ => rfl, fun k o hk => by simp at hk, S, hst, F, h⟩
 | o :: rest, i, S, hs0, hops, hst, F, h => by
  have hoi : ops[i]? = some o := hops 0 o (by simp)
  rw [HVr] at h
  generalize hT : kH S.env (rM (cP ops) o.guard ++ cN o.op) = T at h
  have TF : ∀ t x, hlk T t = some x → t ∈ rM (cP ops) o.guard ++ cN o.op ∧ hlk S.env t = some x := fun t x hx => by subst hT; exact xU hx
  have key : ∀ (S1 : HS) (x : HV), S1.st = st → FrOk ops E0 hs0 i S1.env → HVr P N (cP ops) K rest (S1.set o.dst x) → jR N o.dst →
    (∀ (c : Ctx) (l : Env) (w : World) (ρ : Nat → Value) (xs : Nat → List Value), Good c ⟨T, st⟩ (lk l) w ρ xs →
     ∃ b, gd l (cP ops) o.guard (· = b) ∧ (b = true → bM P l o.op o.type w (fun u w' => RepH w' (c.A ρ st) c.n0 ρ u x ∧ Below w.heap.size w w') (fun u w' => RepH w' (c.A ρ st) c.n0 ρ u x ∧ Below w.heap.size w w')) ∧ (b = false → x = .v undef)) →
    ∃ hs, (∀ j, j < i → hs j = hs0 j) ∧ (∀ k o', (o :: rest)[k]? = some o' → HeadOk P N ops E0 st hs (i + k) o') ∧ ∃ S', S'.st = st ∧ FrOk ops E0 hs (i + (o :: rest).length) S'.env ∧ K S' := by
   intro S1 x hst1 F1 hK hlt hrun
   let hs1 : Nat → HV := fun j => if j = i then x else hs0 j
   have e1 : hs1 i = x := if_pos rfl
   have e2 : ∀ j, j < i → hs1 j = hs0 j := fun j hj => if_neg (by omega)
   have F2 : FrOk ops E0 hs1 (i + 1) (S1.set o.dst x).env := by
    have := (F1.congr e2).set hoi
    rw [e1] at this; exact this
   obtain ⟨hs, a, b, S', d, e, f⟩ := tR rest (i + 1) (S1.set o.dst x) hs1 (fun k o' hk => by
    have := hops (k + 1) o' (by simpa using hk)
    rw [show i + 1 + k = i + (k + 1) by omega]; exact this) (by cases o.dst <;> exact hst1) F2 hK
   have ei : hs i = x := by rw [a i (by omega), e1]
   have ej : ∀ j, j < i → hs j = hs0 j := fun j hj => by rw [a j (by omega), e2 j hj]
   refine ⟨hs, ej, fun k o' hk => ?_, S', d, ?_, f⟩
   ·cases k with
    | zero =>
     simp only [List.getElem?_cons_zero, Option.some.injEq] at hk
     subst hk
     exact ⟨hlt, T, (F.congr ej).env (fun t x hx => (TF t x hx).2), fun t x hx => (TF t x hx).1, by rw [Nat.add_zero, ei]; exact hrun⟩
    | succ k =>
     have := b k o' (by simpa using hk)
     rw [show i + 1 + k = i + (k + 1) by omega] at this; exact this
   ·rw [List.length_cons, show i + (rest.length + 1) = i + 1 + rest.length by omega]; exact e
  cases hg : hG T (cP ops) o.guard with
  | yes =>
   rw [hg] at h
   obtain ⟨hlt, x, hK, hv⟩ := qP9 h
   refine key S x hst F hK hlt fun c l w ρ xs G => ⟨true, qQ6 (S := ⟨T, st⟩) hg rfl, fun _ => ?_, fun e => by cases e⟩
   have := hv c l w ρ xs (by rw [hst]; exact G)
   rw [hst] at this; exact this
  | no =>
   rw [hg] at h
   obtain ⟨hlt, hK⟩ := qLm h
   exact key S _ hst F hK hlt fun c l w ρ xs G => ⟨false, zDz (S := ⟨T, st⟩) ⟨ρ, xs, G⟩ hg rfl, fun e => (by cases e), fun _ => rfl⟩
  | ask d b want =>
   rw [hg] at h
   obtain ⟨j, hj, hd, hb⟩ := zDx (S := ⟨T, st⟩) hg
   have hbS := (TF d _ hb).2
   simp only [qDy] at h
   split at h
   ·rename_i e
    have e' : b = want := by simpa using e
    subst e'
    obtain ⟨hlt, x, hK, hv⟩ := qP9 h
    refine key (S.rep d (.v (.bool b))) x hst (F.env fun t x hx => by rw [← yT hbS t]; exact hx) hK hlt fun c l w ρ xs G => ⟨true, (qA3 (S := ⟨T, st⟩) ⟨ρ, xs, G⟩ hg (k := (· = true)) e).1, fun _ => ?_, fun e => by cases e⟩
    have := hv c l w ρ xs (by rw [hst]; exact G.sameEnv (yT hb))
    simp only [HS.rep] at this
    rw [hst] at this; exact this
   ·rename_i e
    have e' : b = !want := by cases b <;> cases want <;> simp_all
    subst e'
    obtain ⟨hlt, hK⟩ := qLm h
    exact key (S.rep d (.v (.bool (!want)))) _ hst (F.env fun t x hx => by rw [← yT hbS t]; exact hx) hK hlt fun c l w ρ xs G => ⟨false, (qA3 (S := ⟨T, st⟩) ⟨ρ, xs, G⟩ hg (k := (· = false)) e).1, fun e => (by cases e), fun _ => rfl⟩
  | bad => rw [hg] at h; exact h.elim
end
end Go.Eng
end

section
set_option linter.unusedSimpArgs false
set_option linter.unusedVariables false
namespace Go.Eng
open Go Go.RowKit
section
variable {P : Program} {N : Nat} {c : Ctx} {S T : HS} {Q : fF} {l : Env} {look : Nat → Option Value} {w w' : World} {ρ : Nat → Value} {xs : Nat → List Value} {K : HS → Prop}
theorem qE {ops : List Oper} {o : Oper} {t : Nat} (h : t ∈ rM (cP ops) o.guard ++ cN o.op) : t ∈ o.looksAt ops.toArray := by
 rcases List.mem_append.1 h with h | h
 ·cases hg : o.guard with
  | none => rw [hg] at h; simp [rM] at h
  | some p =>
   obtain ⟨g, b⟩ := p
   rw [hg] at h
   simp only [rM] at h
   split at h
   ·rename_i d hd
    simp only [List.mem_singleton] at h
    subst h
    refine gR hg ?_
    unfold bA
    simp only [cP, List.getElem?_map, Option.map_eq_some_iff] at hd
    obtain ⟨x, hx, hx'⟩ := hd
    simp [hx, hx']
   ·simp at h
 ·exact nC (qD8 h)
theorem jP {x : HV} {k : Nat} : ∀ {e : bX}, hlk e k = some x → k ∈ bT e
 | [], h => by simp [hlk] at h
 | (j, y) :: r, h => by
  simp only [hlk] at h
  by_cases ej : j = k
  ·simp [bT, ej]
  ·rw [if_neg ej] at h
   have := jP h
   simp only [bT, List.map_cons, List.mem_cons]
   exact .inr this
theorem iD {id : Nat} {ops : List Oper} (n : Nat) (hm : P.follows .mixedOrders = true) (hok : rP (bT S.env) ops n = true)
  (h : ∀ K : HS → Prop, (∀ S', Q .normal S' → K S') → HVr P N (cP ops) (fun S' => mJ (HV2 P N (cP ops) K (ops.drop n)) S') (ops.take n) S) : HW P N (.region id ops.toArray true) Q S := fun c l w I => by
 have hks : ∀ k ∈ bT S.env, ∃ v, lk l k = some v := fun k hk => by
  obtain ⟨x, hx⟩ := jQ hk
  obtain ⟨ρ, xs, G⟩ := I
  obtain ⟨v, h1, -⟩ := G.env k x hx
  exact ⟨v, h1⟩
 refine xG (bT S.env) ?_
 have I' : Inv c S (lk (keep (bT S.env) l)) w := I.agree fun k x hk => lB (jP hk)
 have hkk : oK (keep (bT S.env) l) = bT S.env := kR hks
 generalize keep (bT S.env) l = l' at I' hkk
 obtain ⟨ρ, xs, G⟩ := I'
 have ok := gN hok
 have hlen : (ops.take n).length = n := by rw [List.length_take]; have := ok.hn; omega
 have get_take : ∀ {i : Nat} {o : Oper}, (ops.take n)[i]? = some o → i < n ∧ ops[i]? = some o := fun {i o} h => by
  have hi := (List.getElem?_eq_some_iff.1 h).1
  rw [hlen] at hi
  rw [List.getElem?_take_of_lt hi] at h
  exact ⟨hi, h⟩
 obtain ⟨hs, -, heads, S1, e1, F1, h1⟩ := tR (E0 := S.env) (st := S.st) (ops.take n) 0 S (fun _ => .junk) (fun k o hk => by rw [Nat.zero_add]; exact (get_take hk).2) rfl (fun t x hx => .inr ⟨fun j hj => absurd hj (Nat.not_lt_zero _), hx⟩) (h (Q .normal) fun _ h => h)
 rw [hlen, Nat.zero_add] at F1
 have head : ∀ i o, i < n → ops[i]? = some o → HeadOk P N ops S.env S.st hs i o := fun i o hi ho => by
  have := heads i o (by rw [List.getElem?_take_of_lt hi]; exact ho)
  rw [Nat.zero_add] at this; exact this
 have uniq : ∀ i j t, i < n → j < n → bA ops i = some t → bA ops j = some t → i = j := by
  intro i j t hi hj h1 h2
  rcases Nat.lt_trichotomy i j with h | h | h
  ·rcases ok.uniq j i hj h with e | e
   ·rw [h2] at e; cases e
   ·exact absurd (h2.trans h1.symm) e
  ·exact h
  ·rcases ok.uniq i j hi h with e | e
   ·rw [h1] at e; cases e
   ·exact absurd (h1.trans h2.symm) e
 have hlt : DLt N ops n := fun i t hi hd => by
  obtain ⟨o, ho, hod⟩ := pQ hd
  have := (head i o hi ho).lt
  rw [hod] at this; exact this
 -- what a frame of the heads' names reads
 have frame : ∀ (vs : Nat → Value) (w' : World) (i : Nat) (E : bX), i ≤ n → Below w.heap.size w w' → FrOk ops S.env hs i E →
   (∀ j t x, j < i → bA ops j = some t → hlk E t = some x → RepH w' (c.A ρ S.st) c.n0 ρ (vs j) (hs j)) → Good c ⟨E, S.st⟩ (lk (dQ l' ops vs i)) w' ρ xs := fun vs w' i E hi hB F hv => by
  have GB := G.below hB
  refine ⟨GB.rows, GB.apart, fun k x hk => ?_, GB.kept, GB.a0⟩
  rcases F k x hk with ⟨j, a, b, d⟩ | ⟨a, b⟩
  ·refine ⟨vs j, (iW (l := l') (vs := vs) hlt (base := Array.replicate N undef) (by simp) b (fun q hq hne e => hne (uniq q j k hq (by omega) e b)) i hi a).1, ?_⟩
   rw [← d]; exact hv j k x a b hk
  ·obtain ⟨v, v1, v2⟩ := GB.env k x b
   exact ⟨v, by rw [(gT (l := l') (vs := vs) #[] k i a).1]; exact v1, v2⟩
 refine qU2 (bT S.env) n hm hkk hok hlt (C := fun w' => Below w.heap.size w w') (R := fun j u w' => RepH w' (c.A ρ S.st) c.n0 ρ u (hs j)) (Below.refl _ _).drew (fun i u w1 w2 _ hr hB => hr.above hB) ?_ ?_
 ·intro i o hi ho vs w1 hC hR
  obtain ⟨T, TF, TS, run⟩ := (head i o hi ho).head
  have GT : Good c ⟨T, S.st⟩ (lk (dQ l' ops vs i)) w1 ρ xs := frame vs w1 i T (by omega) hC TF fun j t x hj hd hx => hR j t hj hd (qE (TS t x hx))
  obtain ⟨b, b1, b2, b3⟩ := run c _ w1 ρ xs GT
  refine ⟨b, b1, fun hb => ?_, fun hb => ?_⟩
  ·exact (gE (fun x X hx => by simp [evD, hx]) (b2 hb)).mono fun u w2 ⟨hu, hB⟩ => ⟨hu, hC.trans (hB.mono hC.size), hB⟩
  ·rw [b3 hb]; exact .v _
 ·intro vs w1 hC hR
  obtain ⟨E1, st1⟩ := S1
  have e1 : st1 = S.st := e1
  subst e1
  have G1 := frame vs w1 n E1 (Nat.le_refl _) hC F1 fun j t x hj _ _ => hR j hj
  exact HW_drw.V2.mono' (qDx _ _ _ _ h1 ⟨ρ, xs, G1⟩) fun l2 w2 h2 => h2
theorem gK {f : FuncId} {args args' : List HV} {x : Value} {K : HV → Prop} (hc : aJ P f = true) (H : HFun P f args' (fun h st => h = .v x)) (hl : Lends T.st args args') (hK : K (.v x)) : zG7 P f args T K :=
 ⟨hc, .v x, hK, fun c look w ρ xs vs G R => Ret.mono (H w vs (sE G R hl)) fun v w' ⟨B, h, st, h8, q, ρ', xs', G', hr⟩ => ⟨by subst q; have := bS hr; subst this; exact .v _, B⟩⟩
end
end Go.Eng
end

section
set_option linter.unusedSimpArgs false
set_option linter.unusedVariables false
namespace Go.Eng
open Go Go.RowKit
section
variable {P : Program} {T : HS}
theorem zK5 {f : FuncId} {args args' : List HV} {ty sz : Nat} {els : List (List FV)} {K : HV → Prop} (hc : aJ P f = true) (H : HFun P f args' (fun h st => h = .own 0 ∧ st = [(0, .sl true ty sz els)])) (hl : Lends T.st args args') (hK : K (.lst true els)) : zG7 P f args T K :=
 ⟨hc, _, hK, fun c look w ρ xs vs G R => Ret.mono (H w vs (sE G R hl)) fun v w' ⟨B, h, st, h8, ⟨e1, e2⟩, ρ', xs', G', hr⟩ => ⟨by
  subst e1; subst e2
  have hw : c.n0 ≤ w.heap.size := Nat.le_trans c.hn G.kept.size
  have hA : ∀ b, c.A ρ T.st b → b < w.heap.size := by
   rintro b (h0 | ⟨i, r, hi, hb⟩)
   ·have := (G.a0 b h0).1; have := G.kept.size; omega
   ·exact G.lt hi hb
  have e0 : rlk (HS.st ⟨[], [(0, Row.sl true ty sz els)]⟩) 0 = some (.sl true ty sz els) := rfl
  cases hr
  obtain ⟨o1, o2, o3⟩ := cX G' e0
  have R0 := G'.rows 0 _ e0
  refine .lst (xR o1 o2 (fun p k hp hk => ?_) (fun b hb => ?_))
  ·obtain ⟨u, a, b, d⟩ := o3 p k hp hk
   exact ⟨u, a, b, d.up (Nat.le_refl _) (fun _ _ _ => rfl) (fun b _ h => .inl (hA b h)) hw⟩
  ·rcases (R0.new b hb).1 with h | h
   ·have h : w.heap.size ≤ b := h
    exact ⟨fun hA' => by have := hA b hA'; omega, fun _ => by omega⟩
   ·exact h.elim, B⟩⟩
end
end Go.Eng
end

section
set_option linter.unusedSimpArgs false
set_option linter.unusedVariables false
namespace Go.Eng
open Go Go.RowKit
theorem zS (t : Nat) : hlk [] t = none := nr rfl
theorem zM (k : Nat) (v : HV) (r : bX) (t : Nat) : hlk ((k, v) :: r) t = if k = t then some v else hlk r t := nr rfl
theorem zX (t : Nat) : rlk [] t = none := nr rfl
theorem zU (k : Nat) (v : Row) (r : aN) (t : Nat) : rlk ((k, v) :: r) t = if k = t then some v else rlk r t := nr rfl
theorem qYr (l : bX) (t : Nat) : hev l (.tmp t) = hlk l t := nr rfl
theorem qNz (l : bX) (v : Value) : hev l (.const v) = some (.v v) := nr rfl
theorem qJg (l : bX) (g : Nat) : hev l (.global g) = some (.v (.pointer (some ⟨g, 0, none⟩))) := nr rfl
theorem qTr (l : bX) (f : FuncId) : hev l (.func f) = some (.v (.func (.func f) #[] #[])) := nr rfl
theorem qTq (l : bX) : lX l [] = some [] := nr rfl
theorem qNy (l : bX) (x : Operand) (r : List Operand) : lX l (x :: r) = match hev l x with | some v => (match lX l r with | some vs => some (v :: vs) | none => none) | none => none := nr rfl
theorem zC8 (x : Value) : qDn (some (.v x)) = some x := nr rfl
theorem qM9  : qDn none = none := nr rfl
theorem qSv (fr : Bool) (xs : List (List FV)) : qDn (some (.lst fr xs)) = none := nr rfl
theorem qSu (i : Nat) : qDn (some (.own i)) = none := nr rfl
theorem qSt (i s j k : Nat) : qDn (some (.ptr i s j k)) = none := nr rfl
theorem qSw (fr : Bool) (xs : List (List FV)) (s j k : Nat) : qDn (some (.elt fr xs s j k)) = none := nr rfl
theorem qSx (cs : List HV) : qDn (some (.agg cs)) = none := nr rfl
theorem qSs (cs : List HV) : qDn (some (.tup cs)) = none := nr rfl
theorem qX4 (i s o n : Nat) : qDn (some (.vw i s o n)) = none := nr rfl
theorem qNa  : qDn (some .junk) = none := nr rfl
theorem qJ7 (S : HS) (id : Nat) (P : Program) (o : Op) (c : Prop) (v : Value) : qCq S id P o (some (c, v)) = .go c (.v v) S := nr rfl
theorem qJ8 (S : HS) (id : Nat) (P : Program) (o : Op) : qCq S id P o none = iH P S id o := nr rfl
theorem zDn (P : Program) (S : HS) (id : Nat) (o : Op) : hop P S id o = qCq S id P o (aV P (lo S.env) o) := nr rfl
theorem qN2 (P : Program) (S : HS) (id : Nat) (x : Operand) : iH P S id (.move x) = uV S (hev S.env x) := nr rfl
theorem qEv (P : Program) (S : HS) (id : Nat) (x : Operand) : iH P S id (.assign x) = uV S (hev S.env x) := nr rfl
theorem qN0 (P : Program) (S : HS) (id : Nat) (c a b : Operand) : iH P S id (.pick c a b) = qCr S (hev S.env c) (hev S.env a) (hev S.env b) := nr rfl
theorem qCo (P : Program) (S : HS) (id : Nat) (x : Operand) (i : Nat) : iH P S id (.extract x i) = kC S i (hev S.env x) := nr rfl
theorem qJm (P : Program) (S : HS) (id : Nat) (t : TypeId) (x : Operand) (f : Nat) : iH P S id (.field t x f) = rF S (qAq P t f) (hev S.env x) := nr rfl
theorem qJn (P : Program) (S : HS) (id : Nat) (t : TypeId) (x : Operand) (f : Nat) : iH P S id (.fieldAddr t x f) = rG S (fG P t f) (hev S.env x) := nr rfl
theorem qN1 (P : Program) (S : HS) (id : Nat) (x : Operand) : iH P S id (.nilCheck x) = qLu S (hev S.env x) := nr rfl
theorem qJl (P : Program) (S : HS) (id : Nat) (t : TypeId) (x i : Operand) : iH P S id (.indexAddr t x i) = kU S (cK P t) (qQa P t) (hev S.env x) (hev S.env i) := nr rfl
theorem qJi (P : Program) (S : HS) (id : Nat) (t : TypeId) (x : Operand) (l h : Option Operand) : iH P S id (.slice t x l h none) = pE S (cK P t) l h (hev S.env x) := nr rfl
theorem qN3 (P : Program) (S : HS) (id : Nat) (t : TypeId) (x : Operand) : iH P S id (.load t x) = qN S (cM P t) (hev S.env x) := nr rfl
theorem qJh (P : Program) (S : HS) (id : Nat) (t : TypeId) (x y : Operand) : iH P S id (.store t x y) = wP S (cM P t) (hev S.env x) (hev S.env y) := nr rfl
theorem qJr (P : Program) (S : HS) (id : Nat) (t : TypeId) : iH P S id (.alloc t) = wR S id t (gD P t) := nr rfl
theorem qTv (P : Program) (S : HS) (id : Nat) (t : TypeId) (x : Operand) : iH P S id (.box t x) = qUb S id t (hev S.env x) := nr rfl
theorem qJq (P : Program) (S : HS) (id : Nat) (t : TypeId) (ps : Array (Nat × Operand)) : iH P S id (.build t ps) = uL S (dX P t) (gJ P t) (gD P t) (jA S.env ps.toList) := nr rfl
theorem qEu (P : Program) (S : HS) (id : Nat) (t n : TypeId) (ps : Array (Nat × Operand)) : iH P S id (.buildSlice t n ps) = qU S id n (rA P t) (jA S.env ps.toList) := nr rfl
theorem qJj (P : Program) (S : HS) (id : Nat) (t : TypeId) (x y : Operand) : iH P S id (.makeSlice t x y) = qE3 S id (rA P t) (hev S.env x) (hev S.env y) := nr rfl
theorem qTt (P : Program) (S : HS) (id : Nat) (args : Array Operand) (ats : Array TypeId) : iH P S id (.call ⟨.builtin .len, args, ats⟩) = match lX S.env args.toList with | some [h] => qKe S (cB ((cK P (eX ats)).isSome = true ∧ ats.size = 1)) (some h) | _ => .bad := nr rfl
theorem qTw (P : Program) (S : HS) (id : Nat) (args : Array Operand) (ats : Array TypeId) : iH P S id (.call ⟨.builtin .append, args, ats⟩) = mT S id (ats == #[eX ats, eX ats]) (zBv P ats) (rA P (eX ats)) (lX S.env args.toList) := nr rfl
theorem qJp (P : Program) (S : HS) (id : Nat) (f : FuncId) (args : Array Operand) (ats : Array TypeId) : iH P S id (.call ⟨.value (.func f), args, ats⟩) = qE8 f (lX S.env args.toList) := nr rfl
theorem qTu (P : Program) (S : HS) (id : Nat) (t : TypeId) (x y : Operand) (u : TypeId) : iH P S id (.binOp .eql t x y u) = hEq S (qFj P t) t false (hev S.env x) (hev S.env y) := nr rfl
theorem qTs (P : Program) (S : HS) (id : Nat) (t : TypeId) (x y : Operand) (u : TypeId) : iH P S id (.binOp .neq t x y u) = hEq S (qFj P t) t true (hev S.env x) (hev S.env y) := nr rfl
theorem qN5 (P : Program) (S : HS) (id : Nat) (s d : TypeId) (x : Operand) : iH P S id (.convert s d x) = qT S (xF P s d) (qLf P s d) (hev S.env x) := nr rfl
theorem qT1 (S : HS) (h : HV) : uV S (some h) = .go True h S := nr rfl
theorem qTy (S : HS) (t : Bool) (a b : HV) : qCr S (some (.v (.bool t))) (some a) (some b) = .go True (bif t then a else b) S := nr rfl
theorem qE5 (S : HS) (i : Nat) (hs : List HV) : kC S i (some (.tup hs)) = match hs[i]? with | some h => .go True h S | none => .bad := nr rfl
theorem qJk (P : Program) (S : HS) (id : Nat) (t : TypeId) (x i : Operand) : iH P S id (.index t x i) = mR S (qU0 P t) (hev S.env x) (hev S.env i) := nr rfl
theorem qE4 (S : HS) (m : Nat) (hs : List HV) (k : IntKind) (n : Int) : mR S (some m) (some (.agg hs)) (some (.v (.int k n))) = match hs[n.toNat]? with | some h => .go (cB (0 ≤ n ∧ n < m)) h S | none => .bad := nr rfl
theorem qKq (S : HS) (off : Nat) (hs : List HV) : rF S (some (off, none)) (some (.agg hs)) = match hs[off]? with | some h => .go True h S | none => .bad := nr rfl
theorem qKp (S : HS) (off n : Nat) (hs : List HV) : rF S (some (off, some n)) (some (.agg hs)) = .go (cB (off + n ≤ hs.length)) (.agg ((hs.drop off).take n)) S := nr rfl
theorem qKr (S : HS) (off id sz i k : Nat) : rG S (some off) (some (.ptr id sz i k)) = .go True (.ptr id sz i (k + off)) S := nr rfl
theorem qKs (S : HS) (off : Nat) (fr : Bool) (xs : List (List FV)) (sz i k : Nat) : rG S (some off) (some (.elt fr xs sz i k)) = .go True (.elt fr xs sz i (k + off)) S := nr rfl
theorem qTz (S : HS) (id sz i k : Nat) : qLu S (some (.ptr id sz i k)) = .go True (.ptr id sz i k) S := nr rfl
theorem qT0 (S : HS) (fr : Bool) (xs : List (List FV)) (sz i k : Nat) : qLu S (some (.elt fr xs sz i k)) = .go True (.elt fr xs sz i k) S := nr rfl
theorem qKg (S : HS) (id : Nat) (us ua : Option (Nat × Nat)) (kk : IntKind) (n : Int) : kU S us ua (some (.own id)) (some (.v (.int kk n))) = mS S id n us (rlk S.st id) := nr rfl
theorem qKh (S : HS) (fr : Bool) (xs : List (List FV)) (us ua : Option (Nat × Nat)) (kk : IntKind) (n : Int) : kU S us ua (some (.lst fr xs)) (some (.v (.int kk n))) = qR S fr xs n us := nr rfl
theorem qKf (S : HS) (id sz i k : Nat) (us ua : Option (Nat × Nat)) (kk : IntKind) (n : Int) : kU S us ua (some (.ptr id sz i k)) (some (.v (.int kk n))) = qQ S id sz i k n ua := nr rfl
theorem qKi (S : HS) (fr : Bool) (xs : List (List FV)) (sz i k : Nat) (us ua : Option (Nat × Nat)) (kk : IntKind) (n : Int) : kU S us ua (some (.elt fr xs sz i k)) (some (.v (.int kk n))) = qS S fr xs sz i k n ua := nr rfl
theorem qKl (S : HS) (id : Nat) (n : Int) (e sz : Nat) (nw : Bool) (ty s : Nat) (els : List (List FV)) : mS S id n (some (e, sz)) (some (.sl nw ty s els)) = .go (cB (sz = s ∧ 0 ≤ n ∧ n < els.length)) (.ptr id s n.toNat 0) S := nr rfl
theorem qKn (S : HS) (fr : Bool) (xs : List (List FV)) (n : Int) (e sz : Nat) : qR S fr xs n (some (e, sz)) = .go (cB (0 ≤ n ∧ n < xs.length) ∧ Wid sz xs) (.elt fr xs sz n.toNat 0) S := nr rfl
theorem qKm (S : HS) (id sz i k : Nat) (n : Int) (len size : Nat) : qQ S id sz i k n (some (len, size)) = .go (cB (0 ≤ n ∧ n < len)) (.ptr id sz i (k + n.toNat * size)) S := nr rfl
theorem qKo (S : HS) (fr : Bool) (xs : List (List FV)) (sz i k : Nat) (n : Int) (len size : Nat) : qS S fr xs sz i k n (some (len, size)) = .go (cB (0 ≤ n ∧ n < len)) (.elt fr xs sz i (k + n.toNat * size)) S := nr rfl
theorem qYs (S : HS) (c : Prop) (i s o n : Nat) : qKe S c (some (.vw i s o n)) = .go c (.v (.int .i64 n)) S := nr rfl
theorem qJ3 (S : HS) (us : Option (Nat × Nat)) (l h : Option Operand) (id : Nat) : pE S us l h (some (.own id)) = qL S id (jB (lo S.env) l 0) (jB (lo S.env) h (zF9 (rlk S.st id))) us (rlk S.st id) := nr rfl
theorem qN9 (S : HS) (us : Option (Nat × Nat)) (l h : Option Operand) (id sz off n : Nat) : pE S us l h (some (.vw id sz off n)) = qK S id sz off (jB (lo S.env) l 0) (jB (lo S.env) h n) us (rlk S.st id) := nr rfl
theorem qJ5 (S : HS) (id : Nat) (a b : Int) (e sz : Nat) (nw : Bool) (ty s : Nat) (els : List (List FV)) : qL S id (some a) (some b) (some (e, sz)) (some (.sl nw ty s els)) = .go (cB (sz = s ∧ 0 ≤ a ∧ a ≤ b ∧ b ≤ els.length)) (.vw id s a.toNat (b.toNat - a.toNat)) S := nr rfl
theorem qJ4 (S : HS) (id sz off : Nat) (a b : Int) (e sz' : Nat) (nw : Bool) (ty s : Nat) (els : List (List FV)) : qK S id sz off (some a) (some b) (some (e, sz')) (some (.sl nw ty s els)) = .go (cB (sz' = sz ∧ s = sz ∧ 0 ≤ a ∧ a ≤ b ∧ off + b ≤ els.length)) (.vw id sz (off + a.toNat) (b.toNat - a.toNat)) S := nr rfl
theorem qXb (nw : Bool) (ty s : Nat) (els : List (List FV)) : zF9 (some (.sl nw ty s els)) = els.length := nr rfl
theorem qPg (S : HS) (id s off m : Nat) (us ua : Option (Nat × Nat)) (kk : IntKind) (n : Int) : kU S us ua (some (.vw id s off m)) (some (.v (.int kk n))) = qP S id s off m n us (rlk S.st id) := nr rfl
theorem qKj (S : HS) (id s off m : Nat) (n : Int) (e sz : Nat) (nw : Bool) (ty s' : Nat) (els : List (List FV)) : qP S id s off m n (some (e, sz)) (some (.sl nw ty s' els)) = .go (cB (sz = s ∧ s' = s ∧ 0 ≤ n ∧ n < m)) (.ptr id s (off + n.toNat) 0) S := nr rfl
theorem qMy (st : aN) (sz id s off n : Nat) : jC st sz (.vw id s off n) = match rlk st id with | some (.sl _ _ s' els) => some (cB (s = sz ∧ s' = sz), (els.drop off).take n) | _ => none := nr rfl
theorem qN6 (i s o n : Nat) : cY (.vw i s o n) = some [.vw i s o n] := nr rfl
theorem qYh (i s o n : Nat) : (HV.vw i s o n).one = true := nr rfl
theorem iT (p : Nat → Bool) (i s o n : Nat) : HV.kill p (.vw i s o n) = bif p i then .junk else .vw i s o n := by rw [HV.kill]
theorem qFs (m : Nat → Option Nat) (i s o n : Nat) : HV.ren m (.vw i s o n) = match m i with | some j => .vw j s o n | none => .junk := by rw [HV.ren]; cases m i <;> rfl
theorem yR (id : Nat) (x0 : HV) (i s o n : Nat) : HV.sub id x0 (.vw i s o n) = if i = id then zBj x0 s o n else .vw i s o n := by rw [HV.sub]
theorem qMr (i s o n : Nat) : uF (.vw i s o n) = [] := nr rfl
theorem qHh (i s o n : Nat) : xW (.vw i s o n) = [] := nr rfl
theorem qT3 (S : HS) (c : Prop) (id : Nat) : qKe S c (some (.own id)) = qCs S c (rlk S.st id) := nr rfl
theorem qT4 (S : HS) (c : Prop) (fr : Bool) (xs : List (List FV)) : qKe S c (some (.lst fr xs)) = .go c (.v (.int .i64 xs.length)) S := nr rfl
theorem qT5 (S : HS) (c : Prop) (nw : Bool) (ty s : Nat) (els : List (List HV)) : qCs S c (some (.hl nw ty s els)) = .go c (.v (.int .i64 els.length)) S := nr rfl
theorem qKk (S : HS) (id : Nat) (n : Int) (e sz : Nat) (nw : Bool) (ty s : Nat) (els : List (List HV)) : mS S id n (some (e, sz)) (some (.hl nw ty s els)) = .go (cB (sz = s ∧ 0 ≤ n ∧ n < els.length)) (.ptr id s n.toNat 0) S := nr rfl
theorem qT6 (S : HS) (c : Prop) (nw : Bool) (ty s : Nat) (els : List (List FV)) : qCs S c (some (.sl nw ty s els)) = .go c (.v (.int .i64 els.length)) S := nr rfl
theorem qPa (S : HS) (us : Option (Nat × Nat)) (l h : Option Operand) (fr : Bool) (xs : List (List FV)) : pE S us l h (some (.lst fr xs)) = qM S fr xs (jB (lo S.env) l 0) (jB (lo S.env) h xs.length) us := nr rfl
theorem qJ6 (S : HS) (fr : Bool) (xs : List (List FV)) (a b : Int) (e sz : Nat) : qM S fr xs (some a) (some b) (some (e, sz)) = .go (cB (0 ≤ a ∧ a ≤ b ∧ b ≤ xs.length) ∧ Wid sz xs) (.lst fr ((xs.take b.toNat).drop a.toNat)) S := nr rfl
theorem qPb (S : HS) (kt : Option (Option Nat)) (id sz i k : Nat) : qN S kt (some (.ptr id sz i k)) = kB S sz i k kt (rlk S.st id) := nr rfl
theorem qPc (S : HS) (kt : Option (Option Nat)) (fr : Bool) (xs : List (List FV)) (sz i k : Nat) : qN S kt (some (.elt fr xs sz i k)) = rE S xs i k kt := nr rfl
theorem qPd (S : HS) (sz i k : Nat) (nw : Bool) (ty s : Nat) (els : List (List FV)) : kB S sz i k (some none) (some (.sl nw ty s els)) = .go (cB (sz = s ∧ i < els.length ∧ k < (els.getD i []).length)) ((els.getD i []).getD k default).h S := nr rfl
theorem qJ9 (S : HS) (sz i k n : Nat) (nw : Bool) (ty s : Nat) (els : List (List FV)) : kB S sz i k (some (some n)) (some (.sl nw ty s els)) = .go (cB (sz = s ∧ i < els.length ∧ k + n ≤ (els.getD i []).length)) (.agg ((((els.getD i []).drop k).take n).map FV.h)) S := nr rfl
theorem qPf (S : HS) (sz i k : Nat) (nw : Bool) (ty : Nat) (cells : List HV) : kB S sz i k (some none) (some (.bx nw ty cells)) = .go (cB (i = 0 ∧ k < cells.length)) (cells.getD k .junk) S := nr rfl
theorem qKb (S : HS) (sz i k n : Nat) (nw : Bool) (ty : Nat) (cells : List HV) : kB S sz i k (some (some n)) (some (.bx nw ty cells)) = .go (cB (i = 0 ∧ k + n ≤ cells.length)) (.agg ((cells.drop k).take n)) S := nr rfl
theorem qPe (S : HS) (sz i k : Nat) (nw : Bool) (ty s : Nat) (els : List (List HV)) : kB S sz i k (some none) (some (.hl nw ty s els)) = .go (cB (sz = s ∧ i < els.length ∧ k < (els.getD i []).length)) ((els.getD i []).getD k .junk) S := nr rfl
theorem qKa (S : HS) (sz i k n : Nat) (nw : Bool) (ty s : Nat) (els : List (List HV)) : kB S sz i k (some (some n)) (some (.hl nw ty s els)) = .go (cB (sz = s ∧ i < els.length ∧ k + n ≤ (els.getD i []).length)) (.agg (((els.getD i []).drop k).take n)) S := nr rfl
theorem qJ1 (S : HS) (id sz i k : Nat) (kt : Option (Option Nat)) (h : HV) (nw : Bool) (ty s : Nat) (els : List (List HV)) : mP S id sz i k kt h (some (.hl nw ty s els)) = qH S id sz i k nw ty s els kt h := nr rfl
theorem qEz (S : HS) (id sz i k : Nat) (nw : Bool) (ty s : Nat) (els : List (List HV)) (h : HV) : qH S id sz i k nw ty s els (some none) h = .go (cB (sz = s ∧ i < els.length ∧ k < (els.getD i []).length ∧ h.one = true)) (.v undef) ⟨S.env, gL id (.hl nw ty s (els.set i ((els.getD i []).set k h))) S.st⟩ := nr (by cases h <;> rfl)
theorem qE0 (S : HS) (id sz i k n : Nat) (nw : Bool) (ty s : Nat) (els : List (List HV)) (hs : List HV) : qH S id sz i k nw ty s els (some (some n)) (.agg hs) = .go (cB (sz = s ∧ i < els.length ∧ hs.length = n ∧ k + n ≤ (els.getD i []).length)) (.v undef) ⟨S.env, gL id (.hl nw ty s (els.set i (splice (els.getD i []) k hs))) S.st⟩ := nr rfl
theorem qKc (S : HS) (xs : List (List FV)) (i k : Nat) : rE S xs i k (some none) = .go (cB (i < xs.length ∧ k < (xs.getD i []).length)) ((xs.getD i []).getD k default).h S := nr rfl
theorem qKd (S : HS) (xs : List (List FV)) (i k n : Nat) : rE S xs i k (some (some n)) = .go (cB (i < xs.length ∧ k + n ≤ (xs.getD i []).length)) (.agg ((((xs.getD i []).drop k).take n).map FV.h)) S := nr rfl
theorem qN8 (S : HS) (kt : Option (Option Nat)) (id sz i k : Nat) (h : HV) : wP S kt (some (.ptr id sz i k)) (some h) = mP S id sz i k kt h (rlk S.st id) := nr rfl
theorem qJ0 (S : HS) (id sz i k : Nat) (kt : Option (Option Nat)) (h : HV) (nw : Bool) (ty s : Nat) (els : List (List FV)) : mP S id sz i k kt h (some (.sl nw ty s els)) = qG S id sz i k nw ty s els kt h := nr rfl
theorem qJ2 (S : HS) (id sz i k : Nat) (kt : Option (Option Nat)) (h : HV) (nw : Bool) (ty : Nat) (cells : List HV) : mP S id sz i k kt h (some (.bx nw ty cells)) = qJ S id i k nw ty cells kt h := nr rfl
theorem qEx (S : HS) (id sz i k : Nat) (nw : Bool) (ty s : Nat) (els : List (List FV)) (h : HV) : qG S id sz i k nw ty s els (some none) h = match h.f with | some f => .go (cB (sz = s ∧ i < els.length ∧ k < (els.getD i []).length ∧ f.one = true)) (.v undef) ⟨S.env, gL id (.sl nw ty s (els.set i ((els.getD i []).set k f))) S.st⟩ | none => .bad := nr rfl
theorem qEy (S : HS) (id sz i k n : Nat) (nw : Bool) (ty s : Nat) (els : List (List FV)) (hs : List HV) : qG S id sz i k nw ty s els (some (some n)) (.agg hs) = match HV.fs hs with | some fs => .go (cB (sz = s ∧ i < els.length ∧ fs.length = n ∧ k + n ≤ (els.getD i []).length)) (.v undef) ⟨S.env, gL id (.sl nw ty s (els.set i (splice (els.getD i []) k fs))) S.st⟩ | none => .bad := nr rfl
theorem qE1 (S : HS) (id i k : Nat) (nw : Bool) (ty : Nat) (cells : List HV) (h : HV) : qJ S id i k nw ty cells (some none) h = .go (cB (i = 0 ∧ k < cells.length ∧ h.one = true)) (.v undef) ⟨S.env, gL id (.bx nw ty (cells.set k h)) S.st⟩ := nr (by cases h <;> rfl)
theorem qE2 (S : HS) (id i k n : Nat) (nw : Bool) (ty : Nat) (cells : List HV) (hs : List HV) : qJ S id i k nw ty cells (some (some n)) (.agg hs) = .go (cB (i = 0 ∧ hs.length = n ∧ k + n ≤ cells.length)) (.v undef) ⟨S.env, gL id (.bx nw ty (splice cells k hs)) S.st⟩ := nr rfl
theorem qPp (S : HS) (id : Nat) (t : TypeId) (z : Array Value) : wR S id t (some z) = .go (cB (oJ z = true)) (.ptr id z.size 0 0) ((S.kill (only id)).row id (.bx true t (z.toList.map .v))) := nr rfl
theorem qYz (S : HS) (id : Nat) (t : TypeId) (h : HV) : qUb S id t (some h) = qKy S id t (cY h) := nr rfl
theorem qUa (S : HS) (id : Nat) (t : TypeId) (cs : List HV) : qKy S id t (some cs) = .go True (.ptr id cs.length 0 0) ((S.kill (only id)).row id (.bx true t (cs.map (HV.kill (only id))))) := nr rfl
theorem qHd (l : bX) : jA l [] = some [] := nr rfl
theorem qEm (l : bX) (i : Nat) (x : Operand) (r : List (Nat × Operand)) : jA l ((i, x) :: r) = match hev l x with | some v => (match jA l r with | some vs => some ((i, v) :: vs) | none => none) | none => none := nr rfl
theorem qNx (lT : Nat → Option (Nat × Nat)) (cells : List HV) : qCm lT cells [] = some (True, cells) := nr rfl
theorem qJf (lT : Nat → Option (Nat × Nat)) (cells : List HV) (i : Nat) (h : HV) (r : List (Nat × HV)) : qCm lT cells ((i, h) :: r) = match lT i with | some (off, n) => (match cY h with | some cs => (match qCm lT (splice cells off cs) r with | some (c, out) => some (cB (cs.length = n ∧ off + n ≤ cells.length) ∧ c, out) | none => none) | none => none) | none => none := nr rfl
theorem qPo (S : HS) (ok : Bool) (lT : Nat → Option (Nat × Nat)) (z : Array Value) (ps : List (Nat × HV)) : uL S ok lT (some z) (some ps) = qV S (ok && oJ z) (qCm lT (z.toList.map .v) ps) := nr rfl
theorem qKx (S : HS) (ok : Bool) (c : Prop) (cs : List HV) : qV S ok (some (c, cs)) = .go (cB (ok = true) ∧ c) (.agg cs) S := nr rfl
theorem qTl (sz : Nat) (els : List (List FV)) : qQ4 sz els [] = some (True, els) := nr rfl
theorem qNs (sz : Nat) (els : List (List FV)) (i : Nat) (h : HV) (r : List (Nat × HV)) : qQ4 sz els ((i, h) :: r) = match cY h with | some cs => (match HV.fs cs with | some fs => (match qQ4 sz (els.set i fs) r with | some (c, out) => some (cB (fs.length = sz ∧ i < els.length) ∧ c, out) | none => none) | none => none) | none => none := nr rfl
theorem qKu (S : HS) (id n e sz by' : Nat) (z : Array Value) (ps : List (Nat × HV)) : qU S id n (some (e, sz, by', z)) (some ps) = match oJ z && z.size == sz with | true => lY S id e sz n z ps (qUz ps) | false => .bad := nr rfl
theorem qUy  : qUz [] = true := nr rfl
theorem qP4 (i : Nat) (h : HV) (r : List (Nat × HV)) : qUz ((i, h) :: r) = match cY h with | some cs => ((HV.fs cs).isSome && qUz r) | none => qUz r := nr rfl
theorem qNt (sz : Nat) (els : List (List HV)) : qCl sz els [] = some (True, els) := nr rfl
theorem qJe (sz : Nat) (els : List (List HV)) (i : Nat) (h : HV) (r : List (Nat × HV)) : qCl sz els ((i, h) :: r) = match cY h with | some cs => (match qCl sz (els.set i cs) r with | some (c, out) => some (cB (cs.length = sz ∧ i < els.length) ∧ c, out) | none => none) | none => none := nr rfl
theorem zDq (id : Nat) (els : List (List HV)) : hkl id els = els.map (List.map (HV.kill (only id))) := nr rfl
theorem qKv (S : HS) (id e sz n : Nat) (z : Array Value) (ps : List (Nat × HV)) : lY S id e sz n z ps true = pJ S id e sz n (qQ4 sz (List.replicate n (z.toList.map .v)) ps) := nr rfl
theorem qKw (S : HS) (id e sz n : Nat) (z : Array Value) (ps : List (Nat × HV)) : lY S id e sz n z ps false = pH S id e sz n (qCl sz (List.replicate n (z.toList.map .v)) ps) := nr rfl
theorem qE9 (S : HS) (id e sz n : Nat) (c : Prop) (els : List (List HV)) : pH S id e sz n (some (c, els)) = .go (cB (n * sz ≤ 16777216 ∧ n ≤ 16777216) ∧ c) (.own id) ((S.kill (only id)).row id (.hl true e sz (hkl id els))) := nr rfl
theorem qFa (S : HS) (id e sz n : Nat) (c : Prop) (els : List (List FV)) : pJ S id e sz n (some (c, els)) = .go (cB (n * sz ≤ 16777216 ∧ n ≤ 16777216) ∧ c) (.own id) ((S.kill (only id)).row id (.sl true e sz els)) := nr rfl
theorem qT2 (S : HS) (id e sz by' : Nat) (z : Array Value) (n m : Int) : qE3 S id (some (e, sz, by', z)) (some (.v (.int .i64 n))) (some (.v (.int .i64 m))) = match oJ z && z.size == sz with | true => .go (cB (n = m ∧ 0 ≤ n ∧ by' * n.toNat ≤ 281474976710656 ∧ n.toNat ≤ maxLen)) (.own id) ((S.kill (only id)).row id (.sl true e sz (List.replicate n.toNat (z.toList.map .v)))) | false => .bad := nr rfl
theorem qHj (st : aN) (sz id : Nat) : jC st sz (.own id) = match rlk st id with | some (.sl _ _ s els) => some (cB (s = sz), els) | _ => none := nr rfl
theorem qHl (st : aN) (sz : Nat) (fr : Bool) (xs : List (List FV)) : jC st sz (.lst fr xs) = some (Wid sz xs, xs) := nr rfl
theorem qHk (st : aN) (sz : Nat) : jC st sz (.v (.slice none 0 0)) = some (True, []) := nr rfl
theorem qJo (P : Program) (S : HS) (id : Nat) (t : Nat) (args : Array Operand) (ats : Array TypeId) : iH P S id (.call ⟨.value (.tmp t), args, ats⟩) = qA2 (fnH (hlk S.env t)) (lX S.env args.toList) := nr rfl
theorem zHm (f : FuncId) : fnH (some (.v (.func (.func f) #[] #[]))) = some f := nr rfl
theorem qE7 (f : FuncId) (a : Option (List HV)) : qA2 (some f) a = qE8 f a := nr rfl
theorem qN4 (P : Program) (S : HS) (id : Nat) (args : Array Operand) (ats : Array TypeId) : iH P S id (.call ⟨.builtin .copy, args, ats⟩) = qAo S (ats == #[eX ats, eX ats]) (cK P (eX ats)) (lX S.env args.toList) := nr rfl
theorem qPh (S : HS) (us : Option (Nat × Nat)) (id : Nat) (x : HV) : qAo S true us (some [.own id, x]) = pF S id 0 none none x us (rlk S.st id) := nr rfl
theorem qT8 (S : HS) (us : Option (Nat × Nat)) (id s off n : Nat) (x : HV) : qAo S true us (some [.vw id s off n, x]) = pF S id off (some s) (some n) x us (rlk S.st id) := nr rfl
theorem qKt (S : HS) (id off : Nat) (x : HV) (e sz : Nat) (nw : Bool) (ty s : Nat) (els : List (List FV)) : pF S id off none none x (some (e, sz)) (some (.sl nw ty s els)) = match decide (sz = s) with | true => wQ S id s off els.length (s = s) nw ty els (jC S.st s x) | false => .bad := nr rfl
theorem qPi (S : HS) (id off s0 n : Nat) (x : HV) (e sz : Nat) (nw : Bool) (ty s : Nat) (els : List (List FV)) : pF S id off (some s0) (some n) x (some (e, sz)) (some (.sl nw ty s els)) = match decide (sz = s) with | true => wQ S id s off n (s0 = s) nw ty els (jC S.st s x) | false => .bad := nr rfl
def cpy (els : List (List FV)) (off : Nat) (news : List (List FV)) (n : Nat) : List (List FV) := splice els off (news.take n)
def cpn (news : List (List FV)) (n : Nat) : Nat := min news.length n
theorem qE6 (S : HS) (id sz off n : Nat) (ok : Prop) (nw : Bool) (ty : Nat) (els : List (List FV)) (c : Prop) (news : List (List FV)) : wQ S id sz off n ok nw ty els (some (c, news)) = .go (c ∧ cB (off + n ≤ els.length ∧ 0 < sz ∧ ok)) (.v (.int .i64 (cpn news n : Nat))) ⟨S.env, gL id (.sl nw ty sz (cpy els off news n)) S.st⟩ := nr rfl
theorem qFb (S : HS) (nid : Nat) (same str : Bool) (e sz by' : Nat) (z : Array Value) (id : Nat) (x : HV) : mT S nid same str (some (e, sz, by', z)) (some [.own id, x]) = match (same || str) && z.size == sz with | true => qFd S id e sz by' same x (qSm same str S.st sz x) (rlk S.st id) | false => .bad := nr rfl
theorem qMz (st : aN) (sz id : Nat) : qHm st sz (.own id) = match rlk st id with | some (.sl _ _ s els) => some (cB (s = sz), els.map (List.map FV.h)) | some (.hl _ _ s els) => some (cB (s = sz), els) | _ => none := nr rfl
theorem qM1 (st : aN) (sz : Nat) (fr : Bool) (xs : List (List FV)) : qHm st sz (.lst fr xs) = some (Wid sz xs, xs.map (List.map FV.h)) := nr rfl
theorem qM0 (st : aN) (sz : Nat) : qHm st sz (.v (.slice none 0 0)) = some (True, []) := nr rfl
theorem qZh (a b c d : Nat) : (#[a, b] == #[c, d]) = (a == c && b == d) := by rw [Bool.eq_iff_iff]; simp
theorem qXv (str : Bool) (st : aN) (sz : Nat) (x : HV) : qSm true str st sz x = jC st sz x := nr rfl
theorem qXw (st : aN) (sz : Nat) (x : HV) : qSm false true st sz x = qXu x := nr rfl
theorem qMx (s : ByteArray) : qXu (.v (.string s)) = some (True, jS s) := nr rfl
theorem qFc (S : HS) (nid : Nat) (same str : Bool) (e sz by' : Nat) (z : Array Value) (x : HV) : mT S nid same str (some (e, sz, by', z)) (some [.v (.slice none 0 0), x]) = match same && z.size == sz with | true => qAp S nid e sz by' true [] (jC S.st sz x) | false => .bad := nr rfl
theorem qUc (S : HS) (id e sz by' : Nat) (same : Bool) (x : HV) (news : Option (Prop × List (List FV))) (nw : Bool) (ty s : Nat) (els : List (List HV)) : qFd S id e sz by' same x news (some (.hl nw ty s els)) = match same && (decide (ty = e) && decide (s = sz)) with | true => qKz S id e sz by' nw els (qHm S.st sz x) | false => .bad := nr rfl
theorem qUf (S : HS) (id e sz by' : Nat) (nw : Bool) (els news : List (List HV)) (c : Prop) : qKz S id e sz by' nw els (some (c, news)) = .go (c ∧ cB ((els.length + news.length) * by' ≤ 140737488355328 ∧ 0 < by' ∧ 0 < sz)) (.own id) ((S.kill (only id)).row id (.hl nw e sz (hkl id (els ++ news)))) := nr rfl
theorem qUd (S : HS) (id e sz by' : Nat) (same : Bool) (x : HV) (news : Option (Prop × List (List FV))) (nw : Bool) (ty s : Nat) (els : List (List FV)) : qFd S id e sz by' same x news (some (.sl nw ty s els)) = match decide (ty = e) && decide (s = sz) with | true => qAp S id e sz by' nw els news | false => .bad := nr rfl
theorem qUe (S : HS) (id e sz by' : Nat) (nw : Bool) (els : List (List FV)) (c : Prop) (news : List (List FV)) : qAp S id e sz by' nw els (some (c, news)) = .go (c ∧ cB ((els.length + news.length) * by' ≤ 140737488355328 ∧ 0 < by' ∧ 0 < sz)) (.own id) ((S.kill (only id)).row id (.sl nw e sz (els ++ news))) := nr rfl
theorem qM8  : sF [] = some [] := nr rfl
theorem qHv (x : Value) (r : List HV) : sF (.v x :: r) = match sF r with | some vs => some (x :: vs) | none => none := nr rfl
theorem zDy (S : HS) (up : Bool) (t : TypeId) (neg : Bool) (xs ys : List HV) : hEq S up t neg (some (.agg xs)) (some (.agg ys)) = qQ5 t neg (sF xs) (sF ys) := nr rfl
theorem qYw (S : HS) (up : Bool) (t : TypeId) (neg : Bool) (a b c d : Nat) : hEq S up t neg (some (.ptr a b c d)) (some (.v (.pointer none))) = .go (cB (up = true)) (.v (.bool neg)) S := nr rfl
theorem qYx (S : HS) (up : Bool) (t : TypeId) (neg fr : Bool) (xs : List (List FV)) (a b c : Nat) : hEq S up t neg (some (.elt fr xs a b c)) (some (.v (.pointer none))) = .go (cB (up = true)) (.v (.bool neg)) S := nr rfl
theorem qPj (S : HS) (ok okB : Bool) (s : ByteArray) : qT S ok okB (some (.v (.string s))) = .bytes okB s := nr rfl
theorem qPk (S : HS) (ok okB : Bool) (id : Nat) : qT S ok okB (some (.own id)) = qA1 S ok (rlk S.st id) := nr rfl
theorem qPl (S : HS) (ok okB fr : Bool) (xs : List (List FV)) : qT S ok okB (some (.lst fr xs)) = pG S ok (pR xs) := nr rfl
theorem qPm (S : HS) (ok nw : Bool) (t s : Nat) (els : List (List FV)) : qA1 S ok (some (.sl nw t s els)) = pG S ok (pR els) := nr rfl
theorem qPn (S : HS) (ok : Bool) (ns : List Int) : pG S ok (some ns) = .go (cB (ok = true)) (.v (.string (strOfNums ns))) S := nr rfl
theorem qLh  : pR [] = some [] := nr rfl
theorem qFf (n : Int) (r : List (List FV)) : pR ([.v (.int .u8 n)] :: r) = match pR r with | some ns => some (n :: ns) | none => none := nr rfl
theorem qYy (t : TypeId) (neg : Bool) (xs ys : List Value) : qQ5 t neg (some xs) (some ys) = .eqn t xs ys neg := nr rfl
theorem qT9 (f : FuncId) (hs : List HV) : qE8 f (some hs) = .call f hs := nr rfl
theorem qZg (ats : Array TypeId) : eX ats = ats.getD 0 0 := nr rfl
theorem qMu (z : Array Value) : oJ z = z.toList.all (fun v => v.oneCell') := nr rfl
theorem zK4 (x : Value) : (HV.v x).f = some (.v x) := nr rfl
theorem zDv (i : Nat) : (HV.own i).f = none := nr rfl
theorem zHl (i s o n : Nat) : (HV.vw i s o n).f = none := nr rfl
theorem zDu (i s j k : Nat) : (HV.ptr i s j k).f = none := nr rfl
theorem zDw (fr : Bool) (xs : List (List FV)) : (HV.lst fr xs).f = some (.lst fr xs) := nr rfl
theorem qYq  : HV.fs [] = some [] := nr rfl
theorem qTp (h : HV) (r : List HV) : HV.fs (h :: r) = match h.f, HV.fs r with | some f, some fs => some (f :: fs) | _, _ => none := nr rfl
theorem zD4 (x : Value) : (FV.v x).one = x.oneCell' := nr rfl
theorem qUg (fr : Bool) (xs : List (List FV)) : (FV.lst fr xs).one = true := nr rfl
theorem zDo (x : Value) : (HV.v x).one = x.oneCell' := nr rfl
theorem qTh (fr : Bool) (xs : List (List FV)) : (HV.lst fr xs).one = true := nr rfl
theorem qTf (i : Nat) : (HV.own i).one = true := nr rfl
theorem qTe (i s j k : Nat) : (HV.ptr i s j k).one = true := nr rfl
theorem zK9 (x : Value) : (FV.v x).h = .v x := nr rfl
theorem zE0 (fr : Bool) (xs : List (List FV)) : (FV.lst fr xs).h = .lst fr xs := nr rfl
theorem qXr (k : IntKind) (n : Int) : Value.oneCell' (.int k n) = true := nr rfl
theorem qJv (k : IntKind) (n : Int) : cY (.v (.int k n)) = some [.v (.int k n)] := nr rfl
theorem qSj (b : Bool) : Value.oneCell' (.bool b) = true := nr rfl
theorem qEw (b : Bool) : cY (.v (.bool b)) = some [.v (.bool b)] := nr rfl
theorem qXp (s : ByteArray) : Value.oneCell' (.string s) = true := nr rfl
theorem qJt (s : ByteArray) : cY (.v (.string s)) = some [.v (.string s)] := nr rfl
theorem qMt (a : Option Addr) (n c : Nat) : Value.oneCell' (.slice a n c) = true := nr rfl
theorem qCp (a : Option Addr) (n c : Nat) : cY (.v (.slice a n c)) = some [.v (.slice a n c)] := nr rfl
theorem qXq (a : Option Addr) : Value.oneCell' (.pointer a) = true := nr rfl
theorem qJu (a : Option Addr) : cY (.v (.pointer a)) = some [.v (.pointer a)] := nr rfl
theorem qJz (cs : List HV) : cY (.agg cs) = some cs := nr rfl
theorem qJy (fr : Bool) (xs : List (List FV)) : cY (.lst fr xs) = some [.lst fr xs] := nr rfl
theorem qJx (i : Nat) : cY (.own i) = some [.own i] := nr rfl
theorem qJw (i s j k : Nat) : cY (.ptr i s j k) = some [.ptr i s j k] := nr rfl
theorem qL4 {α : Type} (l : List α) (k : Nat) (cs : List α) : splice l k cs = l.take k ++ cs ++ l.drop (k + cs.length) := nr rfl
theorem xZ (e : bX) (s : aN) (p : Nat → Bool) : HS.kill ⟨e, s⟩ p = ⟨lZ p e, dD p s⟩ := nr rfl
theorem qDb (e : bX) (s : aN) (id : Nat) (r : Row) : HS.row ⟨e, s⟩ id r = ⟨e, (id, r) :: s⟩ := nr rfl
theorem qRx (e : bX) (s : aN) (k : Nat) (h : HV) : HS.set ⟨e, s⟩ (some k) h = ⟨(k, h) :: e, s⟩ := nr rfl
theorem qRy (S : HS) (h : HV) : HS.set S none h = S := nr rfl
theorem qDd (e : bX) (s : aN) (d : Nat) (h : HV) : HS.rep ⟨e, s⟩ d h = ⟨wH d h e, s⟩ := nr rfl
theorem tA (d : Nat) (h : HV) : wH d h [] = [] := nr rfl
theorem nE (d : Nat) (h : HV) (k : Nat) (x : HV) (r : bX) : wH d h ((k, x) :: r) = if k = d then (k, h) :: r else (k, x) :: wH d h r := nr rfl
theorem fY (p : Nat → Bool) : lZ p [] = [] := nr rfl
theorem eV (p : Nat → Bool) (k : Nat) (h : HV) (r : bX) : lZ p ((k, h) :: r) = (k, h.kill p) :: lZ p r := nr rfl
theorem fP (p : Nat → Bool) : dD p [] = [] := nr rfl
theorem eN (p : Nat → Bool) (k : Nat) (h : Row) (r : aN) : dD p ((k, h) :: r) = bif p k then dD p r else (k, h.kill p) :: dD p r := nr rfl
theorem iM (p : Nat → Bool) (nw : Bool) (t s : Nat) (xs : List (List FV)) : (Row.sl nw t s xs).kill p = .sl nw t s xs := nr rfl
theorem iN (p : Nat → Bool) (nw : Bool) (t s : Nat) (xs : List (List HV)) : (Row.hl nw t s xs).kill p = .hl nw t s (xs.map (List.map (HV.kill p))) := nr rfl
theorem iP (p : Nat → Bool) (nw : Bool) (t : Nat) (cs : List HV) : (Row.bx nw t cs).kill p = .bx nw t (cs.map (HV.kill p)) := nr rfl
theorem lC (p : Nat → Bool) (x : Value) : HV.kill p (.v x) = .v x := by rw [HV.kill]
theorem qH3 (m : Nat → Option Nat) (x : Value) : HV.ren m (.v x) = .v x := by rw [HV.ren]
theorem qDp (id : Nat) (x0 : HV) (x : Value) : HV.sub id x0 (.v x) = .v x := by rw [HV.sub]
theorem fW (p : Nat → Bool) (fr : Bool) (xs : List (List FV)) : HV.kill p (.lst fr xs) = .lst fr xs := by rw [HV.kill]
theorem wL (m : Nat → Option Nat) (fr : Bool) (xs : List (List FV)) : HV.ren m (.lst fr xs) = .lst fr xs := by rw [HV.ren]
theorem sX (id : Nat) (x0 : HV) (fr : Bool) (xs : List (List FV)) : HV.sub id x0 (.lst fr xs) = .lst fr xs := by rw [HV.sub]
theorem iA (p : Nat → Bool) (fr : Bool) (xs : List (List FV)) (s j k : Nat) : HV.kill p (.elt fr xs s j k) = .elt fr xs s j k := by rw [HV.kill]
theorem qTb (m : Nat → Option Nat) (fr : Bool) (xs : List (List FV)) (s j k : Nat) : HV.ren m (.elt fr xs s j k) = .elt fr xs s j k := by rw [HV.ren]
theorem sY (id : Nat) (x0 : HV) (fr : Bool) (xs : List (List FV)) (s j k : Nat) : HV.sub id x0 (.elt fr xs s j k) = .elt fr xs s j k := by rw [HV.sub]
theorem eU (p : Nat → Bool) : HV.kill p .junk = .junk := by rw [HV.kill]
theorem yU (m : Nat → Option Nat) : HV.ren m .junk = .junk := by rw [HV.ren]
theorem nD (id : Nat) (x0 : HV) : HV.sub id x0 .junk = .junk := by rw [HV.sub]
theorem fV (p : Nat → Bool) (i : Nat) : HV.kill p (.own i) = bif p i then .junk else .own i := by rw [HV.kill]
theorem fU (p : Nat → Bool) (i s j k : Nat) : HV.kill p (.ptr i s j k) = bif p i then .junk else .ptr i s j k := by rw [HV.kill]
theorem fX (p : Nat → Bool) (cs : List HV) : HV.kill p (.agg cs) = .agg (cs.map (HV.kill p)) := by rw [HV.kill]
theorem fT (p : Nat → Bool) (cs : List HV) : HV.kill p (.tup cs) = .tup (cs.map (HV.kill p)) := by rw [HV.kill]
theorem wK (m : Nat → Option Nat) (i : Nat) : HV.ren m (.own i) = match m i with | some j => .own j | none => .junk := by rw [HV.ren]; cases m i <;> rfl
theorem qCj (m : Nat → Option Nat) (i s j k : Nat) : HV.ren m (.ptr i s j k) = match m i with | some i' => .ptr i' s j k | none => .junk := by rw [HV.ren]; cases m i <;> rfl
theorem wM (m : Nat → Option Nat) (cs : List HV) : HV.ren m (.agg cs) = .agg (cs.map (HV.ren m)) := by rw [HV.ren]
theorem wJ (m : Nat → Option Nat) (cs : List HV) : HV.ren m (.tup cs) = .tup (cs.map (HV.ren m)) := by rw [HV.ren]
theorem sW (id : Nat) (x0 : HV) (i : Nat) : HV.sub id x0 (.own i) = if i = id then x0 else .own i := by rw [HV.sub]
theorem sU (id : Nat) (x0 : HV) (i s j k : Nat) : HV.sub id x0 (.ptr i s j k) = if i = id then .junk else .ptr i s j k := by rw [HV.sub]
theorem sZ (id : Nat) (x0 : HV) (cs : List HV) : HV.sub id x0 (.agg cs) = .agg (cs.map (HV.sub id x0)) := by rw [HV.sub]
theorem sT (id : Nat) (x0 : HV) (cs : List HV) : HV.sub id x0 (.tup cs) = .tup (cs.map (HV.sub id x0)) := by rw [HV.sub]
theorem qBq (m : Nat → Option Nat) (nw : Bool) (t s : Nat) (xs : List (List FV)) : (Row.sl nw t s xs).ren m = .sl nw t s xs := nr rfl
theorem qBr (m : Nat → Option Nat) (nw : Bool) (t s : Nat) (xs : List (List HV)) : (Row.hl nw t s xs).ren m = .hl nw t s (xs.map (List.map (HV.ren m))) := nr rfl
theorem qBs (m : Nat → Option Nat) (nw : Bool) (t : Nat) (cs : List HV) : (Row.bx nw t cs).ren m = .bx nw t (cs.map (HV.ren m)) := nr rfl
theorem xN (id : Nat) (x0 : HV) (nw : Bool) (t s : Nat) (xs : List (List FV)) : (Row.sl nw t s xs).sub id x0 = .sl nw t s xs := nr rfl
theorem xP (id : Nat) (x0 : HV) (nw : Bool) (t s : Nat) (xs : List (List HV)) : (Row.hl nw t s xs).sub id x0 = .hl nw t s (xs.map (List.map (HV.sub id x0))) := nr rfl
theorem xQ (id : Nat) (x0 : HV) (nw : Bool) (t : Nat) (cs : List HV) : (Row.bx nw t cs).sub id x0 = .bx nw t (cs.map (HV.sub id x0)) := nr rfl
theorem lA (id i : Nat) : only id i = (i == id) := nr rfl
theorem qUq (n i : Nat) : cV n i = (decide (n ≤ i) && decide (i < n + 8)) := by rw [Bool.eq_iff_iff]; simp [cV]
theorem zHd (n i : Nat) : sh n i = bif decide (i < 8) then some (n + i) else none := by unfold sh; congr 1; rw [Bool.eq_iff_iff]; simp
theorem qZi (e : bX) (s : aN) (n : Nat) (st : aN) : HS.adds ⟨e, s⟩ n st = ⟨lZ (cV n) e, qBx n st (dD (cV n) s)⟩ := nr rfl
theorem qMh (n : Nat) (b : aN) : qBx n [] b = b := nr rfl
theorem qGy (n k : Nat) (r : Row) (t b : aN) : qBx n ((k, r) :: t) b = (n + k, r.ren (sh n)) :: qBx n t b := nr rfl
theorem xS (e : bX) (s : aN) (id : Nat) (x : HV) : HS.rest ⟨e, s⟩ id x = ⟨qUn id x e, qGb id x s⟩ := nr rfl
theorem tF (id : Nat) (x : HV) : qUn id x [] = [] := nr rfl
theorem nF (id : Nat) (x : HV) (k : Nat) (h : HV) (r : bX) : qUn id x ((k, h) :: r) = (k, HV.sub id x h) :: qUn id x r := nr rfl
theorem rL (id : Nat) (x : HV) : qGb id x [] = [] := nr rfl
theorem mZ (id : Nat) (x : HV) (k : Nat) (h : Row) (r : aN) : qGb id x ((k, h) :: r) = if k = id then qGb id x r else (k, h.sub id x) :: qGb id x r := nr rfl
theorem qRn (id : Nat) (r : Row) : gL id r [] = [] := nr rfl
theorem qL2 (id : Nat) (r : Row) (k : Nat) (s : Row) (t : aN) : gL id r ((k, s) :: t) = if k = id then (k, r) :: t else (k, s) :: gL id r t := nr rfl
theorem qYv (l : bX) (ds : List (Option Nat)) : hG l ds none = .yes := nr rfl
theorem qYu (l : bX) (ds : List (Option Nat)) (j : Nat) (want : Bool) : hG l ds (some (j, want)) = match ds[j]? with | some (some d) => hGv d want (hlk l d) | _ => .bad := nr rfl
theorem qT7 (d : Nat) (want b : Bool) : hGv d want (some (.v (.bool b))) = .ask d b want := nr rfl
theorem qYt (d : Nat) (want : Bool) (vs : Array Value) : hGv d want (some (.v (.tuple vs))) = .no := nr rfl
theorem zDr (P : Program) (d : Option Nat) (S : HS) (K : HS → Prop) (c : Prop) (h : HV) (S' : HS) : qD0 P d S K (.go c h S') = (c ∧ K (S'.set d h)) := nr rfl
theorem qTo (P : Program) (d : Option Nat) (S : HS) (K : HS → Prop) (f : FuncId) (args : List HV) : qD0 P d S K (.call f args) = HAt P f args S (fun h S' => mJ K (S'.set d h)) := nr rfl
theorem qYo (P : Program) (d : Option Nat) (S : HS) (K : HS → Prop) (t : TypeId) (x y : List Value) (neg : Bool) : qD0 P d S K (.eqn t x y neg) = ∃ r, EqR P t x.toArray y.toArray r ∧ mJ K (S.set d (.v (.bool (neg ^^ r)))) := nr rfl
theorem qNw (P : Program) (d : Option Nat) (S : HS) (K : HS → Prop) (ok : Bool) (s : ByteArray) : qD0 P d S K (.bytes ok s) = (cB (ok = true ∧ s.size ≤ 9223372036854775807) ∧ K (S.set d (.lst true (jS s)))) := nr rfl
theorem zDs (P : Program) (N : Nat) (o : Oper) (S : HS) (K : HS → Prop) : HGo P N o S K = zG6 P N o (kF S o.op) K := nr rfl
theorem qYp (P : Program) (N : Nat) (o : Oper) (S : HS) (K : HS → Prop) : zG6 P N o S K = match dP N o.dst with | true => qD0 P o.dst S K (hop P S (qCi o.dst) o.op) | false => False := nr rfl
theorem qNn (S : HS) (x : Operand) : kF S (.move x) = S := nr rfl
theorem qEt (S : HS) (x : Operand) : kF S (.assign x) = S := nr rfl
theorem qNl (S : HS) (c a b : Operand) : kF S (.pick c a b) = S := nr rfl
theorem qCk (S : HS) (x : Operand) (i : Nat) : kF S (.extract x i) = S := nr rfl
theorem qH8 (S : HS) (t : TypeId) (x : Operand) (f : Nat) : kF S (.field t x f) = S := nr rfl
theorem qH9 (S : HS) (t : TypeId) (x : Operand) (f : Nat) : kF S (.fieldAddr t x f) = S := nr rfl
theorem qNm (S : HS) (x : Operand) : kF S (.nilCheck x) = S := nr rfl
theorem qH7 (S : HS) (t : TypeId) (x i : Operand) : kF S (.indexAddr t x i) = S := nr rfl
theorem qH5 (S : HS) (t : TypeId) (x : Operand) (l h m : Option Operand) : kF S (.slice t x l h m) = S := nr rfl
theorem qNp (S : HS) (t : TypeId) (x : Operand) : kF S (.load t x) = S := nr rfl
theorem qJa (S : HS) (t : TypeId) (ps : Array (Nat × Operand)) : kF S (.build t ps) = S := nr rfl
theorem qTd (S : HS) (b : BinOp) (t : TypeId) (x y : Operand) (u : TypeId) : kF S (.binOp b t x y u) = S := nr rfl
theorem qYf (S : HS) (u : UnOp) (t : TypeId) (x : Operand) : kF S (.unOp u t x) = S := nr rfl
theorem qNq (S : HS) (s d : TypeId) (x : Operand) : kF S (.convert s d x) = S := nr rfl
theorem qH6 (S : HS) (t : TypeId) (x i : Operand) : kF S (.index t x i) = S := nr rfl
theorem qNr (S : HS) (c : Call) : kF S (.call c) = S := nr rfl
theorem qJb (S : HS) (t : TypeId) : kF S (.alloc t) = S := nr rfl
theorem qTc (S : HS) (t : TypeId) (x : Operand) : kF S (.box t x) = S := nr rfl
theorem qNo (S : HS) (t : TypeId) (x y : Operand) : kF S (.makeSlice t x y) = S := nr rfl
theorem qH4 (S : HS) (t : TypeId) (x y : Operand) : kF S (.store t x y) = restAll S (zCt S (hev S.env x) (hev S.env y)) := nr rfl
theorem qEs (S : HS) (t n : TypeId) (ps : Array (Nat × Operand)) : kF S (.buildSlice t n ps) = restAll S (zCu (jA S.env ps.toList)) := nr rfl
theorem qSc (S : HS) (id sz i k : Nat) (h : HV) : zCt S (some (.ptr id sz i k)) (some h) = qSg S h (rlk S.st id) := nr rfl
theorem qSd (S : HS) (h : HV) (nw : Bool) (ty s : Nat) (els : List (List FV)) : qSg S h (some (.sl nw ty s els)) = uF h := nr rfl
theorem qSf (S : HS) (h : HV) (nw : Bool) (ty : Nat) (cs : List HV) : qSg S h (some (.bx nw ty cs)) = [] := nr rfl
theorem qSh (ps : List (Nat × HV)) : zCu (some ps) = ps.flatMap fun p => uF p.2 := nr rfl
theorem qHe (i : Nat) : uF (.own i) = [i] := nr rfl
theorem qSi (x : Value) : uF (.v x) = [] := nr rfl
theorem qHf (fr : Bool) (xs : List (List FV)) : uF (.lst fr xs) = [] := nr rfl
theorem qHg (cs : List HV) : uF (.agg cs) = cs.flatMap xW := nr rfl
theorem qEn (i : Nat) : xW (.own i) = [i] := nr rfl
theorem qMs (x : Value) : xW (.v x) = [] := nr rfl
theorem qEo (fr : Bool) (xs : List (List FV)) : xW (.lst fr xs) = [] := nr rfl
theorem qEd (S : HS) : restAll S [] = S := nr rfl
theorem qBv (S : HS) (i : Nat) (r : List Nat) : restAll S (i :: r) = restAll (qBu S i) r := nr rfl
theorem qGx (e : bX) (s : aN) (i : Nat) : qBu ⟨e, s⟩ i = match decide (i < 1000000) with | true => (match rlk s i with | some (.sl nw _ _ els) => HS.rest ⟨e, s⟩ i (.lst nw els) | _ => ⟨e, s⟩) | false => ⟨e, s⟩ := by unfold qBu; rw [show Nat.blt i held = decide (i < 1000000) by rw [Bool.eq_iff_iff]; simp [Nat.blt_eq, held]]; rfl
theorem qSe (S : HS) (h : HV) (nw : Bool) (ty s : Nat) (els : List (List HV)) : qSg S h (some (.hl nw ty s els)) = [] := nr rfl
theorem qS8 (N : Nat) (d : Option Nat) (S : HS) (K : HS → Prop) : kE N d S K = match dP N d with | true => K (S.set d (.v undef)) | false => False := nr rfl
theorem qNj (P : Program) (N : Nat) (o : Oper) (S : HS) (K : HS → Prop) : qP7 P N o S K .yes = HGo P N o S K := nr rfl
theorem qS7 (P : Program) (N : Nat) (o : Oper) (S : HS) (K : HS → Prop) : qP7 P N o S K .no = kE N o.dst S K := nr rfl
theorem qNk (P : Program) (N : Nat) (o : Oper) (S : HS) (K : HS → Prop) (d : Nat) (b want : Bool) : qP7 P N o S K (.ask d b want) = match b == want with | true => HGo P N o (S.rep d (.v (.bool want))) K | false => kE N o.dst (S.rep d (.v (.bool (!want)))) K := nr rfl
theorem qYe (P : Program) (N : Nat) (ds : List (Option Nat)) (K : HS → Prop) (S : HS) : HV2 P N ds K [] S = K S := nr rfl
theorem qS6 (P : Program) (N : Nat) (ds : List (Option Nat)) (K : HS → Prop) (o : Oper) (rest : List Oper) (S : HS) : HV2 P N ds K (o :: rest) S = qP7 P N o S (HV2 P N ds K rest) (hG S.env ds o.guard) := nr rfl
theorem qYm (P : Program) (o : Oper) (S : HS) (K : HS → Prop) (c : Prop) (h : HV) (S' : HS) : qC4 P o S K (.go c h S') = (dG o.op = true ∧ c ∧ K (S.set o.dst h)) := nr rfl
theorem qNv (P : Program) (o : Oper) (S : HS) (K : HS → Prop) (f : FuncId) (args : List HV) : qC4 P o S K (.call f args) = zLy P f args S (fun x => mJ K (S.set o.dst (.v x))) := nr rfl
theorem qTn (P : Program) (o : Oper) (S : HS) (K : HS → Prop) (t : TypeId) (x y : List Value) (neg : Bool) : qC4 P o S K (.eqn t x y neg) = ∃ r, EqR P t x.toArray y.toArray r ∧ mJ K (S.set o.dst (.v (.bool (neg ^^ r)))) := nr rfl
theorem qYn (P : Program) (N : Nat) (o : Oper) (S : HS) (K : HS → Prop) : qU8 P N o S K = match dP N o.dst with | true => qC4 P o S K (hop P S (qCi o.dst) o.op) | false => False := nr rfl
theorem qH0 (P : Program) (N : Nat) (o : Oper) (S : HS) (K : HS → Prop) : qDz P N o S K .yes = qU8 P N o S K := nr rfl
theorem qNi (P : Program) (N : Nat) (o : Oper) (S : HS) (K : HS → Prop) : qDz P N o S K .no = kE N o.dst S K := nr rfl
theorem qH1 (P : Program) (N : Nat) (o : Oper) (S : HS) (K : HS → Prop) (d : Nat) (b want : Bool) : qDz P N o S K (.ask d b want) = match b == want with | true => qU8 P N o (S.rep d (.v (.bool want))) K | false => kE N o.dst (S.rep d (.v (.bool (!want)))) K := nr rfl
theorem qYd (P : Program) (N : Nat) (ds : List (Option Nat)) (K : HS → Prop) (S : HS) : HVq P N ds K [] S = K S := nr rfl
theorem qS5 (P : Program) (N : Nat) (ds : List (Option Nat)) (K : HS → Prop) (o : Oper) (rest : List Oper) (S : HS) : HVq P N ds K (o :: rest) S = qDz P N o S (HVq P N ds K rest) (hG S.env ds o.guard) := nr rfl
theorem qL9 (t : Nat) : cF (.tmp t) = [t] := nr rfl
theorem qEb (v : Value) : cF (.const v) = [] := nr rfl
theorem qBp (g : Nat) : cF (.global g) = [] := nr rfl
theorem qGn (f : FuncId) : cF (.func f) = [] := nr rfl
theorem qGk  : tY [] = [] := nr rfl
theorem qEa (x : Operand) (r : List Operand) : tY (x :: r) = cF x ++ tY r := nr rfl
theorem qGi  : nV [] = [] := nr rfl
theorem qD7 (k : Nat) (x : Operand) (r : List (Nat × Operand)) : nV ((k, x) :: r) = cF x ++ nV r := nr rfl
theorem qGo (x : Operand) : qEc (some x) = cF x := nr rfl
theorem qGp  : qEc none = [] := nr rfl
theorem qBk (x : Operand) : cN (.move x) = cF x := nr rfl
theorem vG (x : Operand) : cN (.assign x) = cF x := nr rfl
theorem qBj (x : Operand) : cN (.nilCheck x) = cF x := nr rfl
theorem qBi (c a b : Operand) : cN (.pick c a b) = cF c ++ (cF a ++ cF b) := nr rfl
theorem uU (x : Operand) (i : Nat) : cN (.extract x i) = cF x := nr rfl
theorem qAj (t : TypeId) (x : Operand) (f : Nat) : cN (.field t x f) = cF x := nr rfl
theorem qAk (t : TypeId) (x : Operand) (f : Nat) : cN (.fieldAddr t x f) = cF x := nr rfl
theorem qBl (t : TypeId) (x : Operand) : cN (.load t x) = cF x := nr rfl
theorem qGj (u : UnOp) (t : TypeId) (x : Operand) : cN (.unOp u t x) = cF x := nr rfl
theorem qBm (s d : TypeId) (x : Operand) : cN (.convert s d x) = cF x := nr rfl
theorem qAi (t : TypeId) (x i : Operand) : cN (.indexAddr t x i) = cF x ++ cF i := nr rfl
theorem qAh (t : TypeId) (x i : Operand) : cN (.index t x i) = cF x ++ cF i := nr rfl
theorem qAf (t : TypeId) (x : Operand) (l h : Option Operand) : cN (.slice t x l h none) = cF x ++ (qEc l ++ qEc h) := nr rfl
theorem qD9 (b : BinOp) (t : TypeId) (x y : Operand) (u : TypeId) : cN (.binOp b t x y u) = cF x ++ cF y := nr rfl
theorem qAl (t : TypeId) (ps : Array (Nat × Operand)) : cN (.build t ps) = nV ps.toList := nr rfl
theorem vF (t : TypeId) (n : Nat) (ps : Array (Nat × Operand)) : cN (.buildSlice t n ps) = nV ps.toList := nr rfl
theorem qAg (t : TypeId) (x y : Operand) : cN (.makeSlice t x y) = cF x ++ cF y := nr rfl
theorem qBn (k : Callee) (args : Array Operand) (ats : Array TypeId) : cN (.call ⟨k, args, ats⟩) = qGm k ++ tY args.toList := nr rfl
theorem qBo (x : Operand) : qGm (.value x) = cF x := nr rfl
theorem vH (b : Builtin) : qGm (.builtin b) = [] := nr rfl
theorem qGr (ds : List (Option Nat)) : rM ds none = [] := nr rfl
theorem qGq (ds : List (Option Nat)) (g : Nat) (b : Bool) : rM ds (some (g, b)) = match ds[g]? with | some (some d) => [d] | _ => [] := nr rfl
theorem qMo (e : bX) : kH e [] = [] := nr rfl
theorem qHc (e : bX) (t : Nat) (r : List Nat) : kH e (t :: r) = match hlk e t with | some h => (t, h) :: kH e r | none => kH e r := nr rfl
theorem qG9  : kP [] = true := nr rfl
theorem qR9 (k : Nat) (v : Value) (r : bX) : kP ((k, .v v) :: r) = kP r := nr rfl
theorem qHa (k : Nat) (b : Bool) (xs : List (List FV)) (r : bX) : kP ((k, .lst b xs) :: r) = kP r := nr rfl
theorem qHb (k : Nat) (hs : List HV) (r : bX) : kP ((k, .agg hs) :: r) = kP r := nr rfl
theorem qTi (d : Option Nat) (S : HS) (K : HS → Prop) (c : Prop) (i : Nat) (S' : HS) : qZp d S K (.go c (.own i) S') = match rlk S'.st i with | some (.sl _ _ _ els) => c ∧ K (S.set d (.lst true els)) | _ => False := nr rfl
theorem qEq (t : TypeId) (n : Nat) (ps : Array (Nat × Operand)) : zGj (.buildSlice t n ps) = true := nr rfl
theorem qHr (t : TypeId) (x y : Operand) : zGj (.makeSlice t x y) = true := nr rfl
theorem qBy (t : TypeId) (n : Nat) (ps : Array (Nat × Operand)) : dG (.buildSlice t n ps) = false := nr rfl
theorem qEf (t : TypeId) (x y : Operand) : dG (.makeSlice t x y) = false := nr rfl
theorem qYk (P : Program) (o : Oper) (S T : HS) (K : HS → Prop) (c : Prop) (h : HV) (S' : HS) : qAb P o S T K (.go c h S') = match dG o.op with | true => c ∧ K (S.set o.dst h) | false => (match zGj o.op && kP T.env with | true => qZp o.dst S K (hop P ⟨T.env, []⟩ (qCi o.dst) o.op) | false => False) := nr rfl
theorem qNu (P : Program) (o : Oper) (S T : HS) (K : HS → Prop) (f : FuncId) (args : List HV) : qAb P o S T K (.call f args) = zG7 P f args T (fun x => mJ K (S.set o.dst x)) := nr rfl
theorem qTm (P : Program) (o : Oper) (S T : HS) (K : HS → Prop) (t : TypeId) (x y : List Value) (neg : Bool) : qAb P o S T K (.eqn t x y neg) = ∃ r, EqR P t x.toArray y.toArray r ∧ mJ K (S.set o.dst (.v (.bool (neg ^^ r)))) := nr rfl
theorem qYl (P : Program) (N : Nat) (o : Oper) (S T : HS) (K : HS → Prop) : qWw P N o S T K = match dP N o.dst with | true => qAb P o S T K (hop P T (qCi o.dst) o.op) | false => False := nr rfl
theorem qHy (P : Program) (N : Nat) (o : Oper) (S T : HS) (K : HS → Prop) : qDy P N o S T K .yes = qWw P N o S T K := nr rfl
theorem qNh (P : Program) (N : Nat) (o : Oper) (S T : HS) (K : HS → Prop) : qDy P N o S T K .no = kE N o.dst S K := nr rfl
theorem qHz (P : Program) (N : Nat) (o : Oper) (S T : HS) (K : HS → Prop) (d : Nat) (b want : Bool) : qDy P N o S T K (.ask d b want) = match b == want with | true => qWw P N o (S.rep d (.v (.bool want))) (T.rep d (.v (.bool want))) K | false => kE N o.dst (S.rep d (.v (.bool (!want)))) K := nr rfl
theorem qYc (P : Program) (N : Nat) (ds : List (Option Nat)) (K : HS → Prop) (S : HS) : HVr P N ds K [] S = K S := nr rfl
theorem qS4 (P : Program) (N : Nat) (ds : List (Option Nat)) (K : HS → Prop) (o : Oper) (rest : List Oper) (S : HS) : HVr P N ds K (o :: rest) S = qDy P N o S ⟨kH S.env (rM ds o.guard ++ cN o.op), S.st⟩ (HVr P N ds K rest) (hG (kH S.env (rM ds o.guard ++ cN o.op)) ds o.guard) := nr rfl
theorem qNf (k : Nat) : qCi (some k) = 8 * k := nr rfl
theorem qNg  : qCi none = 0 := nr rfl
theorem qG1 (x : Operand) : dG (.move x) = true := nr rfl
theorem qBz (x : Operand) : dG (.assign x) = true := nr rfl
theorem qGz (c a b : Operand) : dG (.pick c a b) = true := nr rfl
theorem qAm (x : Operand) (i : Nat) : dG (.extract x i) = true := nr rfl
theorem qEi (t : TypeId) (x : Operand) (f : Nat) : dG (.field t x f) = true := nr rfl
theorem qEj (t : TypeId) (x : Operand) (f : Nat) : dG (.fieldAddr t x f) = true := nr rfl
theorem qG0 (x : Operand) : dG (.nilCheck x) = true := nr rfl
theorem qEh (t : TypeId) (x i : Operand) : dG (.indexAddr t x i) = true := nr rfl
theorem qEe (t : TypeId) (x : Operand) (l h m : Option Operand) : dG (.slice t x l h m) = true := nr rfl
theorem qG2 (t : TypeId) (x : Operand) : dG (.load t x) = true := nr rfl
theorem qEk (t : TypeId) (ps : Array (Nat × Operand)) : dG (.build t ps) = true := nr rfl
theorem qMk (b : BinOp) (t : TypeId) (x y : Operand) (u : TypeId) : dG (.binOp b t x y u) = true := nr rfl
theorem qR5 (u : UnOp) (t : TypeId) (x : Operand) : dG (.unOp u t x) = true := nr rfl
theorem qG3 (s d : TypeId) (x : Operand) : dG (.convert s d x) = true := nr rfl
theorem qEg (t : TypeId) (x i : Operand) : dG (.index t x i) = true := nr rfl
theorem qMj (args : Array Operand) (ats : Array TypeId) : dG (.call ⟨.builtin .len, args, ats⟩) = true := nr rfl
theorem qMi (args : Array Operand) (ats : Array TypeId) : dG (.call ⟨.builtin .min, args, ats⟩) = true := nr rfl
theorem qP2 (k : Nat) : tP k [] = [] := nr rfl
theorem qLi (k : Nat) (v : HV) (r : List HV) : tP k (v :: r) = (k, v) :: tP (k + 1) r := nr rfl
theorem zZ (e : bX) (s : aN) (ks ids : List Nat) : HS.keep ⟨e, s⟩ ks ids = ⟨wN ks e, vK ids s⟩ := nr rfl
theorem zR (l : bX) : wN [] l = [] := nr rfl
theorem zP (k : Nat) (r : List Nat) (l : bX) : wN (k :: r) l = match hlk l k with | some v => (k, v) :: wN r l | none => wN r l := nr rfl
theorem zQ (l : aN) : vK [] l = [] := nr rfl
theorem zN (k : Nat) (r : List Nat) (l : aN) : vK (k :: r) l = match rlk l k with | some v => (k, v) :: vK r l | none => vK r l := nr rfl
theorem yA (P : Program) (rs : List ResultVar) (Q : HV → aN → Prop) (S : HS) : zDt P rs Q .normal S = mA P S rs fun hs => qLn S (uK hs) Q := nr rfl
theorem yM (P : Program) (rs : List ResultVar) (Q : HV → aN → Prop) (S : HS) : zDt P rs Q .ret S = mA P S rs fun hs => qLn S (uK hs) Q := nr rfl
theorem yH (P : Program) (S : HS) (K : List HV → Prop) : mA P S [] K = K [] := nr rfl
theorem aP (P : Program) (S : HS) (p ty : Nat) (r : List ResultVar) (K : List HV → Prop) : mA P S (.cell p ty :: r) K = zH2 (qN S (cM P ty) (hlk S.env p)) fun h => mA P S r fun hs => K (h :: hs) := nr rfl
theorem aX (c : Prop) (h : HV) (S : HS) (K : HV → Prop) : zH2 (.go c h S) K = (c ∧ K h) := nr rfl
theorem yE (P : Program) (S : HS) (t : Nat) (r : List ResultVar) (K : List HV → Prop) : mA P S (.tmp t :: r) K = match hlk S.env t with | some h => mA P S r fun hs => K (h :: hs) | none => False := nr rfl
theorem yK (h : HV) : uK [h] = h := nr rfl
theorem yJ (a b : HV) (r : List HV) : uK (a :: b :: r) = .tup (a :: b :: r) := nr rfl
theorem zGc (i : Nat) : pos [] i = none := nr rfl
theorem yF (k : Nat) (r : List Nat) (i : Nat) : pos (k :: r) i = if k = i then some 0 else (pos r i).map (· + 1) := nr rfl
theorem zAa (m : Nat → Option Nat) (st : aN) (k : Nat) : jK m st k [] = [] := nr rfl
theorem yG (m : Nat → Option Nat) (st : aN) (k id : Nat) (r : List Nat) : jK m st k (id :: r) = match rlk st id with | some row => (k, row.ren m) :: jK m st (k + 1) r | none => jK m st (k + 1) r := nr rfl
theorem qLg {p : Prop} (h : p) : cB p = True := eq_true h
theorem qPz : cB True = True := rfl
theorem ltT {a b : Int} (h : a < b) : decide (a < b) = true := decide_eq_true h
theorem ltF {a b : Int} (h : b ≤ a) : decide (a < b) = false := decide_eq_false (by omega)
theorem leT {a b : Int} (h : a ≤ b) : decide (a ≤ b) = true := decide_eq_true h
theorem leF {a b : Int} (h : b < a) : decide (a ≤ b) = false := decide_eq_false (by omega)
theorem eqT {a b : Int} (h : a = b) : decide (a = b) = true := decide_eq_true h
theorem eqF {a b : Int} (h : a < b ∨ b < a) : decide (a = b) = false := decide_eq_false (by omega)
theorem zGr {α : Type} {l : List α} {i : Nat} {d : α} (h : i < l.length) : l.getD i d = l[i] := fJ h
theorem tD {α β : Type} {f : α → β} {l : List α} {i : Nat} {d : β} (h : i < l.length) : (l.map f).getD i d = f (l[i]) := by rw [zGr (by simpa using h), List.getElem_map]
theorem qK1 : (default : FV) = .v (.bool false) := rfl
theorem qLo {x : Int} (h1 : -9223372036854775808 ≤ x) (h2 : x ≤ 9223372036854775807) : IntKind.i64.wrap x = x := zJ4 ⟨by unfold zKr; exact h1, by unfold zK3; exact h2⟩
theorem qF7 (n : Nat) : ((n : Int) + 1).toNat = n + 1 := by omega
theorem qLz (n m : Nat) : ((n : Int) + (m : Int)).toNat = n + m := by omega
theorem qFk {α : Type} {f : α → List FV} {sz : Nat} (l : List α) (h : ∀ a, (f a).length = sz) : Wid sz (l.map f) := fun x hx => by
 obtain ⟨a, -, rfl⟩ := List.mem_map.1 hx; exact h a
end Go.Eng
end

section
set_option linter.unusedSimpArgs false
set_option linter.unusedVariables false
namespace Go.Eng
open Go Go.RowKit
def qQc (s : ByteArray) : List FV := [.v (.string s)]
def cR (a : List ByteArray) : List (List FV) := a.map qQc
theorem cH (a : List ByteArray) : (cR a).length = a.length := by simp [cR]
theorem nL (a : List ByteArray) : Wid 1 (cR a) = True := eq_true (qFk a fun _ => rfl)
theorem qBg {a : List ByteArray} {i : Nat} {d : List FV} (h : i < a.length) : (cR a).getD i d = [.v (.string a[i])] := by unfold cR; rw [tD h]; rfl
theorem rK (a : List ByteArray) : mD (cR a) = cR a := by
 unfold mD cR; rw [List.map_map]; apply List.map_congr_left; intro s _; simp [qQc, FV.old]
theorem tT (a : List ByteArray) : ∀ x ∈ cR a, ∀ f ∈ x, FreshF f := fun x hx f hf => by
 obtain ⟨s, -, rfl⟩ := List.mem_map.1 hx; simp [qQc] at hf; subst hf; exact .v _
theorem qC7 (a : List ByteArray) (s : ByteArray) : cR a ++ [[.v (.string s)]] = cR (a ++ [s]) := by simp [cR, qQc]
theorem qZw (a : List ByteArray) (n : Nat) : (cR a).take n = cR (a.take n) := by simp [cR, List.map_take]
theorem zJu {P : Program} {N : Nat} {x : Code} {Q : fF} {S : HS} (k id ty sz : Nat) (hk : hlk S.env k = some (.v (.slice none 0 0))) (h : HW P N x Q (((S.kill (only id)).row id (.sl true ty sz [])).rep k (.own id))) : HW P N x Q S := fun c l w I => by
 refine h c l w ?_
 obtain ⟨ρ, xs, G⟩ := I
 have G2 := G.new id (.sl true ty sz []) [] (.slice none 0 0) (w' := w) (Below.refl _ _) (fun b hb => by cases hb) (fun _ _ =>
  ⟨by rw [bH]; exact World.ownsRow_nil w 0 ty sz, ⟨by simp, fun i k hi => absurd hi (by simp)⟩, fun b hb => by rw [bH] at hb; cases hb⟩)
 refine ⟨_, _, G2.rows, G2.apart, fun j y hj => ?_, G2.kept, G2.a0⟩
 simp only [HS.rep, qJd] at hj
 by_cases e : j = k
 ·subst e
  rw [if_pos rfl] at hj
  have h1 : hlk ((S.kill (only id)).row id (.sl true ty sz [])).env j = some (.v (.slice none 0 0)) := by
   show hlk (lZ (only id) S.env) j = _
   rw [jN, hk]; simp [HV.kill]
  rw [h1] at hj
  simp only [Option.map_some, Option.some.injEq] at hj
  subst hj
  obtain ⟨v, a, b⟩ := G2.env j _ h1
  have := bS b
  subst this
  refine ⟨_, a, ?_⟩
  have := RepH.own (w := w) (A := c.A (gM ρ id (.slice none 0 0)) (((S.kill (only id)).row id (.sl true ty sz [])).rep j (.own id)).st) (n0 := c.n0) (ρ := gM ρ id (.slice none 0 0)) id (by rw [bH]; rfl)
  rw [bH] at this
  exact this
 ·rw [if_neg e] at hj
  exact G2.env j y hj
theorem tC {P : Program} {f : FuncId} {args : List HV} {x : Value} (h : ∀ (w : World) (vs : List Value), mX w (fun _ => False) w.heap.size (fun _ => undef) vs args → Calls P f vs.toArray w (Ret fun r w' => r = x ∧ Below w.heap.size w w')) : HFun P f args (fun h st => h = .v x ∧ st = []) := fun w vs R =>
 Ret.mono (h w vs R) fun v w' ⟨hv, B⟩ => ⟨B, .v x, [], fun i r hi => by simp [rlk] at hi, ⟨rfl, rfl⟩, fun _ => undef, fun _ => [], ⟨fun id r hr => by simp [rlk] at hr, fun i j r s b hne hi => by simp [rlk] at hi, fun k x hk => by simp [hlk] at hk, ⟨B.os, B.tape, B.output, B.size, fun b hlt _ => B.block b hlt⟩, fun b hb => ⟨hb, fun h => h⟩⟩, by rw [hv]; exact .v x⟩
theorem zHg {st : aN} {fr : Bool} {xs ys : List (List FV)} (h : mD xs = ys) : Lend st (.lst fr xs) (.lst false ys) := h ▸ .lst fr xs
theorem qM6 {st : aN} {id ty sz : Nat} {nw : Bool} {els ys : List (List FV)} (h : mD els = ys) (hr : rlk st id = some (.sl nw ty sz els)) : Lend st (.own id) (.lst false ys) := h ▸ .own hr
section
variable {S : HS} {Q : HV → aN → Prop}
theorem bJ {a : Value} (q : Q (.v a) []) : qLn S (.v a) Q := ⟨[], by simp, rfl, .v _, fun id h => by simp at h, by rw [HV.ren]; exact q⟩
theorem qFr {a b : Value} (q : Q (.tup [.v a, .v b]) []) : qLn S (.tup [.v a, .v b]) Q :=
 ⟨[], by simp, rfl, .tup fun x hx => by simp at hx; rcases hx with rfl | rfl <;> exact .v _, fun id h => by simp at h, by rw [HV.ren]; simp only [List.map_cons, List.map_nil, HV.ren]; exact q⟩
theorem qH2 {a b c : Value} (q : Q (.tup [.v a, .v b, .v c]) []) : qLn S (.tup [.v a, .v b, .v c]) Q :=
 ⟨[], by simp, rfl, .tup fun x hx => by simp at hx; rcases hx with rfl | rfl | rfl <;> exact .v _, fun id h => by simp at h, by rw [HV.ren]; simp only [List.map_cons, List.map_nil, HV.ren]; exact q⟩
theorem zDm {id ty sz : Nat} {els : List (List FV)} (hr : rlk S.st id = some (.sl true ty sz els)) (hf : ∀ x ∈ els, ∀ f ∈ x, FreshF f) (q : Q (.own 0) [(0, .sl true ty sz els)]) : qLn S (.own id) Q :=
 ⟨[id], by simp, by simp [dup], .own _, fun i h r hr' => by
  simp at h; subst h; rw [hr] at hr'; simp only [Option.some.injEq] at hr'; subst hr'; exact ⟨rfl, hf⟩, by
  rw [HV.ren]; simp only [pos, if_true, jK, hr, Row.ren]; exact q⟩
end
end Go.Eng
end

section
set_option linter.unusedSimpArgs false
set_option linter.unusedVariables false
namespace Go.Eng
open Go Go.RowKit
theorem qSl (j : Nat) : qDh [] j = none := nr rfl
theorem qMw (k : Nat) (r : List Nat) (j : Nat) : qDh (k :: r) j = if j = 0 then some k else qDh r (j - 1) := by cases j <;> simp [qDh]
theorem zB1 (ids : List Nat) (n j : Nat) : sh2 ids n j = match qDh ids j with | some i => some i | none => bif decide (j < 8) then some (n + j) else none := by
 unfold sh2; split <;> rename_i h <;> rw [h]; congr 1; rw [Bool.eq_iff_iff]; simp [Nat.blt_eq]
theorem qYa (i : Nat) : inL [] i = false := nr rfl
theorem qS2 (k : Nat) (r : List Nat) (i : Nat) : inL (k :: r) i = (k == i || inL r i) := nr rfl
theorem qNd : qS0 none = true := nr rfl
theorem qX5 (nw : Bool) (t s : Nat) (xs : List (List FV)) : qS0 (some (.sl nw t s xs)) = true := nr rfl
theorem qX7 (nw : Bool) (t : Nat) (cs : List HV) : qS0 (some (.bx nw t cs)) = false := nr rfl
theorem qX6 (nw : Bool) (t s : Nat) (xs : List (List HV)) : qS0 (some (.hl nw t s xs)) = true := nr rfl
theorem qX9 (nw : Bool) (t s : Nat) (xs : List (List HV)) : lW (some (.hl nw t s xs)) = False := nr rfl
theorem qNe : lW none = False := nr rfl
theorem qX8 (nw : Bool) (t s : Nat) (xs : List (List FV)) : lW (some (.sl nw t s xs)) = False := nr rfl
theorem zDj (t : Nat) (cs : List HV) : lW (some (.bx true t cs)) = False := nr rfl
theorem zDk (t : Nat) (cs : List HV) : lW (some (.bx false t cs)) = True := nr rfl
theorem qLx (ids : List Nat) (st : aN) (n i : Nat) : kL ids st n i = (cV n i || (inL ids i && qS0 (rlk st i))) := nr rfl
theorem qY0 (ids : List Nat) (n i : Nat) : mE ids n i = (cV n i || inL ids i) := nr rfl
theorem qMv (ids : List Nat) (st : aN) (j : Nat) : dK ids st j = match qDh ids j with | some i => rlk st i | none => none := nr rfl
theorem qY8 (nw : Bool) (t s : Nat) (xs : List (List FV)) : (Row.sl nw t s xs).dark = .sl nw t s xs := nr rfl
theorem qZa (nw : Bool) (t : Nat) (cs : List HV) : (Row.bx nw t cs).dark = .bx false t cs := nr rfl
theorem qY9 (nw : Bool) (t s : Nat) (xs : List (List HV)) : (Row.hl nw t s xs).dark = .hl nw t s xs := nr rfl
theorem qY4 (o : Option Row) (nw : Bool) (t s : Nat) (xs : List (List HV)) : (Row.hl nw t s xs).flag o = .hl nw t s xs := by
 cases o with
 | none => rfl
 | some o => cases o <;> rfl
theorem qUk (r : Row) (nw : Bool) (t s : Nat) (xs : List (List HV)) : r.flag (some (.hl nw t s xs)) = r := by cases r <;> rfl
theorem qPq (r : Row) : r.flag none = r := nr rfl
theorem qY3 (o : Option Row) (nw : Bool) (t s : Nat) (xs : List (List FV)) : (Row.sl nw t s xs).flag o = .sl nw t s xs := by
 cases o with
 | none => rfl
 | some o => cases o <;> rfl
theorem qY5 (nw n2 : Bool) (t t2 : Nat) (cs c2 : List HV) : (Row.bx n2 t2 c2).flag (some (.bx nw t cs)) = .bx nw t2 c2 := nr rfl
theorem qUj (r : Row) (nw : Bool) (t s : Nat) (xs : List (List FV)) : r.flag (some (.sl nw t s xs)) = r := by cases r <;> rfl
theorem qPx (m : Nat → Option Nat) (st : aN) (k : Nat) : iE m st k [] = [] := nr rfl
theorem qLa (m : Nat → Option Nat) (st : aN) (k id : Nat) (r : List Nat) : iE m st k (id :: r) = match rlk st id with | some row => (k, (row.ren m).dark) :: iE m st (k + 1) r | none => iE m st (k + 1) r := nr rfl
theorem qW4 (S0 : aN) (ids : List Nat) (n : Nat) (b : aN) : swp S0 ids n [] b = b := nr rfl
theorem qRl (S0 : aN) (ids : List Nat) (n j : Nat) (r : Row) (t b : aN) : swp S0 ids n ((j, r) :: t) b = ((sh2 ids n j).getD 0, (r.ren (sh2 ids n)).flag (dK ids S0 j)) :: swp S0 ids n t b := nr rfl
theorem qW5 (e : bX) (s : aN) (ids : List Nat) (n : Nat) (st : aN) : HS.swap ⟨e, s⟩ ids n st = ⟨lZ (kL ids s n) e, swp s ids n st (dD (mE ids n) s)⟩ := nr rfl
theorem zBg (st : aN) (k : Nat) : qFg st k [] = True := nr rfl
theorem yL (st : aN) (k id : Nat) (r : List Nat) : qFg st k (id :: r) = ((lW (rlk st id) → k = id) ∧ qFg st (k + 1) r) := nr rfl
theorem zAz (ids : List Nat) (st : aN) : oL ids st [] = True := nr rfl
theorem zDf (ids : List Nat) (st : aN) (j : Nat) (nw : Bool) (t s : Nat) (xs : List (List FV)) (r : aN) : oL ids st ((j, .sl nw t s xs) :: r) = oL ids st r := nr rfl
theorem zDg (ids : List Nat) (st : aN) (j : Nat) (nw : Bool) (t s : Nat) (xs : List (List HV)) (r : aN) : oL ids st ((j, .hl nw t s xs) :: r) = oL ids st r := nr rfl
theorem zDh (ids : List Nat) (st : aN) (j : Nat) (t : Nat) (cs : List HV) (r : aN) : oL ids st ((j, .bx true t cs) :: r) = oL ids st r := nr rfl
theorem zDi (ids : List Nat) (st : aN) (j : Nat) (t : Nat) (cs : List HV) (r : aN) : oL ids st ((j, .bx false t cs) :: r) = ((qDh ids j = some j ∧ lW (rlk st j)) ∧ oL ids st r) := by
 rw [fH]; rfl
theorem aK (P : Program) (rs : List ResultVar) (st0 : aN) (Q : HV → aN → Prop) (S : HS) : qWg P rs st0 Q .normal S = mA P S rs fun hs => qFh st0 S (uK hs) Q := rfl
theorem aR (P : Program) (rs : List ResultVar) (st0 : aN) (Q : HV → aN → Prop) (S : HS) : qWg P rs st0 Q .ret S = mA P S rs fun hs => qFh st0 S (uK hs) Q := rfl
theorem cJ (ids : List Nat) {st0 : aN} {S : HS} {h : HV} {Q : HV → aN → Prop} (h1 : ids.length ≤ 8) (h2 : dup ids = false) (h3 : qFg S.st 0 ids) (h4 : oL ids S.st st0) {h' : HV} {st' : aN} (h5 : h.ren (pos ids) = h') (h6 : jK (pos ids) S.st 0 ids = st') (q : Q h' st') : qFh st0 S h Q :=
 ⟨ids, h1, h2, h3, h4, by rw [h5, h6]; exact q⟩
theorem aG : uK [] = .tup [] := nr rfl
section
variable {P : Program} {N : Nat} {x : Code} {Q : fF} {S S' : HS}
theorem qZl (id k nid ty sz : Nat) {nw : Bool} {bt : Nat} {cells : List HV} (hne : id ≠ nid) (hr : rlk S.st id = some (.bx nw bt cells)) (hk : cells[k]? = some (.v (.slice none 0 0)))
  (hs : (⟨lZ (only nid) S.env, (nid, .sl true ty sz []) :: gL id (.bx nw bt ((cells.map (HV.kill (only nid))).set k (.own nid))) (dD (only nid) S.st)⟩ : HS) = S') (h : HW P N x Q S') : HW P N x Q S := fun c l w I => by
 subst hs
 refine h c l w ?_
 obtain ⟨ρ, xs, G⟩ := I
 have G2 := G.new nid (.sl true ty sz []) [] (.slice none 0 0) (w' := w) (Below.refl _ _) (fun b hb => by cases hb) (fun _ _ =>
  ⟨by rw [bH]; exact World.ownsRow_nil w 0 ty sz, ⟨by simp, fun i k hi => absurd hi (by simp)⟩, fun b hb => by rw [bH] at hb; cases hb⟩)
 have hr2 : rlk (dD (only nid) S.st) id = some (.bx nw bt (cells.map (HV.kill (only nid)))) := by rw [fC, qB9 hne, cond_false, hr]; rfl
 have hl : ∀ i, rlk ((nid, Row.sl true ty sz []) :: gL id (.bx nw bt ((cells.map (HV.kill (only nid))).set k (.own nid))) (dD (only nid) S.st)) i =
   if i = id then some (.bx nw bt ((cells.map (HV.kill (only nid))).set k (.own nid))) else rlk ((nid, Row.sl true ty sz []) :: dD (only nid) S.st) i := fun i => by
  simp only [rlk]
  by_cases e : nid = i
  ·rw [if_pos e, if_neg (by omega), if_pos e]
  ·rw [if_neg e, iL id _ _ _ hr2]
   by_cases e2 : i = id
   ·rw [if_pos e2, if_pos e2]
   ·rw [if_neg e2, if_neg e2, if_neg e]
 have hid : rlk ((nid, Row.sl true ty sz []) :: dD (only nid) S.st) id = some (.bx nw bt (cells.map (HV.kill (only nid)))) := by simp only [rlk]; rw [if_neg (by omega)]; exact hr2
 have hA : ∀ b, c.A (gM ρ nid (.slice none 0 0)) ((nid, Row.sl true ty sz []) :: gL id (.bx nw bt ((cells.map (HV.kill (only nid))).set k (.own nid))) (dD (only nid) S.st)) b → c.A (gM ρ nid (.slice none 0 0)) ((nid, Row.sl true ty sz []) :: dD (only nid) S.st) b := by
  rintro b (h0 | ⟨i, s, hi, hb⟩)
  ·exact .inl h0
  ·right
   rw [hl] at hi
   by_cases e : i = id
   ·subst e; exact ⟨_, _, hid, hb⟩
   ·rw [if_neg e] at hi; exact ⟨i, s, hi, hb⟩
 refine ⟨gM ρ nid (.slice none 0 0), fun i => if i = nid then [] else xs i, ⟨fun i r hi => ?_, fun i j r s b hne hi hj hbi hbj => ?_, fun j y hj => ?_, G2.kept, G2.a0⟩⟩
 ·rw [hl] at hi
  by_cases e : i = id
  ·subst e
   rw [if_pos rfl] at hi
   simp only [Option.some.injEq] at hi
   subst hi
   have R := G2.rows i _ hid
   refine ⟨by simpa [Row.ty, Row.sz, Row.len] using R.own, ⟨R.rep.1, fun q hq => ?_⟩, R.new⟩
   have hq' : q < (cells.map (HV.kill (only nid))).length := by simpa using hq
   obtain ⟨u, u1, u2, u3⟩ := R.rep.2 q hq'
   by_cases eq : k = q
   ·subst eq
    refine ⟨u, u1, u2, ?_⟩
    rw [List.getElem_set_self]
    have hc : cells[k]'(by simpa using hq') = .v (.slice none 0 0) := by
     have := List.getElem?_eq_some_iff.1 hk
     exact this.2
    rw [List.getElem_map, hc, HV.kill] at u3
    have := bS u3
    subst this
    have := RepH.own (w := w) (A := c.A (gM ρ nid (.slice none 0 0)) ((nid, Row.sl true ty sz []) :: gL i (.bx nw bt ((cells.map (HV.kill (only nid))).set k (.own nid))) (dD (only nid) S.st))) (n0 := c.n0) (ρ := gM ρ nid (.slice none 0 0)) nid (by rw [bH]; rfl)
    rw [bH] at this
    exact this
   ·refine ⟨u, u1, u2, ?_⟩
    rw [List.getElem_set_ne eq]
    exact u3.up (Nat.le_refl _) (fun _ _ _ => rfl) (fun b _ => hA b) (Nat.le_refl _)
  ·rw [if_neg e] at hi
   exact (G2.rows i r hi).up (Nat.le_refl _) (fun _ _ _ => rfl) (fun b _ => hA b) (fun _ _ => rfl)
 ·have back : ∀ i s, rlk ((nid, Row.sl true ty sz []) :: gL id (.bx nw bt ((cells.map (HV.kill (only nid))).set k (.own nid))) (dD (only nid) S.st)) i = some s → ∃ s0, rlk ((nid, Row.sl true ty sz []) :: dD (only nid) S.st) i = some s0 := by
   intro i s hi
   rw [hl] at hi
   by_cases e : i = id
   ·subst e; exact ⟨_, hid⟩
   ·rw [if_neg e] at hi; exact ⟨s, hi⟩
  obtain ⟨r0, h1⟩ := back i r hi
  obtain ⟨s0, h2⟩ := back j s hj
  exact G2.apart i j r0 s0 b hne h1 h2 hbi hbj
 ·obtain ⟨v, h1, h2⟩ := G2.env j y hj
  exact ⟨v, h1, h2.up (Nat.le_refl _) (fun _ _ _ => rfl) (fun b _ => hA b) (Nat.le_refl _)⟩
end
section
variable {P : Program} {N : Nat} {x : Code} {Q : fF} {S : HS} {id : Nat} {R : HS → Prop}
end
end Go.Eng
end

section
set_option linter.unusedSimpArgs false
set_option linter.unusedVariables false
namespace Go.Eng
open Go Go.RowKit
def zDp (R : HS → Prop) (Q : fF) : fF
 | .normal, S => R S
 | e, S => Q e S
section
variable {P : Program} {N : Nat} {x : Code} {Q : fF} {S : HS} {R : HS → Prop}
theorem rD (h : R S) : zDp R Q .normal S := h
theorem lF {ι : Type} (E : ι → HS) (I : ι → Prop) (ks ids : List Nat) (hx : HW P N x (zDp (fun S' => ∃ j, S'.keep ks ids = E j ∧ I j) Q) S) (hy : ∀ S' j, S'.keep ks ids = E j → I j → Q .normal S') : HW P N x Q S :=
 hx.mono fun e S' h => by
  cases e with
  | normal => obtain ⟨j, hE, hI⟩ := h; exact hy S' j hE hI
  | _ => exact h
end
theorem qFv {P : Program} {N : Nat} {x : Code} {Q : fF} {S S' : HS} (k id ty sz : Nat) (hk : hlk S.env k = some (.v (.slice none 0 0))) (hs : ((S.kill (only id)).row id (.sl true ty sz [])).rep k (.own id) = S') (h : HW P N x Q S') : HW P N x Q S := zJu k id ty sz hk (hs ▸ h)
end Go.Eng
end

section
set_option linter.unusedSimpArgs false
set_option linter.unusedVariables false
namespace Go.Eng
open Go Go.RowKit
section
variable {P : Program} {N : Nat} {ds : List (Option Nat)} {K : HS → Prop} {S : HS} {Q : fF}
end
end Go.Eng
end

section
set_option linter.unusedSimpArgs false
set_option linter.unusedVariables false
namespace Go.Eng
open Go Go.RowKit
def nm (a b : Nat) : Nat → Option Nat := fun i => if i = a then some b else if i = b then none else some i
def qUp (m : Nat → Option Nat) : bX → bX
 | [] => []
 | (k, h) :: r => (k, h.ren m) :: qUp m r
def qQe (a b : Nat) : aN → aN
 | [] => []
 | (k, r) :: t => (if k = a then b else k, r.ren (nm a b)) :: qQe a b t
def HS.name (S : HS) (a b : Nat) : HS := ⟨qUp (nm a b) S.env, qQe a b S.st⟩
theorem qTk (m : Nat → Option Nat) : ∀ (l : bX) (k : Nat), hlk (qUp m l) k = (hlk l k).map (HV.ren m)
 | [], k => rfl
 | (j, h) :: r, k => by
  simp only [qUp, hlk]
  split
  ·rfl
  ·exact qTk m r k
theorem qR1 {a b : Nat} (hab : a ≠ b) : ∀ (l : aN) (_ : rlk l b = none) (k : Nat), rlk (qQe a b l) k = if k = b then (rlk l a).map (Row.ren (nm a b)) else if k = a then none else (rlk l k).map (Row.ren (nm a b))
 | [], _, k => by simp [qQe, rlk]
 | (j, r) :: t, h, k => by
  simp only [rlk] at h
  by_cases hj : j = b
  ·rw [if_pos hj] at h; cases h
  ·rw [if_neg hj] at h
   have ih := qR1 hab t h k
   simp only [qQe, rlk]
   by_cases e : j = a
   ·subst e
    rw [if_pos rfl, if_pos rfl]
    by_cases e2 : k = b
    ·subst e2; rw [if_pos rfl, if_pos rfl]; rfl
    ·rw [if_neg (by omega), ih, if_neg e2, if_neg e2]
     by_cases e3 : k = j
     ·rw [if_pos e3, if_pos e3]
     ·rw [if_neg e3, if_neg e3, if_neg (by omega)]
   ·rw [if_neg e, if_neg e]
    by_cases e2 : j = k
    ·subst e2; rw [if_pos rfl, if_neg hj, if_neg e, if_pos rfl]; rfl
    ·rw [if_neg e2, ih, if_neg e2]
section
variable {P : Program} {N : Nat} {x : Code} {Q : fF} {c : Ctx} {S S' : HS} {look : Nat → Option Value} {w : World}
theorem Inv.name (I : Inv c S look w) {a b ty sz : Nat} {nw : Bool} {els : List (List FV)} (hab : a ≠ b) (hb : rlk S.st b = none) (ha : rlk S.st a = some (.sl nw ty sz els)) : Inv c (S.name a b) look w := by
 obtain ⟨ρ, xs, G⟩ := I
 let ρ' : Nat → Value := fun i => if i = b then ρ a else ρ i
 let xs' : Nat → List Value := fun i => if i = b then xs a else xs i
 have hm : ∀ i j, nm a b i = some j → ρ' j = ρ i := fun i j h => by
  unfold nm at h
  by_cases e : i = a
  ·rw [if_pos e] at h; simp only [Option.some.injEq] at h; subst h; subst e; show (if b = b then _ else _) = _; rw [if_pos rfl]
  ·rw [if_neg e] at h
   by_cases e2 : i = b
   ·rw [if_pos e2] at h; cases h
   ·rw [if_neg e2] at h; simp only [Option.some.injEq] at h; subst h; show (if i = b then _ else _) = _; rw [if_neg e2]
 have back : ∀ i r, rlk (S.name a b).st i = some r → ∃ j r0, nm a b j = some i ∧ rlk S.st j = some r0 ∧ r = r0.ren (nm a b) ∧ xs' i = xs j := by
  intro i r hi
  simp only [HS.name, qR1 hab _ hb] at hi
  by_cases e : i = b
  ·subst e
   rw [if_pos rfl, ha] at hi
   simp only [Option.map_some, Option.some.injEq] at hi
   exact ⟨a, _, by simp [nm], ha, hi.symm, by show (if i = i then _ else _) = _; rw [if_pos rfl]⟩
  ·rw [if_neg e] at hi
   by_cases e2 : i = a
   ·rw [if_pos e2] at hi; cases hi
   ·rw [if_neg e2] at hi
    cases hs : rlk S.st i with
    | none => rw [hs] at hi; cases hi
    | some r0 =>
     rw [hs] at hi
     simp only [Option.map_some, Option.some.injEq] at hi
     exact ⟨i, r0, by simp [nm, e, e2], hs, hi.symm, by show (if i = b then _ else _) = _; rw [if_neg e]⟩
 have hA : ∀ g, c.A ρ' (S.name a b).st g → c.A ρ S.st g := by
  rintro g (h0 | ⟨i, r, hi, hg⟩)
  ·exact .inl h0
  ·obtain ⟨j, r0, h1, h2, -, -⟩ := back i r hi
   rw [hm j i h1] at hg
   exact .inr ⟨j, r0, h2, hg⟩
 have tr : ∀ v y, RepH w (c.A ρ S.st) c.n0 ρ v y → RepH w (c.A ρ' (S.name a b).st) c.n0 ρ' v (y.ren (nm a b)) := fun v y h => (h.up (Nat.le_refl _) (fun _ _ _ => rfl) (fun b _ => hA b) (Nat.le_refl _)).ren hm
 refine ⟨ρ', xs', fun i r hi => ?_, fun i j r s g hne hi hj hgi hgj => ?_, fun k y hk => ?_, G.kept, G.a0⟩
 ·obtain ⟨j, r0, h1, h2, rfl, h4⟩ := back i r hi
  have R := G.rows j r0 h2
  obtain ⟨f1, f2, f3, f4⟩ := Row.ren_facts (nm a b) r0
  rw [h4]
  refine ⟨by rw [f1, f2, f3, hm j i h1]; exact R.own, ?_, fun g hg => by rw [f4]; rw [hm j i h1] at hg; exact R.new g hg⟩
  have rp := R.rep
  cases r0 with
  | sl nw ty sz els =>
   refine ⟨rp.1, fun p k hp hk => ?_⟩
   obtain ⟨u, u1, u2, u3⟩ := rp.2 p k hp hk
   exact ⟨u, u1, u2, u3.up (Nat.le_refl _) (fun _ _ _ => rfl) (fun b _ => hA b) (Nat.le_refl _)⟩
  | bx nw ty cells =>
   refine ⟨?_, fun k hk => ?_⟩
   ·have hji : j = i := by
     unfold nm at h1
     by_cases e : j = a
     ·subst e; rw [ha] at h2; cases h2
     ·rw [if_neg e] at h1
      by_cases e2 : j = b
      ·rw [if_pos e2] at h1; cases h1
      ·rw [if_neg e2] at h1; exact Option.some.inj h1
    rw [hm j i h1]
    rw [← hji]
    exact rp.1
   ·rw [List.length_map] at hk
    obtain ⟨u, u1, u2, u3⟩ := rp.2 k hk
    refine ⟨u, u1, u2, ?_⟩
    rw [List.getElem_map]
    exact tr _ _ u3
  | hl nw ty sz els =>
   refine ⟨fun y hy => ?_, fun p k hp hk => ?_⟩
   ·obtain ⟨z, hz, rfl⟩ := List.mem_map.1 hy
    rw [List.length_map]; exact rp.1 z hz
   ·simp only [List.length_map] at hp
    simp only [List.getElem_map, List.length_map] at hk ⊢
    obtain ⟨u, u1, u2, u3⟩ := rp.2 p k hp hk
    exact ⟨u, u1, u2, tr _ _ u3⟩
 ·obtain ⟨i', r0, h1, h2, -, -⟩ := back i r hi
  obtain ⟨j', s0, h3, h4, -, -⟩ := back j s hj
  rw [hm i' i h1] at hgi
  rw [hm j' j h3] at hgj
  exact G.apart i' j' r0 s0 g (fun e => hne (by subst e; rw [h1] at h3; exact Option.some.inj h3)) h2 h4 hgi hgj
 ·simp only [HS.name, qTk] at hk
  cases hx0 : hlk S.env k with
  | none => rw [hx0] at hk; cases hk
  | some x0 =>
   rw [hx0] at hk
   simp only [Option.map_some, Option.some.injEq] at hk
   subst hk
   obtain ⟨v, h1, h2⟩ := G.env k x0 hx0
   exact ⟨v, h1, tr v x0 h2⟩
end
theorem qXy (e : bX) (s : aN) (a b : Nat) : HS.name ⟨e, s⟩ a b = ⟨qUp (nm a b) e, qQe a b s⟩ := rfl
theorem zHf (a b i : Nat) : nm a b i = if i = a then some b else if i = b then none else some i := rfl
theorem qUo (m : Nat → Option Nat) : qUp m [] = [] := rfl
theorem qPu (m : Nat → Option Nat) (k : Nat) (h : HV) (r : bX) : qUp m ((k, h) :: r) = (k, h.ren m) :: qUp m r := rfl
theorem qRo (a b : Nat) : qQe a b [] = [] := rfl
theorem qL3 (a b k : Nat) (r : Row) (t : aN) : qQe a b ((k, r) :: t) = (if k = a then b else k, r.ren (nm a b)) :: qQe a b t := rfl
end Go.Eng
end
