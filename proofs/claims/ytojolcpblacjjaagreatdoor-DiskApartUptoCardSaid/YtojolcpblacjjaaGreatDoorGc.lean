/-
  The engine of values: texts Rel, Hr, Hk, Hl, Hlo, He, Enc, Ste, Met, Spl, Nam, laid together.
-/
import Derived.Test.YtojolcpblacjjaaGreatDoorEng
import Derived.Test.YtojolcpblacjjaaGreatDoorGb
section
set_option linter.unusedSimpArgs false
set_option linter.unusedVariables false
namespace Go.Eng
open Go Go.RowKit
section
variable {P : Program} {N : Nat} {C : World → Prop} {ops : List Oper} {n : Nat} {l : Env} {R : Nat → Value → World → Prop}
def dH (l : Env) (ops : List Oper) (vs : Nat → Value) : Nat → Env
 | 0 => l
 | i + 1 => stp (bB ops i) (vs i) (dH l ops vs i)
def DLt (N : Nat) (ops : List Oper) (n : Nat) : Prop := ∀ i t, i < n → bB ops i = some t → t < N
variable {vs : Nat → Value}
theorem tP (hl : DLt N ops n) (hk : bW N l = true) : ∀ i, i ≤ n → bW N (dH l ops vs i) = true
 | 0, _ => hk
 | i + 1, hi => eY (tP hl hk i (by omega)) (fun k e => hl i k (by omega) e)
theorem gF (base : Array Value) (t : Nat) : ∀ i, (∀ j, j < i → bB ops j ≠ some t) →
  lk (dH l ops vs i) t = lk l t ∧ (gR base (dH l ops vs i))[t]? = (gR base l)[t]?
 | 0, _ => ⟨rfl, rfl⟩
 | i + 1, h => by
  obtain ⟨h1, h2⟩ := gF base t i (fun j hj => h j (by omega))
  have hne := h i (by omega)
  simp only [dH]
  cases hd : bB ops i with
  | none => exact ⟨h1, h2⟩
  | some d =>
   have : d ≠ t := fun e => hne (by rw [hd, e])
   simp only [stp, lk, gR, if_neg this]
   exact ⟨h1, by rw [Array.getElem?_setIfInBounds_ne this]; exact h2⟩
theorem iC (hl : DLt N ops n) {base : Array Value} (hbase : base.size = N) {t j : Nat} (hj : bB ops j = some t) (huniq : ∀ k, k < n → k ≠ j → bB ops k ≠ some t) : ∀ i, i ≤ n → j < i →
  lk (dH l ops vs i) t = some (vs j) ∧ (gR base (dH l ops vs i))[t]? = some (vs j)
 | 0, _, h => absurd h (Nat.not_lt_zero _)
 | i + 1, hi, h => by
  simp only [dH]
  by_cases e : j = i
  ·subst e
   rw [hj]
   simp only [stp, lk, gR, if_true, true_and]
   rw [Array.getElem?_setIfInBounds_self_of_lt (by rw [iS, hbase]; exact hl j t (by omega) hj)]
  ·obtain ⟨h1, h2⟩ := iC hl hbase hj huniq i (by omega) (by omega)
   have hne := huniq i (by omega) (Ne.symm e)
   cases hd : bB ops i with
   | none => exact ⟨h1, h2⟩
   | some d =>
    have : d ≠ t := fun e => hne (by rw [hd, e])
    simp only [stp, lk, gR, if_neg this]
    exact ⟨h1, by rw [Array.getElem?_setIfInBounds_ne this]; exact h2⟩
theorem qM9 {keys : List Nat} (ok : RegOk keys ops n) (F : Fr N) (hk : bW N l = true) (bU : ∀ t ∈ keys, ∃ v, lk l t = some v) (hlt : DLt N ops n)
  {Le : Nat → World → World → Prop} (hLe : ∀ i w, Le i w w) (hS : ∀ j i u w w', j < n → i < n → j ≠ i → C w → R j u w → Le i w w' → R j u w')
  (H : ∀ i o, i < n → ops[i]? = some o → ∀ (vs : Nat → Value) (w : World), C w → (∀ j t, j < i → bB ops j = some t → t ∈ o.looksAt ops.toArray → R j (vs j) w) →
   ∃ b, gd (dH l ops vs i) (cM ops) o.guard (· = b) ∧ (b = true → Yields P (execOp (evD (dH l ops vs i)) o) w fun u w' => R i u w' ∧ C w' ∧ Le i w w') ∧ (b = false → R i undef w))
  {Q : Exit → Act → World → Prop} (hT : ∀ (vs : Nat → Value) (w : World), C w → (∀ j, j < n → R j (vs j) w) → wpList P ops.toArray Q (ops.drop n) (mk F (dH l ops vs n)) w) :
  ∀ (fuel : Nat) (listed : Array Bool) (a : Act) (w : World) (vs : Nat → Value), unl listed = fuel → Mid N C ops n (gR F.base l) vs listed a w → (∀ j, j < n → listed.getD j false = true → R j (vs j) w) → wpAny P .any ops.toArray Q fuel listed a w := by
 have uniq : ∀ i j t, i < n → j < n → bB ops i = some t → bB ops j = some t → i = j := by
  intro i j t hi hj h1 h2
  rcases Nat.lt_trichotomy i j with h | h | h
  ·rcases ok.uniq j i hj h with e | e
   ·rw [h2] at e; cases e
   ·exact absurd (h2.trans h1.symm) e
  ·exact h
  ·rcases ok.uniq i j hi h with e | e
   ·rw [h1] at e; cases e
   ·exact absurd (h1.trans h2.symm) e
 have final : ∀ (listed : Array Bool) (a : Act) (w : World) (vs : Nat → Value), Mid N C ops n (gR F.base l) vs listed a w → (∀ j, j < n → listed.getD j false = true) → a = mk F (dH l ops vs n) := by
  intro listed a w vs M hall
  obtain ⟨tm, df⟩ := a
  have hd : df = [] := M.defers
  subst hd
  show Act.mk _ _ = Act.mk _ _
  congr 1
  apply Array.ext_getElem?
  intro t
  by_cases h : ∃ j, j < n ∧ bB ops j = some t
  ·obtain ⟨j, hj, hd⟩ := h
   have h1 := M.new j t hj (hall j hj) hd
   have h2 := (iC (l := l) (vs := vs) hlt F.hN hd (fun k hk hne e => hne (uniq k j t hk hj e hd)) n (Nat.le_refl _) hj).2
   exact h1.trans h2.symm
  ·have h' : ∀ j, j < n → bB ops j ≠ some t := fun j hj e => h ⟨j, hj, e⟩
   have h1 := M.old t (fun j hj _ => h' j hj)
   have h2 := (gF (l := l) (vs := vs) F.base t n h').2
   exact h1.trans h2.symm
 have slot : ∀ (listed : Array Bool) (a : Act) (w : World) (vs : Nat → Value) (i : Nat) (o : Oper) (t : Nat), Mid N C ops n (gR F.base l) vs listed a w → i < n → ops[i]? = some o → i ∈ Region.ready .any ops.toArray listed → t ∈ o.looksAt ops.toArray →
   ∃ X, a.tmps[t]? = some X ∧ lk (dH l ops vs i) t = some X := by
  intro listed a w vs i o t M hi ho hr ht
  obtain ⟨l1, l2⟩ := ok.looks i o t hi ho ht
  by_cases h : ∃ j, j < n ∧ bB ops j = some t
  ·obtain ⟨j, hj, hd⟩ := h
   obtain ⟨hji, he⟩ := l1 j hj hd
   exact ⟨vs j, M.new j t hj (dL hr he) hd, (iC (l := l) (vs := vs) hlt F.hN hd (fun k hk hne e => hne (uniq k j t hk hj e hd)) i (by omega) hji).1⟩
  ·have h' : ∀ j, j < n → bB ops j ≠ some t := fun j hj e => h ⟨j, hj, e⟩
   rcases l2 with ⟨j, hj, hd⟩ | hkey
   ·exact absurd hd (h' j (by omega))
   ·obtain ⟨v, hv⟩ := bU t hkey
    refine ⟨v, ?_, ?_⟩
    ·rw [M.old t (fun j hj _ => h' j hj)]; exact iB F hk hv
    ·rw [(gF (l := l) (vs := vs) F.base t i (fun j hj => h' j (by omega))).1]; exact hv
 intro fuel
 induction fuel with
 | zero =>
  intro listed a w vs hu M MR
  have hall : ∀ j, j < ops.length → listed.getD j false = true := fun j hj => qD2 hu (by rw [M.size]; exact hj)
  have hn : n = ops.length := by
   rcases Nat.lt_or_ge n ops.length with h | h
   ·have := M.heads n (hall n h); omega
   ·have := ok.hn; omega
  have ha := final listed a w vs M (fun j hj => hall j (by omega))
  subst ha
  exact iM ok 0 n listed _ w (by omega) (Nat.le_refl _) M.size (fun i hi => ⟨fun _ => by omega, fun _ => hall i hi⟩) (hT vs w M.cls fun j hj => MR j hj (hall j (by omega)))
 | succ fuel ih =>
  intro listed a w vs hu M MR
  by_cases hdone : ∀ j, j < n → listed.getD j false = true
  ·have ha := final listed a w vs M hdone
   subst ha
   have hcount : ∀ (m : Nat) (x : Array Bool), x.size = ops.length → (∀ i, i < ops.length → (x.getD i false = true ↔ i < m)) → m ≤ ops.length → m + unl x = ops.length := by
    intro m
    generalize hd : ops.length - m = d
    induction d generalizing m with
    | zero =>
     intro x hx hl hm
     have : unl x = 0 := by
      unfold unl
      rw [List.length_eq_zero_iff, List.filter_eq_nil_iff]
      intro b hb
      obtain ⟨i, hi, rfl⟩ := List.getElem_of_mem hb
      have hi' : i < x.size := by simpa using hi
      have := (hl i (by omega)).2 (by omega)
      simp only [Array.getD, hi', dite_true] at this
      simp [show x.toList[i] = true from this]
     omega
    | succ d ihd =>
     intro x hx hl hm
     have hmlt : m < ops.length := by omega
     have h0 : x.getD m true = false := by
      have : ¬ x.getD m false = true := fun e => by have := (hl m hmlt).1 e; omega
      have hm' : m < x.size := by omega
      simp only [Array.getD, hm', dite_true] at this ⊢
      simpa using this
     have := ihd (m + 1) (by omega) (x.setIfInBounds m true) (by simpa using hx) (fun i hi => by
      by_cases e : m = i
      ·subst e
       have : m < x.size := by omega
       simp [this]
      ·rw [getD_set_ne false e, hl i hi]; omega) (by omega)
     have := sS h0
     omega
   have hl : ∀ i, i < ops.length → (listed.getD i false = true ↔ i < n) := fun i hi => ⟨M.heads i, hdone i⟩
   have := hcount n listed M.size hl ok.hn
   exact iM ok (fuel + 1) n listed _ w (by omega) (Nat.le_refl _) M.size hl (hT vs w M.cls fun j hj => MR j hj (hdone j hj))
  ·have hex : ∃ j, j < n ∧ listed.getD j false ≠ true := by
    refine Classical.byContradiction fun hne => hdone fun j hj => ?_
    refine Classical.byContradiction fun h => hne ⟨j, hj, h⟩
   have hn := ok.hn
   have hready : ∃ j, j ∈ Region.ready .any ops.toArray listed := by
    obtain ⟨j, hj, hjl⟩ := hex
    have : ∀ d j, j = d → j < n → listed.getD j false ≠ true → ∃ j, j ∈ Region.ready .any ops.toArray listed := by
     intro d
     induction d using Nat.strongRecOn with
     | _ d ihd =>
      intro j hd hj hjl
      subst hd
      have ho : ops[j]? = some (ops[j]'(by omega)) := List.getElem?_eq_getElem _
      by_cases hall : ∀ e ∈ (ops[j]'(by omega)).after, Region.binds .any e = true → listed.getD e.on false = true
      ·refine ⟨j, mem_ready.2 ⟨?_, ops[j]'(by omega), by simp, hall⟩⟩
       have h2 : j < listed.size := by rw [M.size]; omega
       simp only [Array.getD, h2, dite_true] at hjl ⊢
       simpa using hjl
      ·have : ∃ e ∈ (ops[j]'(by omega)).after, Region.binds .any e = true ∧ listed.getD e.on false ≠ true := by
        refine Classical.byContradiction fun hne => hall fun e he hb => ?_
        refine Classical.byContradiction fun h => hne ⟨e, he, hb, h⟩
       obtain ⟨e, he, hb, hl⟩ := this
       have hlt := ok.down j _ e ho he hb
       exact ihd e.on hlt e.on rfl (by omega) hl
    exact this j j rfl hj hjl
   obtain ⟨j0, hj0⟩ := hready
   refine ⟨fun h0 => absurd hj0 (by rw [h0]; simp), fun i hi => ?_⟩
   obtain ⟨hun, o, ho, hall⟩ := mem_ready.1 hi
   have ho' : ops[i]? = some o := by simpa using ho
   have hilt : i < ops.length := (List.getElem?_eq_some_iff.1 ho').1
   have hin : i < n := by
    rcases Nat.lt_or_ge i n with h | h
    ·exact h
    ·exfalso
     apply hdone
     have key : ∀ d j, i - j = d → j < i → listed.getD j false = true := by
      intro d
      induction d using Nat.strongRecOn with
      | _ d ihd =>
       intro j hd hji
       obtain ⟨k, hk1, hk2, hk3⟩ := ok.tail i j hilt h hji
       rcases Nat.lt_or_ge k i with hki | hki
       ·exact M.clos k j (ihd (i - k) (by omega) k rfl hki) hk3
       ·have : k = i := by omega
        subst this
        exact dL hi hk3
     exact fun j hj => key _ j rfl (by omega)
   have hu' : unl (listed.setIfInBounds i true) = fuel := by have := sS hun; omega
   have hdi : bB ops i = o.dst := by unfold bB; rw [ho']; rfl
   have hlt' : jB N o.dst := by
    cases hd : o.dst with
    | none => trivial
    | some t => exact hlt i t hin (hdi.trans hd)
   let nxt : Value → Nat → Value := fun u j => if j = i then u else vs j
   have nxt_i : ∀ u, nxt u i = u := fun u => if_pos rfl
   have nxt_ne : ∀ u j, j ≠ i → nxt u j = vs j := fun u j h => if_neg h
   have rest : ∀ u w', R i u w' → Le i w w' → ∀ j, j < n → (listed.setIfInBounds i true).getD j false = true → R j (nxt u j) w' := by
    intro u w' hu hB j hj hl
    by_cases e : j = i
    ·subst e; rw [nxt_i]; exact hu
    ·rw [nxt_ne u j e]
     rw [getD_set_ne false (Ne.symm e)] at hl
     exact hS j i _ w w' hj hin e M.cls (MR j hj hl) hB
   have step : ∀ u w', C w' → Mid N C ops n (gR F.base l) (nxt u) (listed.setIfInBounds i true) (a.put o.dst u) w' := by
    intro u w' hC
    have hlt := hlt'
    have hset : ∀ j, (listed.setIfInBounds i true).getD j false = true → j = i ∨ listed.getD j false = true := by
     intro j h
     by_cases e : i = j
     ·exact .inl e.symm
     ·rw [getD_set_ne false e] at h; exact .inr h
    have hseti : (listed.setIfInBounds i true).getD i false = true := by
     have : i < listed.size := by rw [M.size]; exact hilt
     simp [this]
    refine ⟨by simpa using M.size, ?_, ?_, ?_, ?_, ?_, ?_, hC⟩
    ·intro k j hk he
     rcases hset k hk with rfl | hk
     ·exact getD_set_true (dL hi he)
     ·exact getD_set_true (M.clos k j hk he)
    ·intro k hk
     rcases hset k hk with rfl | hk
     ·exact hin
     ·exact M.heads k hk
    ·cases hd : o.dst <;> exact M.defers
    ·cases hd : o.dst with
     | none => exact M.tsize
     | some d => simp only [Act.put, Array.size_setIfInBounds]; exact M.tsize
    ·intro j t hj hjl hd
     rcases hset j hjl with rfl | hjl'
     ·rw [hdi] at hd
      rw [hd] at hlt ⊢
      simp only [Act.put]
      rw [Array.getElem?_setIfInBounds_self_of_lt (by rw [M.tsize]; exact hlt), nxt_i]
     ·by_cases e : j = i
      ·subst e
       rw [hdi] at hd
       rw [hd] at hlt ⊢
       simp only [Act.put]
       rw [Array.getElem?_setIfInBounds_self_of_lt (by rw [M.tsize]; exact hlt), nxt_i]
      ·rw [nxt_ne u j e]
       have h1 := M.new j t hj hjl' hd
       cases hdo : o.dst with
       | none => exact h1
       | some d =>
        have hne : d ≠ t := fun e' => e (uniq j i t hj hin hd (by rw [hdi, hdo, e']))
        simp only [Act.put]
        rw [Array.getElem?_setIfInBounds_ne hne]; exact h1
    ·intro t ht
     have h1 := M.old t (fun j hj hjl => ht j hj (getD_set_true hjl))
     have h2 := ht i hin hseti
     rw [hdi] at h2
     cases hdo : o.dst with
     | none => exact h1
     | some d =>
      have hne : d ≠ t := fun e' => h2 (by rw [hdo, e'])
      simp only [Act.put]
      rw [Array.getElem?_setIfInBounds_ne hne]; exact h1
   obtain ⟨b, hb, hbt, hbf⟩ := H i o hin ho' vs w M.cls fun j t hj hd ht => by
    obtain ⟨l1, -⟩ := ok.looks i o t hin ho' ht
    exact MR j (by omega) (dL hi (l1 j (by omega) hd).2)
   have hw : Region.wanted o (yielded ops.toArray a.tmps) = b := by
    unfold gd at hb
    split at hb
    ·rename_i hg; simp only [Region.wanted, hg]; exact hb
    ·rename_i g want hg
     split at hb
     ·rename_i d hd
      split at hb
      ·rename_i bb hbb
       have hdd : bB ops g = some d := by
        unfold bB
        simp only [cM, List.getElem?_map, Option.map_eq_some_iff] at hd
        obtain ⟨x, hx, hx'⟩ := hd
        simp [hx, hx']
       obtain ⟨X, hX1, hX2⟩ := slot listed a w vs i o d M hin ho' hi (gD hg hdd)
       rw [hbb] at hX2
       cases hX2
       have : yielded ops.toArray a.tmps g = some bb := by
        unfold yielded
        unfold bB at hdd
        simp only [List.getElem?_toArray, hdd, Option.bind_some, hX1]
       simp only [Region.wanted, hg, this]
       rw [← hb]
       cases bb <;> cases want <;> rfl
      ·rename_i bb hnb hbb
       have hdd : bB ops g = some d := by
        unfold bB
        simp only [cM, List.getElem?_map, Option.map_eq_some_iff] at hd
        obtain ⟨x, hx, hx'⟩ := hd
        simp [hx, hx']
       obtain ⟨X, hX1, hX2⟩ := slot listed a w vs i o d M hin ho' hi (gD hg hdd)
       rw [hbb] at hX2
       cases hX2
       have : yielded ops.toArray a.tmps g = none := by
        unfold yielded
        unfold bB at hdd
        simp only [List.getElem?_toArray, hdd, Option.bind_some, hX1]
        split
        ·rename_i b' e; cases e; exact (hnb b' rfl).elim
        ·rfl
       simp only [Region.wanted, hg, this]
       rw [← hb]
       rfl
      ·exact hb.elim
     ·exact hb.elim
   unfold wpOp
   simp only [ho, hw]
   cases b with
   | true =>
    simp only [if_true]
    refine .inl (dG ?_)
    have hcong : execOp a.eval o = execOp (evD (dH l ops vs i)) o := by
     refine execOp_congr o (ok.sel i o ho') (fun x hx => ?_)
     cases x with
     | tmp t =>
      obtain ⟨X, hX1, hX2⟩ := slot listed a w vs i o t M hin ho' hi (lU hx)
      simp [Act.eval, evD, ev, hX1, hX2]
     | const c => rfl
     | global g => rfl
     | func f => rfl
    rw [hcong]
    exact (hbt rfl).mono fun u w' ⟨hu, hC, hB⟩ => ih _ _ _ _ hu' (step u w' hC) (rest u w' hu hB)
   | false =>
    simp only [Bool.false_eq_true, if_false]
    exact ih _ _ _ _ hu' (step undef w M.cls) (rest undef w (hbf rfl) (hLe i w))
end
section
variable {P : Program} {N : Nat} {Q : qW} {l : Env} {w : World}
theorem zEn {id : Nat} {ops : List Oper} (keys : List Nat) (n : Nat) (hm : P.follows .mixedOrders = true) (bU : nF l = keys) (hok : qZ keys ops n = true) (hlt : DLt N ops n)
  {C : World → Prop} {R : Nat → Value → World → Prop} (hC : C w.drew) {Le : Nat → World → World → Prop} (hLe : ∀ i w, Le i w w) (hS : ∀ j i u w w', j < n → i < n → j ≠ i → C w → R j u w → Le i w w' → R j u w')
  (H : ∀ i o, i < n → ops[i]? = some o → ∀ (vs : Nat → Value) (w : World), C w → (∀ j t, j < i → bB ops j = some t → t ∈ o.looksAt ops.toArray → R j (vs j) w) →
   ∃ b, gd (dH l ops vs i) (cM ops) o.guard (· = b) ∧ (b = true → Yields P (execOp (evD (dH l ops vs i)) o) w fun u w' => R i u w' ∧ C w' ∧ Le i w w') ∧ (b = false → R i undef w))
  (hT : ∀ (vs : Nat → Value) (w : World), C w → (∀ j, j < n → R j (vs j) w) → VC P N (cM ops) (fun l' w' => Q .normal l' w') (ops.drop n) (dH l ops vs n) w) : W P N (.region id ops.toArray true) Q l w := fun hk F => by
 have ok := fZ hok
 refine wp_region_any hm ?_
 have := qM9 ok F hk (fun t ht => pA (by rw [bU]; exact ht)) hlt hLe hS H (Q := qUy N Q)
  (fun vs w' hw' hR => sR F (K := fun l w => Q .normal l w) (fun l' w' hk' hK => ⟨F, l', rfl, hk', hK⟩) _ _ _ (tP hlt hk n (Nat.le_refl _)) (hT vs w' hw' hR))
  ops.length (Array.replicate ops.length false) (mk F l) w.drew (fun _ => undef) (jY _)
  ⟨by simp, (fun i j hi => by rw [getD_replicate_false] at hi; cases hi), (fun i hi => by rw [getD_replicate_false] at hi; cases hi), rfl, by simp [mk, iS, F.hN], (fun j t _ hl => by rw [getD_replicate_false] at hl; cases hl), fun t _ => rfl, hC⟩
  (fun j _ hl => by rw [getD_replicate_false] at hl; cases hl)
 simpa using this
theorem qTr {id : Nat} {ops : List Oper} (keys : List Nat) (n : Nat) (hm : P.follows .mixedOrders = true) (bU : nF l = keys) (hok : qZ keys ops n = true) (hlt : DLt N ops n)
  {C : World → Prop} {R : Nat → Value → World → Prop} (hC : C w.drew) (hS : ∀ i u w w', C w → R i u w → Below w.heap.size w w' → R i u w')
  (H : ∀ i o, i < n → ops[i]? = some o → ∀ (vs : Nat → Value) (w : World), C w → (∀ j t, j < i → bB ops j = some t → t ∈ o.looksAt ops.toArray → R j (vs j) w) →
   ∃ b, gd (dH l ops vs i) (cM ops) o.guard (· = b) ∧ (b = true → Yields P (execOp (evD (dH l ops vs i)) o) w fun u w' => R i u w' ∧ C w' ∧ Below w.heap.size w w') ∧ (b = false → R i undef w))
  (hT : ∀ (vs : Nat → Value) (w : World), C w → (∀ j, j < n → R j (vs j) w) → VC P N (cM ops) (fun l' w' => Q .normal l' w') (ops.drop n) (dH l ops vs n) w) : W P N (.region id ops.toArray true) Q l w :=
 zEn keys n hm bU hok hlt hC (Le := fun _ w w' => Below w.heap.size w w') (fun _ w => Below.refl _ _) (fun j _ u w w' _ _ _ hc hr hb => hS j u w w' hc hr hb) H hT
end
end Go.Eng
end

section
set_option linter.unusedSimpArgs false
set_option linter.unusedVariables false
namespace Go.Eng
open Go Go.RowKit

def cD : Operand → List Nat
 | .tmp t => [t]
 | _ => []
def pY : List Operand → List Nat
 | [] => []
 | x :: r => cD x ++ pY r
def mC : List (Nat × Operand) → List Nat
 | [] => []
 | (_, x) :: r => cD x ++ mC r
def qCg : Option Operand → List Nat
 | some x => cD x
 | none => []
def qEo : Callee → List Nat
 | .value x => cD x
 | _ => []
def cH : Op → List Nat
 | .move x => cD x
 | .assign x => cD x
 | .nilCheck x => cD x
 | .pick c a b => cD c ++ (cD a ++ cD b)
 | .extract x _ => cD x
 | .field _ x _ => cD x
 | .fieldAddr _ x _ => cD x
 | .load _ x => cD x
 | .unOp _ _ x => cD x
 | .convert _ _ x => cD x
 | .indexAddr _ x i => cD x ++ cD i
 | .index _ x i => cD x ++ cD i
 | .slice _ x l h none => cD x ++ (qCg l ++ qCg h)
 | .binOp _ _ x y _ => cD x ++ cD y
 | .build _ ps => mC ps.toList
 | .buildSlice _ _ ps => mC ps.toList
 | .makeSlice _ x y => cD x ++ cD y
 | .call ⟨k, args, _⟩ => qEo k ++ pY args.toList
 | _ => []
theorem iR {x : Operand} {t : Nat} (h : t ∈ cD x) : x = .tmp t := by
 cases x <;> simp [cD] at h
 subst h; rfl
theorem qEn : ∀ {l : List Operand} {t : Nat}, t ∈ pY l → Operand.tmp t ∈ l
 | [], t, h => by simp [pY] at h
 | x :: r, t, h => by
  simp only [pY, List.mem_append] at h
  rcases h with h | h
  ·rw [iR h]; exact List.mem_cons_self ..
  ·exact List.mem_cons_of_mem _ (qEn h)
theorem vB : ∀ {l : List (Nat × Operand)} {t : Nat}, t ∈ mC l → Operand.tmp t ∈ l.map (·.2)
 | [], t, h => by simp [mC] at h
 | (k, x) :: r, t, h => by
  simp only [mC, List.mem_append] at h
  rcases h with h | h
  ·rw [List.map_cons, iR h]; exact List.mem_cons_self ..
  ·rw [List.map_cons]; exact List.mem_cons_of_mem _ (vB h)
theorem qKn {x : Option Operand} {t : Nat} (h : t ∈ qCg x) : x = some (.tmp t) := by
 cases x with
 | none => simp [qCg] at h
 | some x => rw [iR h]
theorem qCc {o : Op} {t : Nat} (h : t ∈ cH o) : Operand.tmp t ∈ o.operands := by
 unfold cH at h
 split at h
 all_goals try simp only [List.mem_append] at h
 case h_13 => 
  simp only [Op.operands]
  rcases h with h | h | h
  ·rw [iR h]; simp
  ·rw [qKn h]; simp
  ·rw [qKn h]; simp
 case h_15 => simpa [Op.operands] using vB h
 case h_16 => simpa [Op.operands] using vB h
 case h_18 =>
  simp only [Op.operands, Call.operands, Array.mem_append]
  rcases h with h | h
  ·refine .inl ?_
   unfold qEo at h
   split at h
   ·rw [iR h]; simp
   ·simp at h
  ·exact .inr (by simpa using qEn h)
 case h_19 => simp at h
 all_goals
  simp only [Op.operands]
  first
  | (rw [iR h]; simp; done)
  | (rcases h with h | h <;> (rw [iR h]; simp))
  | (rcases h with h | h | h <;> (rw [iR h]; simp))
def oR (ds : List (Option Nat)) : Option (Nat × Bool) → List Nat
 | none => []
 | some (g, _) => match ds[g]? with
  | some (some d) => [d]
  | _ => []
def jM (e : bV) : List Nat → bV
 | [] => []
 | t :: r => match hlk e t with
  | some h => (t, h) :: jM e r
  | none => jM e r
theorem tC {e : bV} : ∀ {l : List Nat} {t : Nat} {h : HV}, hlk (jM e l) t = some h → t ∈ l ∧ hlk e t = some h
 | [], t, h, hh => by simp [jM, hlk] at hh
 | k :: r, t, h, hh => by
  simp only [jM] at hh
  split at hh
  ·rename_i x hx
   simp only [hlk] at hh
   by_cases ek : k = t
   ·subst ek; rw [if_pos rfl] at hh; exact ⟨List.mem_cons_self .., by rw [hx]; exact hh⟩
   ·rw [if_neg ek] at hh
    obtain ⟨a, b⟩ := tC hh
    exact ⟨List.mem_cons_of_mem _ a, b⟩
  ·obtain ⟨a, b⟩ := tC hh
   exact ⟨List.mem_cons_of_mem _ a, b⟩
def zH1 (P : Program) (f : FuncId) (args : List HV) (T : HS) (K : HV → Prop) : Prop :=
 aL P f = true ∧ ∃ h, K h ∧ ∀ (c : Ctx) (look : Nat → Option Value) (w : World) (ρ : Nat → Value) (xs : Nat → List Value) (vs : List Value), Good c T look w ρ xs → mX w (c.A ρ T.st) c.n0 ρ vs args →
  Calls P f vs.toArray w (Ret fun u w' => RepH w' (c.A ρ T.st) c.n0 ρ u h ∧ Below w.heap.size w w')
def jT : bV → Bool
 | [] => true
 | (_, .v _) :: r => jT r
 | (_, .lst _ _) :: r => jT r
 | (_, .agg _) :: r => jT r
 | _ => false
def qYl (d : Option Nat) (S : HS) (K : HS → Prop) : HOut → Prop
 | .go c (.own i) S' => match rlk S'.st i with
  | some (.sl _ _ _ els) => c ∧ K (S.set d (.lst true els))
  | _ => False
 | _ => False
def zFg : Op → Bool
 | .buildSlice .. => true
 | .makeSlice .. => true
 | _ => false
def tU (P : Program) (o : Oper) (S T : HS) (K : HS → Prop) : HOut → Prop
 | .go c h _ => match cZ o.op with
  | true => c ∧ K (S.set o.dst h)
  | false => match zFg o.op && jT T.env with
   | true => qYl o.dst S K (hop P ⟨T.env, []⟩ (yR o.dst) o.op)
   | false => False
 | .call f args => zH1 P f args T (fun x => lE K (S.set o.dst x))
 | .eqn t x y neg => ∃ r, EqR P t x.toArray y.toArray r ∧ lE K (S.set o.dst (.v (.bool (neg ^^ r))))
 | .bytes _ _ => False
 | .bad => False
def qVv (P : Program) (N : Nat) (o : Oper) (S T : HS) (K : HS → Prop) : Prop := match dM N o.dst with
 | true => tU P o S T K (hop P T (yR o.dst) o.op)
 | false => False
def qB2 (P : Program) (N : Nat) (o : Oper) (S T : HS) (K : HS → Prop) : GOut → Prop
 | .yes => qVv P N o S T K
 | .no => jJ N o.dst S K
 | .ask d b want => match b == want with
  | true => qVv P N o (S.rep d (.v (.bool want))) (T.rep d (.v (.bool want))) K
  | false => jJ N o.dst (S.rep d (.v (.bool (!want)))) K
 | .bad => False
def HVr (P : Program) (N : Nat) (ds : List (Option Nat)) (K : HS → Prop) : List Oper → HS → Prop
 | [], S => K S
 | o :: rest, S => qB2 P N o S ⟨jM S.env (oR ds o.guard ++ cH o.op), S.st⟩ (HVr P N ds K rest) (hG (jM S.env (oR ds o.guard ++ cH o.op)) ds o.guard)
end Go.Eng
end

section
set_option linter.unusedSimpArgs false
set_option linter.unusedVariables false
namespace Go.Eng
open Go Go.RowKit
section
variable {P : Program} {N : Nat} {c : Ctx} {S T : HS} {Q : eV} {l : Env} {look : Nat → Option Value} {w w' : World} {ρ : Nat → Value} {xs : Nat → List Value} {K : HS → Prop}
theorem RepH.above {A : Nat → Prop} {n0 : Nat} {v : Value} {x : HV} (h : RepH w A n0 ρ v x) (B : Below w.heap.size w w') : RepH w' A n0 ρ v x := h.up B.size (fun b hlt _ => B.block b hlt) (fun b _ h => h) (Nat.le_refl _)
theorem tL {d : Nat} {h : HV} : ∀ {E : bV}, hlk E d = some h → ∀ k, hlk (sE d h E) k = hlk E k
 | [], e, k => by simp [hlk] at e
 | (j, x) :: r, e, k => by
  simp only [hlk] at e
  simp only [sE]
  by_cases ej : j = d
  ·rw [if_pos ej] at e ⊢
   simp only [Option.some.injEq] at e
   subst e; rfl
  ·rw [if_neg ej] at e ⊢
   simp only [hlk, tL e k]
theorem Good.sameEnv {E : bV} {st : aM} (G : Good c ⟨E, st⟩ look w ρ xs) {E' : bV} (h : ∀ k, hlk E' k = hlk E k) : Good c ⟨E', st⟩ look w ρ xs := ⟨G.rows, G.apart, fun k x hk => G.env k x (by rw [← h k]; exact hk), G.kept, G.a0⟩
theorem qT6 (G : Good c T (lk l) w ρ xs) {id i : Nat} {o : Op} {ty : TypeId} {cnd : Prop} {S' : HS} (hp : jT T.env = true) (h : hop P ⟨T.env, []⟩ id o = .go cnd (.own i) S') {nw : Bool} {t sz : Nat} {els : List (List FV)} (hr : rlk S'.st i = some (.sl nw t sz els)) (hc : cnd) :
  bM P l o ty w (fun u w' => RepH w' (c.A ρ T.st) c.n0 ρ u (.lst true els) ∧ Below w.heap.size w w') (fun u w' => RepH w' (c.A ρ T.st) c.n0 ρ u (.lst true els) ∧ Below w.heap.size w w') := by
 have hA : ∀ b, c.A ρ T.st b → b < w.heap.size := by
  rintro b (h0 | ⟨i, r, hi, hb⟩)
  ·have := (G.a0 b h0).1; have := G.kept.size; omega
  ·exact G.lt hi hb
 have G2 : Good ⟨w, fun _ => False, c.A ρ T.st, c.n0, Nat.le_trans c.hn G.kept.size, fun _ _ => False⟩ ⟨T.env, []⟩ (lk l) w ρ xs := by
  refine ⟨fun id r hr => by simp [rlk] at hr, fun i j r s b hne hi => by simp [rlk] at hi, fun k x hk => ?_, Kept.refl _ _, fun b hb => ⟨hA b hb, fun h => h⟩⟩
  obtain ⟨u, h1, h2⟩ := G.env k _ hk
  refine ⟨u, h1, h2.up (Nat.le_refl _) (fun _ _ _ => rfl) (fun b _ hb => ?_) (Nat.le_refl _)⟩
  rcases hb with hb | ⟨i, r, hi, -⟩
  ·exact hb
  ·simp [rlk] at hi
 refine bY (qKk G2 (bS _ _) h hc) fun u w' ⟨ρ2, xs2, G3, r⟩ => ?_
 have B : Below w.heap.size w w' := G3.kept.below (fun _ _ h => h)
 refine ⟨?_, B⟩
 cases r
 obtain ⟨o1, o2, o3⟩ := dC G3 hr
 have R0 := G3.rows i _ hr
 refine .lst (xK o1 o2 (fun p k hp hk => ?_) (fun b hb => ?_))
 ·obtain ⟨u, a, b, d⟩ := o3 p k hp hk
  exact ⟨u, a, b, d.up (Nat.le_refl _) (fun _ _ _ => rfl) (fun b _ h => .inl h) (Nat.le_refl _)⟩
 ·rcases (R0.new b hb).1 with h | h
  ·have h : w.heap.size ≤ b := h
   exact ⟨fun hA' => by have := hA b hA'; omega, fun _ => by have := c.hn; have := G.kept.size; omega⟩
  ·exact h.elim
theorem qNm {o : Oper} (h : qVv P N o S T K) : jB N o.dst ∧ ∃ x, K (S.set o.dst x) ∧ ∀ (c : Ctx) (l : Env) (w : World) (ρ : Nat → Value) (xs : Nat → List Value), Good c T (lk l) w ρ xs →
  bM P l o.op o.type w (fun u w' => RepH w' (c.A ρ T.st) c.n0 ρ u x ∧ Below w.heap.size w w') (fun u w' => RepH w' (c.A ρ T.st) c.n0 ρ u x ∧ Below w.heap.size w w') := by
 unfold qVv at h
 split at h
 ·rename_i hd
  refine ⟨gG hd, ?_⟩
  cases ho : hop P T (yR o.dst) o.op with
  | go c' hv S' =>
   rw [ho] at h
   unfold tU at h
   dsimp only at h
   split at h
   ·rename_i hq
    obtain ⟨h0, h1⟩ := h
    refine ⟨hv, h1, fun c l w ρ xs G => ?_⟩
    obtain ⟨v, hK, hv'⟩ := zAk (ty := o.type) (qEg (ty := 0) G (bS _ _) ho hq h0)
    exact bY (hv' w (Below.refl _ _)) fun u w' ⟨e, B⟩ => by subst e; exact ⟨hK.2.2.above B, B⟩
   ·split at h
    ·rename_i hm
     simp only [Bool.and_eq_true] at hm
     unfold qYl at h
     split at h
     ·rename_i c2 i S2 hm2
      split at h
      ·rename_i nw t sz els hr
       exact ⟨_, h.2, fun c l w ρ xs G => qT6 G hm.2 hm2 hr h.1⟩
      ·exact h.elim
     ·exact h.elim
    ·exact h.elim
  | call f args =>
   rw [ho] at h
   obtain ⟨hf, x, hK, hc⟩ := h
   refine ⟨x, hK, fun c l w ρ xs G => ?_⟩
   obtain ⟨y, as, ats, e, hfn, has⟩ := qGs ho
   rw [e]
   obtain ⟨vs, e1, e2, e3⟩ := G.evs (bS _ _) has
   unfold bM
   simp only [aX, cC, e1, G.fn (bS _ _) hfn]
   exact ⟨hf, hc c (lk l) w ρ xs vs G ⟨e2, e3⟩⟩
  | eqn t x y neg =>
   rw [ho] at h
   obtain ⟨r, h1, h2⟩ := h
   refine ⟨_, h2, fun c l w ρ xs G => ?_⟩
   exact bY (qEh G (bS _ l) ho h1) fun v w' ⟨e, _, r⟩ => by subst e; exact ⟨r, Below.refl _ _⟩
  | bytes ok s => rw [ho] at h; exact h.elim
  | bad => rw [ho] at h; exact h.elim
 ·exact h.elim
def FrOk (ops : List Oper) (E0 : bV) (hs : Nat → HV) (i : Nat) (E : bV) : Prop := ∀ t h, hlk E t = some h → (∃ j, j < i ∧ bB ops j = some t ∧ hs j = h) ∨ ((∀ j, j < i → bB ops j ≠ some t) ∧ hlk E0 t = some h)
theorem FrOk.congr {ops : List Oper} {E0 E : bV} {hs hs' : Nat → HV} {i : Nat} (h : FrOk ops E0 hs i E) (he : ∀ j, j < i → hs' j = hs j) : FrOk ops E0 hs' i E := fun t x hx => by
 rcases h t x hx with ⟨j, a, b, d⟩ | r
 ·exact .inl ⟨j, a, b, by rw [he j a]; exact d⟩
 ·exact .inr r
theorem FrOk.env {ops : List Oper} {E0 E E' : bV} {hs : Nat → HV} {i : Nat} (h : FrOk ops E0 hs i E) (he : ∀ t x, hlk E' t = some x → hlk E t = some x) : FrOk ops E0 hs i E' := fun t x hx => h t x (he t x hx)
theorem FrOk.set {ops : List Oper} {E0 : bV} {hs : Nat → HV} {i : Nat} {S : HS} (h : FrOk ops E0 hs i S.env) {o : Oper} (ho : ops[i]? = some o) : FrOk ops E0 hs (i + 1) (S.set o.dst (hs i)).env := by
 have hd : bB ops i = o.dst := by unfold bB; rw [ho]; rfl
 intro t x hx
 cases e : o.dst with
 | none =>
  rw [e] at hx hd
  rcases h t x hx with ⟨j, a, b, d⟩ | ⟨a, b⟩
  ·exact .inl ⟨j, by omega, b, d⟩
  ·refine .inr ⟨fun j hj => ?_, b⟩
   by_cases ej : j = i
   ·subst ej; rw [hd]; simp
   ·exact a j (by omega)
 | some d =>
  rw [e] at hx hd
  simp only [HS.set, hlk] at hx
  by_cases et : d = t
  ·rw [if_pos et] at hx
   simp only [Option.some.injEq] at hx
   exact .inl ⟨i, by omega, by rw [hd, et], hx⟩
  ·rw [if_neg et] at hx
   rcases h t x hx with ⟨j, a, b, d'⟩ | ⟨a, b⟩
   ·exact .inl ⟨j, by omega, b, d'⟩
   ·refine .inr ⟨fun j hj => ?_, b⟩
    by_cases ej : j = i
    ·subst ej; rw [hd]; simpa using et
    ·exact a j (by omega)
structure HeadOk (P : Program) (N : Nat) (ops : List Oper) (E0 : bV) (st : aM) (hs : Nat → HV) (i : Nat) (o : Oper) : Prop where
 lt : jB N o.dst
 head : ∃ T : bV, FrOk ops E0 hs i T ∧ (∀ t h, hlk T t = some h → t ∈ oR (cM ops) o.guard ++ cH o.op) ∧ ∀ (c : Ctx) (l : Env) (w : World) (ρ : Nat → Value) (xs : Nat → List Value), Good c ⟨T, st⟩ (lk l) w ρ xs →
  ∃ b, gd l (cM ops) o.guard (· = b) ∧ (b = true → bM P l o.op o.type w (fun u w' => RepH w' (c.A ρ st) c.n0 ρ u (hs i) ∧ Below w.heap.size w w') (fun u w' => RepH w' (c.A ρ st) c.n0 ρ u (hs i) ∧ Below w.heap.size w w')) ∧ (b = false → hs i = .v undef)
theorem qJ4 {d : Option Nat} (h : jJ N d S K) : jB N d ∧ K (S.set d (.v undef)) := by
 unfold jJ at h
 split at h
 ·rename_i hd; exact ⟨gG hd, h⟩
 ·exact h.elim
theorem pU {ops : List Oper} {E0 : bV} {st : aM} : ∀ (rest : List Oper) (i : Nat) (S : HS) (hs0 : Nat → HV), (∀ k o, rest[k]? = some o → ops[i + k]? = some o) → S.st = st → FrOk ops E0 hs0 i S.env → HVr P N (cM ops) K rest S →
  ∃ hs, (∀ j, j < i → hs j = hs0 j) ∧ (∀ k o, rest[k]? = some o → HeadOk P N ops E0 st hs (i + k) o) ∧ ∃ S', S'.st = st ∧ FrOk ops E0 hs (i + rest.length) S'.env ∧ K S'
 | [], i, S, hs0, hops, hst, F, h => ⟨hs0, fun _ _ => rfl, fun k o hk => by simp at hk, S, hst, F, h⟩
 | o :: rest, i, S, hs0, hops, hst, F, h => by
  have hoi : ops[i]? = some o := hops 0 o (by simp)
  rw [HVr] at h
  generalize hT : jM S.env (oR (cM ops) o.guard ++ cH o.op) = T at h
  have TF : ∀ t x, hlk T t = some x → t ∈ oR (cM ops) o.guard ++ cH o.op ∧ hlk S.env t = some x := fun t x hx => by subst hT; exact tC hx
  have key : ∀ (S1 : HS) (x : HV), S1.st = st → FrOk ops E0 hs0 i S1.env → HVr P N (cM ops) K rest (S1.set o.dst x) → jB N o.dst →
    (∀ (c : Ctx) (l : Env) (w : World) (ρ : Nat → Value) (xs : Nat → List Value), Good c ⟨T, st⟩ (lk l) w ρ xs →
     ∃ b, gd l (cM ops) o.guard (· = b) ∧ (b = true → bM P l o.op o.type w (fun u w' => RepH w' (c.A ρ st) c.n0 ρ u x ∧ Below w.heap.size w w') (fun u w' => RepH w' (c.A ρ st) c.n0 ρ u x ∧ Below w.heap.size w w')) ∧ (b = false → x = .v undef)) →
    ∃ hs, (∀ j, j < i → hs j = hs0 j) ∧ (∀ k o', (o :: rest)[k]? = some o' → HeadOk P N ops E0 st hs (i + k) o') ∧ ∃ S', S'.st = st ∧ FrOk ops E0 hs (i + (o :: rest).length) S'.env ∧ K S' := by
   intro S1 x hst1 F1 hK hlt hrun
   let hs1 : Nat → HV := fun j => if j = i then x else hs0 j
   have e1 : hs1 i = x := if_pos rfl
   have e2 : ∀ j, j < i → hs1 j = hs0 j := fun j hj => if_neg (by omega)
   have F2 : FrOk ops E0 hs1 (i + 1) (S1.set o.dst x).env := by
    have := (F1.congr e2).set hoi
    rw [e1] at this; exact this
   obtain ⟨hs, a, b, S', d, e, f⟩ := pU rest (i + 1) (S1.set o.dst x) hs1 (fun k o' hk => by
    have := hops (k + 1) o' (by simpa using hk)
    rw [show i + 1 + k = i + (k + 1) by omega]; exact this) (by cases o.dst <;> exact hst1) F2 hK
   have ei : hs i = x := by rw [a i (by omega), e1]
   have ej : ∀ j, j < i → hs j = hs0 j := fun j hj => by rw [a j (by omega), e2 j hj]
   refine ⟨hs, ej, fun k o' hk => ?_, S', d, ?_, f⟩
   ·cases k with
    | zero =>
     simp only [List.getElem?_cons_zero, Option.some.injEq] at hk
     subst hk
     exact ⟨hlt, T, (F.congr ej).env (fun t x hx => (TF t x hx).2), fun t x hx => (TF t x hx).1, by rw [Nat.add_zero, ei]; exact hrun⟩
    | succ k =>
     have := b k o' (by simpa using hk)
     rw [show i + 1 + k = i + (k + 1) by omega] at this; exact this
   ·rw [List.length_cons, show i + (rest.length + 1) = i + 1 + rest.length by omega]; exact e
  cases hg : hG T (cM ops) o.guard with
  | yes =>
   rw [hg] at h
   obtain ⟨hlt, x, hK, hv⟩ := qNm h
   refine key S x hst F hK hlt fun c l w ρ xs G => ⟨true, qPr (S := ⟨T, st⟩) hg rfl, fun _ => ?_, fun e => by cases e⟩
   have := hv c l w ρ xs (by rw [hst]; exact G)
   rw [hst] at this; exact this
  | no =>
   rw [hg] at h
   obtain ⟨hlt, hK⟩ := qJ4 h
   exact key S _ hst F hK hlt fun c l w ρ xs G => ⟨false, zCu (S := ⟨T, st⟩) ⟨ρ, xs, G⟩ hg rfl, fun e => (by cases e), fun _ => rfl⟩
  | ask d b want =>
   rw [hg] at h
   obtain ⟨j, hj, hd, hb⟩ := zCs (S := ⟨T, st⟩) hg
   have hbS := (TF d _ hb).2
   simp only [qB2] at h
   split at h
   ·rename_i e
    have e' : b = want := by simpa using e
    subst e'
    obtain ⟨hlt, x, hK, hv⟩ := qNm h
    refine key (S.rep d (.v (.bool b))) x hst (F.env fun t x hx => by rw [← tL hbS t]; exact hx) hK hlt fun c l w ρ xs G => ⟨true, (wL (S := ⟨T, st⟩) ⟨ρ, xs, G⟩ hg (k := (· = true)) e).1, fun _ => ?_, fun e => by cases e⟩
    have := hv c l w ρ xs (by rw [hst]; exact G.sameEnv (tL hb))
    simp only [HS.rep] at this
    rw [hst] at this; exact this
   ·rename_i e
    have e' : b = !want := by cases b <;> cases want <;> simp_all
    subst e'
    obtain ⟨hlt, hK⟩ := qJ4 h
    exact key (S.rep d (.v (.bool (!want)))) _ hst (F.env fun t x hx => by rw [← tL hbS t]; exact hx) hK hlt fun c l w ρ xs G => ⟨false, (wL (S := ⟨T, st⟩) ⟨ρ, xs, G⟩ hg (k := (· = false)) e).1, fun e => (by cases e), fun _ => rfl⟩
  | bad => rw [hg] at h; exact h.elim
end
end Go.Eng
end

section
set_option linter.unusedSimpArgs false
set_option linter.unusedVariables false
namespace Go.Eng
open Go Go.RowKit
section
variable {P : Program} {N : Nat} {c : Ctx} {S T : HS} {Q : eV} {l : Env} {look : Nat → Option Value} {w w' : World} {ρ : Nat → Value} {xs : Nat → List Value} {K : HS → Prop}
theorem nE {ops : List Oper} {o : Oper} {t : Nat} (h : t ∈ oR (cM ops) o.guard ++ cH o.op) : t ∈ o.looksAt ops.toArray := by
 rcases List.mem_append.1 h with h | h
 ·cases hg : o.guard with
  | none => rw [hg] at h; simp [oR] at h
  | some p =>
   obtain ⟨g, b⟩ := p
   rw [hg] at h
   simp only [oR] at h
   split at h
   ·rename_i d hd
    simp only [List.mem_singleton] at h
    subst h
    refine gD hg ?_
    unfold bB
    simp only [cM, List.getElem?_map, Option.map_eq_some_iff] at hd
    obtain ⟨x, hx, hx'⟩ := hd
    simp [hx, hx']
   ·simp at h
 ·exact lU (qCc h)
theorem iY {x : HV} {k : Nat} : ∀ {e : bV}, hlk e k = some x → k ∈ bU e
 | [], h => by simp [hlk] at h
 | (j, y) :: r, h => by
  simp only [hlk] at h
  by_cases ej : j = k
  ·simp [bU, ej]
  ·rw [if_neg ej] at h
   have := iY h
   simp only [bU, List.map_cons, List.mem_cons]
   exact .inr this
theorem kG {id : Nat} {ops : List Oper} (n : Nat) (hm : P.follows .mixedOrders = true) (hok : qZ (bU S.env) ops n = true)
  (h : ∀ K : HS → Prop, (∀ S', Q .normal S' → K S') → HVr P N (cM ops) (fun S' => lE (HV2 P N (cM ops) K (ops.drop n)) S') (ops.take n) S) : HW P N (.region id ops.toArray true) Q S := fun c l w I => by
 have hks : ∀ k ∈ bU S.env, ∃ v, lk l k = some v := fun k hk => by
  obtain ⟨x, hx⟩ := iZ hk
  obtain ⟨ρ, xs, G⟩ := I
  obtain ⟨v, h1, -⟩ := G.env k x hx
  exact ⟨v, h1⟩
 refine wV (bU S.env) ?_
 have I' : Inv c S (lk (keep (bU S.env) l)) w := I.agree fun k x hk => kC (iY hk)
 have hkk : nF (keep (bU S.env) l) = bU S.env := jV hks
 generalize keep (bU S.env) l = l' at I' hkk
 obtain ⟨ρ, xs, G⟩ := I'
 have ok := fZ hok
 have hlen : (ops.take n).length = n := by rw [List.length_take]; have := ok.hn; omega
 have get_take : ∀ {i : Nat} {o : Oper}, (ops.take n)[i]? = some o → i < n ∧ ops[i]? = some o := fun {i o} h => by
  have hi := (List.getElem?_eq_some_iff.1 h).1
  rw [hlen] at hi
  rw [List.getElem?_take_of_lt hi] at h
  exact ⟨hi, h⟩
 obtain ⟨hs, -, heads, S1, e1, F1, h1⟩ := pU (E0 := S.env) (st := S.st) (ops.take n) 0 S (fun _ => .junk) (fun k o hk => by rw [Nat.zero_add]; exact (get_take hk).2) rfl (fun t x hx => .inr ⟨fun j hj => absurd hj (Nat.not_lt_zero _), hx⟩) (h (Q .normal) fun _ h => h)
 rw [hlen, Nat.zero_add] at F1
 have head : ∀ i o, i < n → ops[i]? = some o → HeadOk P N ops S.env S.st hs i o := fun i o hi ho => by
  have := heads i o (by rw [List.getElem?_take_of_lt hi]; exact ho)
  rw [Nat.zero_add] at this; exact this
 have uniq : ∀ i j t, i < n → j < n → bB ops i = some t → bB ops j = some t → i = j := by
  intro i j t hi hj h1 h2
  rcases Nat.lt_trichotomy i j with h | h | h
  ·rcases ok.uniq j i hj h with e | e
   ·rw [h2] at e; cases e
   ·exact absurd (h2.trans h1.symm) e
  ·exact h
  ·rcases ok.uniq i j hi h with e | e
   ·rw [h1] at e; cases e
   ·exact absurd (h1.trans h2.symm) e
 have hlt : DLt N ops n := fun i t hi hd => by
  obtain ⟨o, ho, hod⟩ := mU hd
  have := (head i o hi ho).lt
  rw [hod] at this; exact this
 -- what a frame of the heads' names reads
 have frame : ∀ (vs : Nat → Value) (w' : World) (i : Nat) (E : bV), i ≤ n → Below w.heap.size w w' → FrOk ops S.env hs i E →
   (∀ j t x, j < i → bB ops j = some t → hlk E t = some x → RepH w' (c.A ρ S.st) c.n0 ρ (vs j) (hs j)) → Good c ⟨E, S.st⟩ (lk (dH l' ops vs i)) w' ρ xs := fun vs w' i E hi hB F hv => by
  have GB := G.below hB
  refine ⟨GB.rows, GB.apart, fun k x hk => ?_, GB.kept, GB.a0⟩
  rcases F k x hk with ⟨j, a, b, d⟩ | ⟨a, b⟩
  ·refine ⟨vs j, (iC (l := l') (vs := vs) hlt (base := Array.replicate N undef) (by simp) b (fun q hq hne e => hne (uniq q j k hq (by omega) e b)) i hi a).1, ?_⟩
   rw [← d]; exact hv j k x a b hk
  ·obtain ⟨v, v1, v2⟩ := GB.env k x b
   exact ⟨v, by rw [(gF (l := l') (vs := vs) #[] k i a).1]; exact v1, v2⟩
 refine qTr (bU S.env) n hm hkk hok hlt (C := fun w' => Below w.heap.size w w') (R := fun j u w' => RepH w' (c.A ρ S.st) c.n0 ρ u (hs j)) (Below.refl _ _).drew (fun i u w1 w2 _ hr hB => hr.above hB) ?_ ?_
 ·intro i o hi ho vs w1 hC hR
  obtain ⟨T, TF, TS, run⟩ := (head i o hi ho).head
  have GT : Good c ⟨T, S.st⟩ (lk (dH l' ops vs i)) w1 ρ xs := frame vs w1 i T (by omega) hC TF fun j t x hj hd hx => hR j t hj hd (nE (TS t x hx))
  obtain ⟨b, b1, b2, b3⟩ := run c _ w1 ρ xs GT
  refine ⟨b, b1, fun hb => ?_, fun hb => ?_⟩
  ·exact (gK (fun x X hx => by simp [evD, hx]) (b2 hb)).mono fun u w2 ⟨hu, hB⟩ => ⟨hu, hC.trans (hB.mono hC.size), hB⟩
  ·rw [b3 hb]; exact .v _
 ·intro vs w1 hC hR
  obtain ⟨E1, st1⟩ := S1
  have e1 : st1 = S.st := e1
  subst e1
  have G1 := frame vs w1 n E1 (Nat.le_refl _) hC F1 fun j t x hj _ _ => hR j hj
  exact HW_drw.V2.mono' (qB1 _ _ _ _ h1 ⟨ρ, xs, G1⟩) fun l2 w2 h2 => h2
theorem jN {f : FuncId} {args args' : List HV} {x : Value} {K : HV → Prop} (hc : aL P f = true) (H : HFun P f args' (fun h st => h = .v x)) (hl : Lends T.st args args') (hK : K (.v x)) : zH1 P f args T K :=
 ⟨hc, .v x, hK, fun c look w ρ xs vs G R => Ret.mono (H w vs (tH G R hl)) fun v w' ⟨B, h, st, h8, q, ρ', xs', G', hr⟩ => ⟨by subst q; have := bN hr; subst this; exact .v _, B⟩⟩
end
end Go.Eng
end

section
set_option linter.unusedSimpArgs false
set_option linter.unusedVariables false
namespace Go.Eng
open Go Go.RowKit
section
variable {P : Program} {T : HS}
end
end Go.Eng
end

section
set_option linter.unusedSimpArgs false
set_option linter.unusedVariables false
namespace Go.Eng
open Go Go.RowKit
theorem zS (t : Nat) : hlk [] t = none := nr rfl
theorem zM (k : Nat) (v : HV) (r : bV) (t : Nat) : hlk ((k, v) :: r) t = if k = t then some v else hlk r t := nr rfl
theorem zX (t : Nat) : rlk [] t = none := nr rfl
theorem zU (k : Nat) (v : Row) (r : aM) (t : Nat) : rlk ((k, v) :: r) t = if k = t then some v else rlk r t := nr rfl
theorem qXo (l : bV) (t : Nat) : hev l (.tmp t) = hlk l t := nr rfl
theorem qMc (l : bV) (v : Value) : hev l (.const v) = some (.v v) := nr rfl
theorem qGw (l : bV) (g : Nat) : hev l (.global g) = some (.v (.pointer (some ⟨g, 0, none⟩))) := nr rfl
theorem qSf (l : bV) (f : FuncId) : hev l (.func f) = some (.v (.func (.func f) #[] #[])) := nr rfl
theorem qSe (l : bV) : kZ l [] = some [] := nr rfl
theorem qMb (l : bV) (x : Operand) (r : List Operand) : kZ l (x :: r) = match hev l x with | some v => (match kZ l r with | some vs => some (v :: vs) | none => none) | none => none := nr rfl
theorem zB5 (x : Value) : qBe (some (.v x)) = some x := nr rfl
theorem qLl  : qBe none = none := nr rfl
theorem qRi (fr : Bool) (xs : List (List FV)) : qBe (some (.lst fr xs)) = none := nr rfl
theorem qRh (i : Nat) : qBe (some (.own i)) = none := nr rfl
theorem qRg (i s j k : Nat) : qBe (some (.ptr i s j k)) = none := nr rfl
theorem qRj (fr : Bool) (xs : List (List FV)) (s j k : Nat) : qBe (some (.elt fr xs s j k)) = none := nr rfl
theorem qRk (cs : List HV) : qBe (some (.agg cs)) = none := nr rfl
theorem qRf (cs : List HV) : qBe (some (.tup cs)) = none := nr rfl
theorem qW1 (i s o n : Nat) : qBe (some (.vw i s o n)) = none := nr rfl
theorem qLm  : qBe (some .junk) = none := nr rfl
theorem qHn (S : HS) (id : Nat) (P : Program) (o : Op) (c : Prop) (v : Value) : zF S id P o (some (c, v)) = .go c (.v v) S := nr rfl
theorem qHo (S : HS) (id : Nat) (P : Program) (o : Op) : zF S id P o none = gU P S id o := nr rfl
theorem zCi (P : Program) (S : HS) (id : Nat) (o : Op) : hop P S id o = zF S id P o (aX P (lo S.env) o) := nr rfl
theorem qMf (P : Program) (S : HS) (id : Nat) (x : Operand) : gU P S id (.move x) = rB S (hev S.env x) := nr rfl
theorem qCz (P : Program) (S : HS) (id : Nat) (x : Operand) : gU P S id (.assign x) = rB S (hev S.env x) := nr rfl
theorem qMd (P : Program) (S : HS) (id : Nat) (c a b : Operand) : gU P S id (.pick c a b) = qAa S (hev S.env c) (hev S.env a) (hev S.env b) := nr rfl
theorem yY (P : Program) (S : HS) (id : Nat) (x : Operand) (i : Nat) : gU P S id (.extract x i) = jG S i (hev S.env x) := nr rfl
theorem qG2 (P : Program) (S : HS) (id : Nat) (t : TypeId) (x : Operand) (f : Nat) : gU P S id (.field t x f) = oK S (uN P t f) (hev S.env x) := nr rfl
theorem qG3 (P : Program) (S : HS) (id : Nat) (t : TypeId) (x : Operand) (f : Nat) : gU P S id (.fieldAddr t x f) = oL S (eW P t f) (hev S.env x) := nr rfl
theorem qMe (P : Program) (S : HS) (id : Nat) (x : Operand) : gU P S id (.nilCheck x) = qJ8 S (hev S.env x) := nr rfl
theorem qG1 (P : Program) (S : HS) (id : Nat) (t : TypeId) (x i : Operand) : gU P S id (.indexAddr t x i) = jW S (cF P t) (qNp P t) (hev S.env x) (hev S.env i) := nr rfl
theorem qGy (P : Program) (S : HS) (id : Nat) (t : TypeId) (x : Operand) (l h : Option Operand) : gU P S id (.slice t x l h none) = mN S (cF P t) l h (hev S.env x) := nr rfl
theorem qMg (P : Program) (S : HS) (id : Nat) (t : TypeId) (x : Operand) : gU P S id (.load t x) = nP S (cJ P t) (hev S.env x) := nr rfl
theorem qGx (P : Program) (S : HS) (id : Nat) (t : TypeId) (x y : Operand) : gU P S id (.store t x y) = sG S (cJ P t) (hev S.env x) (hev S.env y) := nr rfl
theorem qG7 (P : Program) (S : HS) (id : Nat) (t : TypeId) : gU P S id (.alloc t) = sJ S id t (fR P t) := nr rfl
theorem qSj (P : Program) (S : HS) (id : Nat) (t : TypeId) (x : Operand) : gU P S id (.box t x) = qSz S id t (hev S.env x) := nr rfl
theorem qG6 (P : Program) (S : HS) (id : Nat) (t : TypeId) (ps : Array (Nat × Operand)) : gU P S id (.build t ps) = qQ S (dQ P t) (fW P t) (fR P t) (iG S.env ps.toList) := nr rfl
theorem qCy (P : Program) (S : HS) (id : Nat) (t n : TypeId) (ps : Array (Nat × Operand)) : gU P S id (.buildSlice t n ps) = nV S id n (oT P t) (iG S.env ps.toList) := nr rfl
theorem qGz (P : Program) (S : HS) (id : Nat) (t : TypeId) (x y : Operand) : gU P S id (.makeSlice t x y) = qC7 S id (oT P t) (hev S.env x) (hev S.env y) := nr rfl
theorem qSh (P : Program) (S : HS) (id : Nat) (args : Array Operand) (ats : Array TypeId) : gU P S id (.call ⟨.builtin .len, args, ats⟩) = match kZ S.env args.toList with | some [h] => qHu S (bZ ((cF P (eH ats)).isSome = true ∧ ats.size = 1)) (some h) | _ => .bad := nr rfl
theorem qSk (P : Program) (S : HS) (id : Nat) (args : Array Operand) (ats : Array TypeId) : gU P S id (.call ⟨.builtin .append, args, ats⟩) = lN S id (ats == #[eH ats, eH ats]) (zAv P ats) (oT P (eH ats)) (kZ S.env args.toList) := nr rfl
theorem qG5 (P : Program) (S : HS) (id : Nat) (f : FuncId) (args : Array Operand) (ats : Array TypeId) : gU P S id (.call ⟨.value (.func f), args, ats⟩) = qDc f (kZ S.env args.toList) := nr rfl
theorem qSi (P : Program) (S : HS) (id : Nat) (t : TypeId) (x y : Operand) (u : TypeId) : gU P S id (.binOp .eql t x y u) = hEq S (qDm P t) t false (hev S.env x) (hev S.env y) := nr rfl
theorem qSg (P : Program) (S : HS) (id : Nat) (t : TypeId) (x y : Operand) (u : TypeId) : gU P S id (.binOp .neq t x y u) = hEq S (qDm P t) t true (hev S.env x) (hev S.env y) := nr rfl
theorem qMi (P : Program) (S : HS) (id : Nat) (s d : TypeId) (x : Operand) : gU P S id (.convert s d x) = nU S (sQ P s d) (qJy P s d) (hev S.env x) := nr rfl
theorem qSp (S : HS) (h : HV) : rB S (some h) = .go True h S := nr rfl
theorem qSm (S : HS) (t : Bool) (a b : HV) : qAa S (some (.v (.bool t))) (some a) (some b) = .go True (bif t then a else b) S := nr rfl
theorem qC9 (S : HS) (i : Nat) (hs : List HV) : jG S i (some (.tup hs)) = match hs[i]? with | some h => .go True h S | none => .bad := nr rfl
theorem qG0 (P : Program) (S : HS) (id : Nat) (t : TypeId) (x i : Operand) : gU P S id (.index t x i) = lL S (qTp P t) (hev S.env x) (hev S.env i) := nr rfl
theorem qC8 (S : HS) (m : Nat) (hs : List HV) (k : IntKind) (n : Int) : lL S (some m) (some (.agg hs)) (some (.v (.int k n))) = match hs[n.toNat]? with | some h => .go (bZ (0 ≤ n ∧ n < m)) h S | none => .bad := nr rfl
theorem qH6 (S : HS) (off : Nat) (hs : List HV) : oK S (some (off, none)) (some (.agg hs)) = match hs[off]? with | some h => .go True h S | none => .bad := nr rfl
theorem qH5 (S : HS) (off n : Nat) (hs : List HV) : oK S (some (off, some n)) (some (.agg hs)) = .go (bZ (off + n ≤ hs.length)) (.agg ((hs.drop off).take n)) S := nr rfl
theorem qH7 (S : HS) (off id sz i k : Nat) : oL S (some off) (some (.ptr id sz i k)) = .go True (.ptr id sz i (k + off)) S := nr rfl
theorem qH8 (S : HS) (off : Nat) (fr : Bool) (xs : List (List FV)) (sz i k : Nat) : oL S (some off) (some (.elt fr xs sz i k)) = .go True (.elt fr xs sz i (k + off)) S := nr rfl
theorem qSn (S : HS) (id sz i k : Nat) : qJ8 S (some (.ptr id sz i k)) = .go True (.ptr id sz i k) S := nr rfl
theorem qSo (S : HS) (fr : Bool) (xs : List (List FV)) (sz i k : Nat) : qJ8 S (some (.elt fr xs sz i k)) = .go True (.elt fr xs sz i k) S := nr rfl
theorem qHw (S : HS) (id : Nat) (us ua : Option (Nat × Nat)) (kk : IntKind) (n : Int) : jW S us ua (some (.own id)) (some (.v (.int kk n))) = lM S id n us (rlk S.st id) := nr rfl
theorem qHx (S : HS) (fr : Bool) (xs : List (List FV)) (us ua : Option (Nat × Nat)) (kk : IntKind) (n : Int) : jW S us ua (some (.lst fr xs)) (some (.v (.int kk n))) = nS S fr xs n us := nr rfl
theorem qHv (S : HS) (id sz i k : Nat) (us ua : Option (Nat × Nat)) (kk : IntKind) (n : Int) : jW S us ua (some (.ptr id sz i k)) (some (.v (.int kk n))) = nR S id sz i k n ua := nr rfl
theorem qHy (S : HS) (fr : Bool) (xs : List (List FV)) (sz i k : Nat) (us ua : Option (Nat × Nat)) (kk : IntKind) (n : Int) : jW S us ua (some (.elt fr xs sz i k)) (some (.v (.int kk n))) = nT S fr xs sz i k n ua := nr rfl
theorem qH1 (S : HS) (id : Nat) (n : Int) (e sz : Nat) (nw : Bool) (ty s : Nat) (els : List (List FV)) : lM S id n (some (e, sz)) (some (.sl nw ty s els)) = .go (bZ (sz = s ∧ 0 ≤ n ∧ n < els.length)) (.ptr id s n.toNat 0) S := nr rfl
theorem qH3 (S : HS) (fr : Bool) (xs : List (List FV)) (n : Int) (e sz : Nat) : nS S fr xs n (some (e, sz)) = .go (bZ (0 ≤ n ∧ n < xs.length) ∧ Wid sz xs) (.elt fr xs sz n.toNat 0) S := nr rfl
theorem qH2 (S : HS) (id sz i k : Nat) (n : Int) (len size : Nat) : nR S id sz i k n (some (len, size)) = .go (bZ (0 ≤ n ∧ n < len)) (.ptr id sz i (k + n.toNat * size)) S := nr rfl
theorem qH4 (S : HS) (fr : Bool) (xs : List (List FV)) (sz i k : Nat) (n : Int) (len size : Nat) : nT S fr xs sz i k n (some (len, size)) = .go (bZ (0 ≤ n ∧ n < len)) (.elt fr xs sz i (k + n.toNat * size)) S := nr rfl
theorem qXp (S : HS) (c : Prop) (i s o n : Nat) : qHu S c (some (.vw i s o n)) = .go c (.v (.int .i64 n)) S := nr rfl
theorem qHj (S : HS) (us : Option (Nat × Nat)) (l h : Option Operand) (id : Nat) : mN S us l h (some (.own id)) = nM S id (iH (lo S.env) l 0) (iH (lo S.env) h (zE7 (rlk S.st id))) us (rlk S.st id) := nr rfl
theorem qMn (S : HS) (us : Option (Nat × Nat)) (l h : Option Operand) (id sz off n : Nat) : mN S us l h (some (.vw id sz off n)) = nL S id sz off (iH (lo S.env) l 0) (iH (lo S.env) h n) us (rlk S.st id) := nr rfl
theorem qHl (S : HS) (id : Nat) (a b : Int) (e sz : Nat) (nw : Bool) (ty s : Nat) (els : List (List FV)) : nM S id (some a) (some b) (some (e, sz)) (some (.sl nw ty s els)) = .go (bZ (sz = s ∧ 0 ≤ a ∧ a ≤ b ∧ b ≤ els.length)) (.vw id s a.toNat (b.toNat - a.toNat)) S := nr rfl
theorem qHk (S : HS) (id sz off : Nat) (a b : Int) (e sz' : Nat) (nw : Bool) (ty s : Nat) (els : List (List FV)) : nL S id sz off (some a) (some b) (some (e, sz')) (some (.sl nw ty s els)) = .go (bZ (sz' = sz ∧ s = sz ∧ 0 ≤ a ∧ a ≤ b ∧ off + b ≤ els.length)) (.vw id sz (off + a.toNat) (b.toNat - a.toNat)) S := nr rfl
theorem qV7 (nw : Bool) (ty s : Nat) (els : List (List FV)) : zE7 (some (.sl nw ty s els)) = els.length := nr rfl
theorem qMu (S : HS) (id s off m : Nat) (us ua : Option (Nat × Nat)) (kk : IntKind) (n : Int) : jW S us ua (some (.vw id s off m)) (some (.v (.int kk n))) = nQ S id s off m n us (rlk S.st id) := nr rfl
theorem qHz (S : HS) (id s off m : Nat) (n : Int) (e sz : Nat) (nw : Bool) (ty s' : Nat) (els : List (List FV)) : nQ S id s off m n (some (e, sz)) (some (.sl nw ty s' els)) = .go (bZ (sz = s ∧ s' = s ∧ 0 ≤ n ∧ n < m)) (.ptr id s (off + n.toNat) 0) S := nr rfl
theorem qLc (st : aM) (sz id s off n : Nat) : iJ st sz (.vw id s off n) = match rlk st id with | some (.sl _ _ s' els) => some (bZ (s = sz ∧ s' = sz), (els.drop off).take n) | _ => none := nr rfl
theorem qMj (i s o n : Nat) : cS (.vw i s o n) = some [.vw i s o n] := nr rfl
theorem qXe (i s o n : Nat) : (HV.vw i s o n).one = true := nr rfl
theorem iA (p : Nat → Bool) (i s o n : Nat) : HV.kill p (.vw i s o n) = bif p i then .junk else .vw i s o n := by rw [HV.kill]
theorem qXb (m : Nat → Option Nat) (i s o n : Nat) : HV.ren m (.vw i s o n) = match m i with | some j => .vw j s o n | none => .junk := by rw [HV.ren]; cases m i <;> rfl
theorem tK (id : Nat) (x0 : HV) (i s o n : Nat) : HV.sub id x0 (.vw i s o n) = if i = id then zAi x0 s o n else .vw i s o n := by rw [HV.sub]
theorem qK4 (i s o n : Nat) : qJ (.vw i s o n) = [] := nr rfl
theorem qFq (i s o n : Nat) : tE (.vw i s o n) = [] := nr rfl
theorem qSr (S : HS) (c : Prop) (id : Nat) : qHu S c (some (.own id)) = qAb S c (rlk S.st id) := nr rfl
theorem qSs (S : HS) (c : Prop) (fr : Bool) (xs : List (List FV)) : qHu S c (some (.lst fr xs)) = .go c (.v (.int .i64 xs.length)) S := nr rfl
theorem qSt (S : HS) (c : Prop) (nw : Bool) (ty s : Nat) (els : List (List HV)) : qAb S c (some (.hl nw ty s els)) = .go c (.v (.int .i64 els.length)) S := nr rfl
theorem qH0 (S : HS) (id : Nat) (n : Int) (e sz : Nat) (nw : Bool) (ty s : Nat) (els : List (List HV)) : lM S id n (some (e, sz)) (some (.hl nw ty s els)) = .go (bZ (sz = s ∧ 0 ≤ n ∧ n < els.length)) (.ptr id s n.toNat 0) S := nr rfl
theorem qSu (S : HS) (c : Prop) (nw : Bool) (ty s : Nat) (els : List (List FV)) : qAb S c (some (.sl nw ty s els)) = .go c (.v (.int .i64 els.length)) S := nr rfl
theorem qMo (S : HS) (us : Option (Nat × Nat)) (l h : Option Operand) (fr : Bool) (xs : List (List FV)) : mN S us l h (some (.lst fr xs)) = nN S fr xs (iH (lo S.env) l 0) (iH (lo S.env) h xs.length) us := nr rfl
theorem qHm (S : HS) (fr : Bool) (xs : List (List FV)) (a b : Int) (e sz : Nat) : nN S fr xs (some a) (some b) (some (e, sz)) = .go (bZ (0 ≤ a ∧ a ≤ b ∧ b ≤ xs.length) ∧ Wid sz xs) (.lst fr ((xs.take b.toNat).drop a.toNat)) S := nr rfl
theorem qMp (S : HS) (kt : Option (Option Nat)) (id sz i k : Nat) : nP S kt (some (.ptr id sz i k)) = jF S sz i k kt (rlk S.st id) := nr rfl
theorem qMq (S : HS) (kt : Option (Option Nat)) (fr : Bool) (xs : List (List FV)) (sz i k : Nat) : nP S kt (some (.elt fr xs sz i k)) = oJ S xs i k kt := nr rfl
theorem qMr (S : HS) (sz i k : Nat) (nw : Bool) (ty s : Nat) (els : List (List FV)) : jF S sz i k (some none) (some (.sl nw ty s els)) = .go (bZ (sz = s ∧ i < els.length ∧ k < (els.getD i []).length)) ((els.getD i []).getD k default).h S := nr rfl
theorem qHp (S : HS) (sz i k n : Nat) (nw : Bool) (ty s : Nat) (els : List (List FV)) : jF S sz i k (some (some n)) (some (.sl nw ty s els)) = .go (bZ (sz = s ∧ i < els.length ∧ k + n ≤ (els.getD i []).length)) (.agg ((((els.getD i []).drop k).take n).map FV.h)) S := nr rfl
theorem qMt (S : HS) (sz i k : Nat) (nw : Bool) (ty : Nat) (cells : List HV) : jF S sz i k (some none) (some (.bx nw ty cells)) = .go (bZ (i = 0 ∧ k < cells.length)) (cells.getD k .junk) S := nr rfl
theorem qHr (S : HS) (sz i k n : Nat) (nw : Bool) (ty : Nat) (cells : List HV) : jF S sz i k (some (some n)) (some (.bx nw ty cells)) = .go (bZ (i = 0 ∧ k + n ≤ cells.length)) (.agg ((cells.drop k).take n)) S := nr rfl
theorem qMs (S : HS) (sz i k : Nat) (nw : Bool) (ty s : Nat) (els : List (List HV)) : jF S sz i k (some none) (some (.hl nw ty s els)) = .go (bZ (sz = s ∧ i < els.length ∧ k < (els.getD i []).length)) ((els.getD i []).getD k .junk) S := nr rfl
theorem qHq (S : HS) (sz i k n : Nat) (nw : Bool) (ty s : Nat) (els : List (List HV)) : jF S sz i k (some (some n)) (some (.hl nw ty s els)) = .go (bZ (sz = s ∧ i < els.length ∧ k + n ≤ (els.getD i []).length)) (.agg (((els.getD i []).drop k).take n)) S := nr rfl
theorem qHh (S : HS) (id sz i k : Nat) (kt : Option (Option Nat)) (h : HV) (nw : Bool) (ty s : Nat) (els : List (List HV)) : lK S id sz i k kt h (some (.hl nw ty s els)) = nJ S id sz i k nw ty s els kt h := nr rfl
theorem qC3 (S : HS) (id sz i k : Nat) (nw : Bool) (ty s : Nat) (els : List (List HV)) (h : HV) : nJ S id sz i k nw ty s els (some none) h = .go (bZ (sz = s ∧ i < els.length ∧ k < (els.getD i []).length ∧ h.one = true)) (.v undef) ⟨S.env, fX id (.hl nw ty s (els.set i ((els.getD i []).set k h))) S.st⟩ := nr (by cases h <;> rfl)
theorem qC4 (S : HS) (id sz i k n : Nat) (nw : Bool) (ty s : Nat) (els : List (List HV)) (hs : List HV) : nJ S id sz i k nw ty s els (some (some n)) (.agg hs) = .go (bZ (sz = s ∧ i < els.length ∧ hs.length = n ∧ k + n ≤ (els.getD i []).length)) (.v undef) ⟨S.env, fX id (.hl nw ty s (els.set i (splice (els.getD i []) k hs))) S.st⟩ := nr rfl
theorem qHs (S : HS) (xs : List (List FV)) (i k : Nat) : oJ S xs i k (some none) = .go (bZ (i < xs.length ∧ k < (xs.getD i []).length)) ((xs.getD i []).getD k default).h S := nr rfl
theorem qHt (S : HS) (xs : List (List FV)) (i k n : Nat) : oJ S xs i k (some (some n)) = .go (bZ (i < xs.length ∧ k + n ≤ (xs.getD i []).length)) (.agg ((((xs.getD i []).drop k).take n).map FV.h)) S := nr rfl
theorem qMm (S : HS) (kt : Option (Option Nat)) (id sz i k : Nat) (h : HV) : sG S kt (some (.ptr id sz i k)) (some h) = lK S id sz i k kt h (rlk S.st id) := nr rfl
theorem qHg (S : HS) (id sz i k : Nat) (kt : Option (Option Nat)) (h : HV) (nw : Bool) (ty s : Nat) (els : List (List FV)) : lK S id sz i k kt h (some (.sl nw ty s els)) = nH S id sz i k nw ty s els kt h := nr rfl
theorem qHi (S : HS) (id sz i k : Nat) (kt : Option (Option Nat)) (h : HV) (nw : Bool) (ty : Nat) (cells : List HV) : lK S id sz i k kt h (some (.bx nw ty cells)) = nK S id i k nw ty cells kt h := nr rfl
theorem qC1 (S : HS) (id sz i k : Nat) (nw : Bool) (ty s : Nat) (els : List (List FV)) (h : HV) : nH S id sz i k nw ty s els (some none) h = match h.f with | some f => .go (bZ (sz = s ∧ i < els.length ∧ k < (els.getD i []).length ∧ f.one = true)) (.v undef) ⟨S.env, fX id (.sl nw ty s (els.set i ((els.getD i []).set k f))) S.st⟩ | none => .bad := nr rfl
theorem qC2 (S : HS) (id sz i k n : Nat) (nw : Bool) (ty s : Nat) (els : List (List FV)) (hs : List HV) : nH S id sz i k nw ty s els (some (some n)) (.agg hs) = match HV.fs hs with | some fs => .go (bZ (sz = s ∧ i < els.length ∧ fs.length = n ∧ k + n ≤ (els.getD i []).length)) (.v undef) ⟨S.env, fX id (.sl nw ty s (els.set i (splice (els.getD i []) k fs))) S.st⟩ | none => .bad := nr rfl
theorem qC5 (S : HS) (id i k : Nat) (nw : Bool) (ty : Nat) (cells : List HV) (h : HV) : nK S id i k nw ty cells (some none) h = .go (bZ (i = 0 ∧ k < cells.length ∧ h.one = true)) (.v undef) ⟨S.env, fX id (.bx nw ty (cells.set k h)) S.st⟩ := nr (by cases h <;> rfl)
theorem qC6 (S : HS) (id i k n : Nat) (nw : Bool) (ty : Nat) (cells : List HV) (hs : List HV) : nK S id i k nw ty cells (some (some n)) (.agg hs) = .go (bZ (i = 0 ∧ hs.length = n ∧ k + n ≤ cells.length)) (.v undef) ⟨S.env, fX id (.bx nw ty (splice cells k hs)) S.st⟩ := nr rfl
theorem qM3 (S : HS) (id : Nat) (t : TypeId) (z : Array Value) : sJ S id t (some z) = .go (bZ (mJ z = true)) (.ptr id z.size 0 0) ((S.kill (only id)).row id (.bx true t (z.toList.map .v))) := nr rfl
theorem qXw (S : HS) (id : Nat) (t : TypeId) (h : HV) : qSz S id t (some h) = qJe S id t (cS h) := nr rfl
theorem qSy (S : HS) (id : Nat) (t : TypeId) (cs : List HV) : qJe S id t (some cs) = .go True (.ptr id cs.length 0 0) ((S.kill (only id)).row id (.bx true t (cs.map (HV.kill (only id))))) := nr rfl
theorem qFm (l : bV) : iG l [] = some [] := nr rfl
theorem qCq (l : bV) (i : Nat) (x : Operand) (r : List (Nat × Operand)) : iG l ((i, x) :: r) = match hev l x with | some v => (match iG l r with | some vs => some ((i, v) :: vs) | none => none) | none => none := nr rfl
theorem qMa (kJ : Nat → Option (Nat × Nat)) (cells : List HV) : yW kJ cells [] = some (True, cells) := nr rfl
theorem qGv (kJ : Nat → Option (Nat × Nat)) (cells : List HV) (i : Nat) (h : HV) (r : List (Nat × HV)) : yW kJ cells ((i, h) :: r) = match kJ i with | some (off, n) => (match cS h with | some cs => (match yW kJ (splice cells off cs) r with | some (c, out) => some (bZ (cs.length = n ∧ off + n ≤ cells.length) ∧ c, out) | none => none) | none => none) | none => none := nr rfl
theorem qM2 (S : HS) (ok : Bool) (kJ : Nat → Option (Nat × Nat)) (z : Array Value) (ps : List (Nat × HV)) : qQ S ok kJ (some z) (some ps) = nW S (ok && mJ z) (yW kJ (z.toList.map .v) ps) := nr rfl
theorem qJd (S : HS) (ok : Bool) (c : Prop) (cs : List HV) : nW S ok (some (c, cs)) = .go (bZ (ok = true) ∧ c) (.agg cs) S := nr rfl
theorem qR9 (sz : Nat) (els : List (List FV)) : qPp sz els [] = some (True, els) := nr rfl
theorem qL5 (sz : Nat) (els : List (List FV)) (i : Nat) (h : HV) (r : List (Nat × HV)) : qPp sz els ((i, h) :: r) = match cS h with | some cs => (match HV.fs cs with | some fs => (match qPp sz (els.set i fs) r with | some (c, out) => some (bZ (fs.length = sz ∧ i < els.length) ∧ c, out) | none => none) | none => none) | none => none := nr rfl
theorem qJa (S : HS) (id n e sz by' : Nat) (z : Array Value) (ps : List (Nat × HV)) : nV S id n (some (e, sz, by', z)) (some ps) = match mJ z && z.size == sz with | true => kP S id e sz n z ps (qTo ps) | false => .bad := nr rfl
theorem qTn  : qTo [] = true := nr rfl
theorem qNh (i : Nat) (h : HV) (r : List (Nat × HV)) : qTo ((i, h) :: r) = match cS h with | some cs => ((HV.fs cs).isSome && qTo r) | none => qTo r := nr rfl
theorem qL6 (sz : Nat) (els : List (List HV)) : yU sz els [] = some (True, els) := nr rfl
theorem qGu (sz : Nat) (els : List (List HV)) (i : Nat) (h : HV) (r : List (Nat × HV)) : yU sz els ((i, h) :: r) = match cS h with | some cs => (match yU sz (els.set i cs) r with | some (c, out) => some (bZ (cs.length = sz ∧ i < els.length) ∧ c, out) | none => none) | none => none := nr rfl
theorem zCl (id : Nat) (els : List (List HV)) : hkl id els = els.map (List.map (HV.kill (only id))) := nr rfl
theorem qJb (S : HS) (id e sz n : Nat) (z : Array Value) (ps : List (Nat × HV)) : kP S id e sz n z ps true = mT S id e sz n (qPp sz (List.replicate n (z.toList.map .v)) ps) := nr rfl
theorem qJc (S : HS) (id e sz n : Nat) (z : Array Value) (ps : List (Nat × HV)) : kP S id e sz n z ps false = mS S id e sz n (yU sz (List.replicate n (z.toList.map .v)) ps) := nr rfl
theorem qDd (S : HS) (id e sz n : Nat) (c : Prop) (els : List (List HV)) : mS S id e sz n (some (c, els)) = .go (bZ (n * sz ≤ 16777216 ∧ n ≤ 16777216) ∧ c) (.own id) ((S.kill (only id)).row id (.hl true e sz (hkl id els))) := nr rfl
theorem qDe (S : HS) (id e sz n : Nat) (c : Prop) (els : List (List FV)) : mT S id e sz n (some (c, els)) = .go (bZ (n * sz ≤ 16777216 ∧ n ≤ 16777216) ∧ c) (.own id) ((S.kill (only id)).row id (.sl true e sz els)) := nr rfl
theorem qSq (S : HS) (id e sz by' : Nat) (z : Array Value) (n m : Int) : qC7 S id (some (e, sz, by', z)) (some (.v (.int .i64 n))) (some (.v (.int .i64 m))) = match mJ z && z.size == sz with | true => .go (bZ (n = m ∧ 0 ≤ n ∧ by' * n.toNat ≤ 281474976710656 ∧ n.toNat ≤ maxLen)) (.own id) ((S.kill (only id)).row id (.sl true e sz (List.replicate n.toNat (z.toList.map .v)))) | false => .bad := nr rfl
theorem qFu (st : aM) (sz id : Nat) : iJ st sz (.own id) = match rlk st id with | some (.sl _ _ s els) => some (bZ (s = sz), els) | _ => none := nr rfl
theorem qFw (st : aM) (sz : Nat) (fr : Bool) (xs : List (List FV)) : iJ st sz (.lst fr xs) = some (Wid sz xs, xs) := nr rfl
theorem qFv (st : aM) (sz : Nat) : iJ st sz (.v (.slice none 0 0)) = some (True, []) := nr rfl
theorem qG4 (P : Program) (S : HS) (id : Nat) (t : Nat) (args : Array Operand) (ats : Array TypeId) : gU P S id (.call ⟨.value (.tmp t), args, ats⟩) = wK (fnH (hlk S.env t)) (kZ S.env args.toList) := nr rfl
theorem zGp (f : FuncId) : fnH (some (.v (.func (.func f) #[] #[]))) = some f := nr rfl
theorem qDb (f : FuncId) (a : Option (List HV)) : wK (some f) a = qDc f a := nr rfl
theorem qMh (P : Program) (S : HS) (id : Nat) (args : Array Operand) (ats : Array TypeId) : gU P S id (.call ⟨.builtin .copy, args, ats⟩) = uL S (ats == #[eH ats, eH ats]) (cF P (eH ats)) (kZ S.env args.toList) := nr rfl
theorem qMv (S : HS) (us : Option (Nat × Nat)) (id : Nat) (x : HV) : uL S true us (some [.own id, x]) = mP S id 0 none none x us (rlk S.st id) := nr rfl
theorem qSw (S : HS) (us : Option (Nat × Nat)) (id s off n : Nat) (x : HV) : uL S true us (some [.vw id s off n, x]) = mP S id off (some s) (some n) x us (rlk S.st id) := nr rfl
theorem qH9 (S : HS) (id off : Nat) (x : HV) (e sz : Nat) (nw : Bool) (ty s : Nat) (els : List (List FV)) : mP S id off none none x (some (e, sz)) (some (.sl nw ty s els)) = match decide (sz = s) with | true => sH S id s off els.length (s = s) nw ty els (iJ S.st s x) | false => .bad := nr rfl
theorem qMw (S : HS) (id off s0 n : Nat) (x : HV) (e sz : Nat) (nw : Bool) (ty s : Nat) (els : List (List FV)) : mP S id off (some s0) (some n) x (some (e, sz)) (some (.sl nw ty s els)) = match decide (sz = s) with | true => sH S id s off n (s0 = s) nw ty els (iJ S.st s x) | false => .bad := nr rfl
def cpy (els : List (List FV)) (off : Nat) (news : List (List FV)) (n : Nat) : List (List FV) := splice els off (news.take n)
def cpn (news : List (List FV)) (n : Nat) : Nat := min news.length n
theorem qDa (S : HS) (id sz off n : Nat) (ok : Prop) (nw : Bool) (ty : Nat) (els : List (List FV)) (c : Prop) (news : List (List FV)) : sH S id sz off n ok nw ty els (some (c, news)) = .go (c ∧ bZ (off + n ≤ els.length ∧ 0 < sz ∧ ok)) (.v (.int .i64 (cpn news n : Nat))) ⟨S.env, fX id (.sl nw ty sz (cpy els off news n)) S.st⟩ := nr rfl
theorem qDf (S : HS) (nid : Nat) (same str : Bool) (e sz by' : Nat) (z : Array Value) (id : Nat) (x : HV) : lN S nid same str (some (e, sz, by', z)) (some [.own id, x]) = match (same || str) && z.size == sz with | true => qDh S id e sz by' same x (qQ9 same str S.st sz x) (rlk S.st id) | false => .bad := nr rfl
theorem qLd (st : aM) (sz id : Nat) : qFx st sz (.own id) = match rlk st id with | some (.sl _ _ s els) => some (bZ (s = sz), els.map (List.map FV.h)) | some (.hl _ _ s els) => some (bZ (s = sz), els) | _ => none := nr rfl
theorem qLf (st : aM) (sz : Nat) (fr : Bool) (xs : List (List FV)) : qFx st sz (.lst fr xs) = some (Wid sz xs, xs.map (List.map FV.h)) := nr rfl
theorem qLe (st : aM) (sz : Nat) : qFx st sz (.v (.slice none 0 0)) = some (True, []) := nr rfl
theorem qYf (a b c d : Nat) : (#[a, b] == #[c, d]) = (a == c && b == d) := by rw [Bool.eq_iff_iff]; simp
theorem qWs (str : Bool) (st : aM) (sz : Nat) (x : HV) : qQ9 true str st sz x = iJ st sz x := nr rfl
theorem qWt (st : aM) (sz : Nat) (x : HV) : qQ9 false true st sz x = qWr x := nr rfl
theorem qLb (s : ByteArray) : qWr (.v (.string s)) = some (True, jC s) := nr rfl
theorem qDg (S : HS) (nid : Nat) (same str : Bool) (e sz by' : Nat) (z : Array Value) (x : HV) : lN S nid same str (some (e, sz, by', z)) (some [.v (.slice none 0 0), x]) = match same && z.size == sz with | true => uM S nid e sz by' true [] (iJ S.st sz x) | false => .bad := nr rfl
theorem qS0 (S : HS) (id e sz by' : Nat) (same : Bool) (x : HV) (news : Option (Prop × List (List FV))) (nw : Bool) (ty s : Nat) (els : List (List HV)) : qDh S id e sz by' same x news (some (.hl nw ty s els)) = match same && (decide (ty = e) && decide (s = sz)) with | true => qJf S id e sz by' nw els (qFx S.st sz x) | false => .bad := nr rfl
theorem qS3 (S : HS) (id e sz by' : Nat) (nw : Bool) (els news : List (List HV)) (c : Prop) : qJf S id e sz by' nw els (some (c, news)) = .go (c ∧ bZ ((els.length + news.length) * by' ≤ 140737488355328 ∧ 0 < by' ∧ 0 < sz)) (.own id) ((S.kill (only id)).row id (.hl nw e sz (hkl id (els ++ news)))) := nr rfl
theorem qS1 (S : HS) (id e sz by' : Nat) (same : Bool) (x : HV) (news : Option (Prop × List (List FV))) (nw : Bool) (ty s : Nat) (els : List (List FV)) : qDh S id e sz by' same x news (some (.sl nw ty s els)) = match decide (ty = e) && decide (s = sz) with | true => uM S id e sz by' nw els news | false => .bad := nr rfl
theorem qS2 (S : HS) (id e sz by' : Nat) (nw : Bool) (els : List (List FV)) (c : Prop) (news : List (List FV)) : uM S id e sz by' nw els (some (c, news)) = .go (c ∧ bZ ((els.length + news.length) * by' ≤ 140737488355328 ∧ 0 < by' ∧ 0 < sz)) (.own id) ((S.kill (only id)).row id (.sl nw e sz (els ++ news))) := nr rfl
theorem qLk  : oY [] = some [] := nr rfl
theorem qF5 (x : Value) (r : List HV) : oY (.v x :: r) = match oY r with | some vs => some (x :: vs) | none => none := nr rfl
theorem zCt (S : HS) (up : Bool) (t : TypeId) (neg : Bool) (xs ys : List HV) : hEq S up t neg (some (.agg xs)) (some (.agg ys)) = qPq t neg (oY xs) (oY ys) := nr rfl
theorem qXt (S : HS) (up : Bool) (t : TypeId) (neg : Bool) (a b c d : Nat) : hEq S up t neg (some (.ptr a b c d)) (some (.v (.pointer none))) = .go (bZ (up = true)) (.v (.bool neg)) S := nr rfl
theorem qXu (S : HS) (up : Bool) (t : TypeId) (neg fr : Bool) (xs : List (List FV)) (a b c : Nat) : hEq S up t neg (some (.elt fr xs a b c)) (some (.v (.pointer none))) = .go (bZ (up = true)) (.v (.bool neg)) S := nr rfl
theorem qMx (S : HS) (ok okB : Bool) (s : ByteArray) : nU S ok okB (some (.v (.string s))) = .bytes okB s := nr rfl
theorem qMy (S : HS) (ok okB : Bool) (id : Nat) : nU S ok okB (some (.own id)) = wJ S ok (rlk S.st id) := nr rfl
theorem qMz (S : HS) (ok okB fr : Bool) (xs : List (List FV)) : nU S ok okB (some (.lst fr xs)) = mR S ok (mV xs) := nr rfl
theorem qM0 (S : HS) (ok nw : Bool) (t s : Nat) (els : List (List FV)) : wJ S ok (some (.sl nw t s els)) = mR S ok (mV els) := nr rfl
theorem qM1 (S : HS) (ok : Bool) (ns : List Int) : mR S ok (some ns) = .go (bZ (ok = true)) (.v (.string (strOfNums ns))) S := nr rfl
theorem qJ0  : mV [] = some [] := nr rfl
theorem qDj (n : Int) (r : List (List FV)) : mV ([.v (.int .u8 n)] :: r) = match mV r with | some ns => some (n :: ns) | none => none := nr rfl
theorem qXv (t : TypeId) (neg : Bool) (xs ys : List Value) : qPq t neg (some xs) (some ys) = .eqn t xs ys neg := nr rfl
theorem qSx (f : FuncId) (hs : List HV) : qDc f (some hs) = .call f hs := nr rfl
theorem qYe (ats : Array TypeId) : eH ats = ats.getD 0 0 := nr rfl
theorem qK8 (z : Array Value) : mJ z = z.toList.all (fun v => v.oneCell') := nr rfl
theorem zKg (x : Value) : (HV.v x).f = some (.v x) := nr rfl
theorem zCq (i : Nat) : (HV.own i).f = none := nr rfl
theorem zGo (i s o n : Nat) : (HV.vw i s o n).f = none := nr rfl
theorem zCp (i s j k : Nat) : (HV.ptr i s j k).f = none := nr rfl
theorem zCr (fr : Bool) (xs : List (List FV)) : (HV.lst fr xs).f = some (.lst fr xs) := nr rfl
theorem qXn  : HV.fs [] = some [] := nr rfl
theorem qSd (h : HV) (r : List HV) : HV.fs (h :: r) = match h.f, HV.fs r with | some f, some fs => some (f :: fs) | _, _ => none := nr rfl
theorem zC4 (x : Value) : (FV.v x).one = x.oneCell' := nr rfl
theorem qS5 (fr : Bool) (xs : List (List FV)) : (FV.lst fr xs).one = true := nr rfl
theorem zCj (x : Value) : (HV.v x).one = x.oneCell' := nr rfl
theorem qR5 (fr : Bool) (xs : List (List FV)) : (HV.lst fr xs).one = true := nr rfl
theorem qR3 (i : Nat) : (HV.own i).one = true := nr rfl
theorem qR2 (i s j k : Nat) : (HV.ptr i s j k).one = true := nr rfl
theorem zKj (x : Value) : (FV.v x).h = .v x := nr rfl
theorem zD0 (fr : Bool) (xs : List (List FV)) : (FV.lst fr xs).h = .lst fr xs := nr rfl
theorem qWo (k : IntKind) (n : Int) : Value.oneCell' (.int k n) = true := nr rfl
theorem qHb (k : IntKind) (n : Int) : cS (.v (.int k n)) = some [.v (.int k n)] := nr rfl
theorem qQ6 (b : Bool) : Value.oneCell' (.bool b) = true := nr rfl
theorem qC0 (b : Bool) : cS (.v (.bool b)) = some [.v (.bool b)] := nr rfl
theorem qWm (s : ByteArray) : Value.oneCell' (.string s) = true := nr rfl
theorem qG9 (s : ByteArray) : cS (.v (.string s)) = some [.v (.string s)] := nr rfl
theorem qK7 (a : Option Addr) (n c : Nat) : Value.oneCell' (.slice a n c) = true := nr rfl
theorem yZ (a : Option Addr) (n c : Nat) : cS (.v (.slice a n c)) = some [.v (.slice a n c)] := nr rfl
theorem qWn (a : Option Addr) : Value.oneCell' (.pointer a) = true := nr rfl
theorem qHa (a : Option Addr) : cS (.v (.pointer a)) = some [.v (.pointer a)] := nr rfl
theorem qHf (cs : List HV) : cS (.agg cs) = some cs := nr rfl
theorem qHe (fr : Bool) (xs : List (List FV)) : cS (.lst fr xs) = some [.lst fr xs] := nr rfl
theorem qHd (i : Nat) : cS (.own i) = some [.own i] := nr rfl
theorem qHc (i s j k : Nat) : cS (.ptr i s j k) = some [.ptr i s j k] := nr rfl
theorem qKh {α : Type} (l : List α) (k : Nat) (cs : List α) : splice l k cs = l.take k ++ cs ++ l.drop (k + cs.length) := nr rfl
theorem tJ (e : bV) (s : aM) (p : Nat → Bool) : HS.kill ⟨e, s⟩ p = ⟨kQ p e, cY p s⟩ := nr rfl
theorem qAs (e : bV) (s : aM) (id : Nat) (r : Row) : HS.row ⟨e, s⟩ id r = ⟨e, (id, r) :: s⟩ := nr rfl
theorem qQl (e : bV) (s : aM) (k : Nat) (h : HV) : HS.set ⟨e, s⟩ (some k) h = ⟨(k, h) :: e, s⟩ := nr rfl
theorem qQm (S : HS) (h : HV) : HS.set S none h = S := nr rfl
theorem qAu (e : bV) (s : aM) (d : Nat) (h : HV) : HS.rep ⟨e, s⟩ d h = ⟨sE d h e, s⟩ := nr rfl
theorem pK (d : Nat) (h : HV) : sE d h [] = [] := nr rfl
theorem lW (d : Nat) (h : HV) (k : Nat) (x : HV) (r : bV) : sE d h ((k, x) :: r) = if k = d then (k, h) :: r else (k, x) :: sE d h r := nr rfl
theorem fM (p : Nat → Bool) : kQ p [] = [] := nr rfl
theorem eG (p : Nat → Bool) (k : Nat) (h : HV) (r : bV) : kQ p ((k, h) :: r) = (k, h.kill p) :: kQ p r := nr rfl
theorem fD (p : Nat → Bool) : cY p [] = [] := nr rfl
theorem eC (p : Nat → Bool) (k : Nat) (h : Row) (r : aM) : cY p ((k, h) :: r) = bif p k then cY p r else (k, h.kill p) :: cY p r := nr rfl
theorem gZ (p : Nat → Bool) (nw : Bool) (t s : Nat) (xs : List (List FV)) : (Row.sl nw t s xs).kill p = .sl nw t s xs := nr rfl
theorem hU (p : Nat → Bool) (nw : Bool) (t s : Nat) (xs : List (List HV)) : (Row.hl nw t s xs).kill p = .hl nw t s (xs.map (List.map (HV.kill p))) := nr rfl
theorem hZ (p : Nat → Bool) (nw : Bool) (t : Nat) (cs : List HV) : (Row.bx nw t cs).kill p = .bx nw t (cs.map (HV.kill p)) := nr rfl
theorem kD (p : Nat → Bool) (x : Value) : HV.kill p (.v x) = .v x := by rw [HV.kill]
theorem qU8 (m : Nat → Option Nat) (x : Value) : HV.ren m (.v x) = .v x := by rw [HV.ren]
theorem qBn (id : Nat) (x0 : HV) (x : Value) : HV.sub id x0 (.v x) = .v x := by rw [HV.sub]
theorem fJ (p : Nat → Bool) (fr : Bool) (xs : List (List FV)) : HV.kill p (.lst fr xs) = .lst fr xs := by rw [HV.kill]
theorem qGi (m : Nat → Option Nat) (fr : Bool) (xs : List (List FV)) : HV.ren m (.lst fr xs) = .lst fr xs := by rw [HV.ren]
theorem pG (id : Nat) (x0 : HV) (fr : Bool) (xs : List (List FV)) : HV.sub id x0 (.lst fr xs) = .lst fr xs := by rw [HV.sub]
theorem gP (p : Nat → Bool) (fr : Bool) (xs : List (List FV)) (s j k : Nat) : HV.kill p (.elt fr xs s j k) = .elt fr xs s j k := by rw [HV.kill]
theorem qRz (m : Nat → Option Nat) (fr : Bool) (xs : List (List FV)) (s j k : Nat) : HV.ren m (.elt fr xs s j k) = .elt fr xs s j k := by rw [HV.ren]
theorem pH (id : Nat) (x0 : HV) (fr : Bool) (xs : List (List FV)) (s j k : Nat) : HV.sub id x0 (.elt fr xs s j k) = .elt fr xs s j k := by rw [HV.sub]
theorem eF (p : Nat → Bool) : HV.kill p .junk = .junk := by rw [HV.kill]
theorem qLx (m : Nat → Option Nat) : HV.ren m .junk = .junk := by rw [HV.ren]
theorem lV (id : Nat) (x0 : HV) : HV.sub id x0 .junk = .junk := by rw [HV.sub]
theorem fH (p : Nat → Bool) (i : Nat) : HV.kill p (.own i) = bif p i then .junk else .own i := by rw [HV.kill]
theorem fG (p : Nat → Bool) (i s j k : Nat) : HV.kill p (.ptr i s j k) = bif p i then .junk else .ptr i s j k := by rw [HV.kill]
theorem fL (p : Nat → Bool) (cs : List HV) : HV.kill p (.agg cs) = .agg (cs.map (HV.kill p)) := by rw [HV.kill]
theorem fF (p : Nat → Bool) (cs : List HV) : HV.kill p (.tup cs) = .tup (cs.map (HV.kill p)) := by rw [HV.kill]
theorem qGh (m : Nat → Option Nat) (i : Nat) : HV.ren m (.own i) = match m i with | some j => .own j | none => .junk := by rw [HV.ren]; cases m i <;> rfl
theorem qRy (m : Nat → Option Nat) (i s j k : Nat) : HV.ren m (.ptr i s j k) = match m i with | some i' => .ptr i' s j k | none => .junk := by rw [HV.ren]; cases m i <;> rfl
theorem qGj (m : Nat → Option Nat) (cs : List HV) : HV.ren m (.agg cs) = .agg (cs.map (HV.ren m)) := by rw [HV.ren]
theorem qGg (m : Nat → Option Nat) (cs : List HV) : HV.ren m (.tup cs) = .tup (cs.map (HV.ren m)) := by rw [HV.ren]
theorem pF (id : Nat) (x0 : HV) (i : Nat) : HV.sub id x0 (.own i) = if i = id then x0 else .own i := by rw [HV.sub]
theorem pE (id : Nat) (x0 : HV) (i s j k : Nat) : HV.sub id x0 (.ptr i s j k) = if i = id then .junk else .ptr i s j k := by rw [HV.sub]
theorem pJ (id : Nat) (x0 : HV) (cs : List HV) : HV.sub id x0 (.agg cs) = .agg (cs.map (HV.sub id x0)) := by rw [HV.sub]
theorem pD (id : Nat) (x0 : HV) (cs : List HV) : HV.sub id x0 (.tup cs) = .tup (cs.map (HV.sub id x0)) := by rw [HV.sub]
theorem qNy (m : Nat → Option Nat) (nw : Bool) (t s : Nat) (xs : List (List FV)) : (Row.sl nw t s xs).ren m = .sl nw t s xs := nr rfl
theorem qNz (m : Nat → Option Nat) (nw : Bool) (t s : Nat) (xs : List (List HV)) : (Row.hl nw t s xs).ren m = .hl nw t s (xs.map (List.map (HV.ren m))) := nr rfl
theorem qN0 (m : Nat → Option Nat) (nw : Bool) (t : Nat) (cs : List HV) : (Row.bx nw t cs).ren m = .bx nw t (cs.map (HV.ren m)) := nr rfl
theorem sU (id : Nat) (x0 : HV) (nw : Bool) (t s : Nat) (xs : List (List FV)) : (Row.sl nw t s xs).sub id x0 = .sl nw t s xs := nr rfl
theorem sW (id : Nat) (x0 : HV) (nw : Bool) (t s : Nat) (xs : List (List HV)) : (Row.hl nw t s xs).sub id x0 = .hl nw t s (xs.map (List.map (HV.sub id x0))) := nr rfl
theorem sX (id : Nat) (x0 : HV) (nw : Bool) (t : Nat) (cs : List HV) : (Row.bx nw t cs).sub id x0 = .bx nw t (cs.map (HV.sub id x0)) := nr rfl
theorem kB (id i : Nat) : only id i = (i == id) := nr rfl
theorem qTd (n i : Nat) : cR n i = (decide (n ≤ i) && decide (i < n + 8)) := by rw [Bool.eq_iff_iff]; simp [cR]
theorem zGh (n i : Nat) : sh n i = bif decide (i < 8) then some (n + i) else none := by unfold sh; congr 1; rw [Bool.eq_iff_iff]; simp
theorem qYg (e : bV) (s : aM) (n : Nat) (st : aM) : HS.adds ⟨e, s⟩ n st = ⟨kQ (cR n) e, xQ n st (cY (cR n) s)⟩ := nr rfl
theorem qKu (n : Nat) (b : aM) : xQ n [] b = b := nr rfl
theorem qE1 (n k : Nat) (r : Row) (t b : aM) : xQ n ((k, r) :: t) b = (n + k, r.ren (sh n)) :: xQ n t b := nr rfl
theorem sY (e : bV) (s : aM) (id : Nat) (x : HV) : HS.rest ⟨e, s⟩ id x = ⟨qTc id x e, qEd id x s⟩ := nr rfl
theorem pP (id : Nat) (x : HV) : qTc id x [] = [] := nr rfl
theorem lX (id : Nat) (x : HV) (k : Nat) (h : HV) (r : bV) : qTc id x ((k, h) :: r) = (k, HV.sub id x h) :: qTc id x r := nr rfl
theorem oQ (id : Nat) (x : HV) : qEd id x [] = [] := nr rfl
theorem lS (id : Nat) (x : HV) (k : Nat) (h : Row) (r : aM) : qEd id x ((k, h) :: r) = if k = id then qEd id x r else (k, h.sub id x) :: qEd id x r := nr rfl
theorem qQd (id : Nat) (r : Row) : fX id r [] = [] := nr rfl
theorem qKg (id : Nat) (r : Row) (k : Nat) (s : Row) (t : aM) : fX id r ((k, s) :: t) = if k = id then (k, r) :: t else (k, s) :: fX id r t := nr rfl
theorem qXs (l : bV) (ds : List (Option Nat)) : hG l ds none = .yes := nr rfl
theorem qXr (l : bV) (ds : List (Option Nat)) (j : Nat) (want : Bool) : hG l ds (some (j, want)) = match ds[j]? with | some (some d) => hGv d want (hlk l d) | _ => .bad := nr rfl
theorem qSv (d : Nat) (want b : Bool) : hGv d want (some (.v (.bool b))) = .ask d b want := nr rfl
theorem qXq (d : Nat) (want : Bool) (vs : Array Value) : hGv d want (some (.v (.tuple vs))) = .no := nr rfl
theorem zCm (P : Program) (d : Option Nat) (S : HS) (K : HS → Prop) (c : Prop) (h : HV) (S' : HS) : qB4 P d S K (.go c h S') = (c ∧ K (S'.set d h)) := nr rfl
theorem qSc (P : Program) (d : Option Nat) (S : HS) (K : HS → Prop) (f : FuncId) (args : List HV) : qB4 P d S K (.call f args) = HAt P f args S (fun h S' => lE K (S'.set d h)) := nr rfl
theorem qXl (P : Program) (d : Option Nat) (S : HS) (K : HS → Prop) (t : TypeId) (x y : List Value) (neg : Bool) : qB4 P d S K (.eqn t x y neg) = ∃ r, EqR P t x.toArray y.toArray r ∧ lE K (S.set d (.v (.bool (neg ^^ r)))) := nr rfl
theorem qL9 (P : Program) (d : Option Nat) (S : HS) (K : HS → Prop) (ok : Bool) (s : ByteArray) : qB4 P d S K (.bytes ok s) = (bZ (ok = true ∧ s.size ≤ 9223372036854775807) ∧ K (S.set d (.lst true (jC s)))) := nr rfl
theorem zCn (P : Program) (N : Nat) (o : Oper) (S : HS) (K : HS → Prop) : HGo P N o S K = zGb P N o (jK S o.op) K := nr rfl
theorem qXm (P : Program) (N : Nat) (o : Oper) (S : HS) (K : HS → Prop) : zGb P N o S K = match dM N o.dst with | true => qB4 P o.dst S K (hop P S (yR o.dst) o.op) | false => False := nr rfl
theorem qL0 (S : HS) (x : Operand) : jK S (.move x) = S := nr rfl
theorem qCx (S : HS) (x : Operand) : jK S (.assign x) = S := nr rfl
theorem qLy (S : HS) (c a b : Operand) : jK S (.pick c a b) = S := nr rfl
theorem yT (S : HS) (x : Operand) (i : Nat) : jK S (.extract x i) = S := nr rfl
theorem qGo (S : HS) (t : TypeId) (x : Operand) (f : Nat) : jK S (.field t x f) = S := nr rfl
theorem qGp (S : HS) (t : TypeId) (x : Operand) (f : Nat) : jK S (.fieldAddr t x f) = S := nr rfl
theorem qLz (S : HS) (x : Operand) : jK S (.nilCheck x) = S := nr rfl
theorem qGn (S : HS) (t : TypeId) (x i : Operand) : jK S (.indexAddr t x i) = S := nr rfl
theorem qGl (S : HS) (t : TypeId) (x : Operand) (l h m : Option Operand) : jK S (.slice t x l h m) = S := nr rfl
theorem qL2 (S : HS) (t : TypeId) (x : Operand) : jK S (.load t x) = S := nr rfl
theorem qGq (S : HS) (t : TypeId) (ps : Array (Nat × Operand)) : jK S (.build t ps) = S := nr rfl
theorem qR1 (S : HS) (b : BinOp) (t : TypeId) (x y : Operand) (u : TypeId) : jK S (.binOp b t x y u) = S := nr rfl
theorem qXc (S : HS) (u : UnOp) (t : TypeId) (x : Operand) : jK S (.unOp u t x) = S := nr rfl
theorem qL3 (S : HS) (s d : TypeId) (x : Operand) : jK S (.convert s d x) = S := nr rfl
theorem qGm (S : HS) (t : TypeId) (x i : Operand) : jK S (.index t x i) = S := nr rfl
theorem qL4 (S : HS) (c : Call) : jK S (.call c) = S := nr rfl
theorem qGr (S : HS) (t : TypeId) : jK S (.alloc t) = S := nr rfl
theorem qR0 (S : HS) (t : TypeId) (x : Operand) : jK S (.box t x) = S := nr rfl
theorem qL1 (S : HS) (t : TypeId) (x y : Operand) : jK S (.makeSlice t x y) = S := nr rfl
theorem qGk (S : HS) (t : TypeId) (x y : Operand) : jK S (.store t x y) = restAll S (zBs S (hev S.env x) (hev S.env y)) := nr rfl
theorem qCw (S : HS) (t n : TypeId) (ps : Array (Nat × Operand)) : jK S (.buildSlice t n ps) = restAll S (zBt (iG S.env ps.toList)) := nr rfl
theorem qQz (S : HS) (id sz i k : Nat) (h : HV) : zBs S (some (.ptr id sz i k)) (some h) = qQ3 S h (rlk S.st id) := nr rfl
theorem qQ0 (S : HS) (h : HV) (nw : Bool) (ty s : Nat) (els : List (List FV)) : qQ3 S h (some (.sl nw ty s els)) = qJ h := nr rfl
theorem qQ2 (S : HS) (h : HV) (nw : Bool) (ty : Nat) (cs : List HV) : qQ3 S h (some (.bx nw ty cs)) = [] := nr rfl
theorem qQ4 (ps : List (Nat × HV)) : zBt (some ps) = ps.flatMap fun p => qJ p.2 := nr rfl
theorem qFn (i : Nat) : qJ (.own i) = [i] := nr rfl
theorem qQ5 (x : Value) : qJ (.v x) = [] := nr rfl
theorem qFo (fr : Bool) (xs : List (List FV)) : qJ (.lst fr xs) = [] := nr rfl
theorem qFp (cs : List HV) : qJ (.agg cs) = cs.flatMap tE := nr rfl
theorem qCr (i : Nat) : tE (.own i) = [i] := nr rfl
theorem qK5 (x : Value) : tE (.v x) = [] := nr rfl
theorem qCs (fr : Bool) (xs : List (List FV)) : tE (.lst fr xs) = [] := nr rfl
theorem qCh (S : HS) : restAll S [] = S := nr rfl
theorem xN (S : HS) (i : Nat) (r : List Nat) : restAll S (i :: r) = restAll (xM S i) r := nr rfl
theorem qE0 (e : bV) (s : aM) (i : Nat) : xM ⟨e, s⟩ i = match decide (i < 1000000) with | true => (match rlk s i with | some (.sl nw _ _ els) => HS.rest ⟨e, s⟩ i (.lst nw els) | _ => ⟨e, s⟩) | false => ⟨e, s⟩ := by unfold xM; rw [show Nat.blt i held = decide (i < 1000000) by rw [Bool.eq_iff_iff]; simp [Nat.blt_eq, held]]; rfl
theorem qQ1 (S : HS) (h : HV) (nw : Bool) (ty s : Nat) (els : List (List HV)) : qQ3 S h (some (.hl nw ty s els)) = [] := nr rfl
theorem qRv (N : Nat) (d : Option Nat) (S : HS) (K : HS → Prop) : jJ N d S K = match dM N d with | true => K (S.set d (.v undef)) | false => False := nr rfl
theorem qLv (P : Program) (N : Nat) (o : Oper) (S : HS) (K : HS → Prop) : qNk P N o S K .yes = HGo P N o S K := nr rfl
theorem qRu (P : Program) (N : Nat) (o : Oper) (S : HS) (K : HS → Prop) : qNk P N o S K .no = jJ N o.dst S K := nr rfl
theorem qLw (P : Program) (N : Nat) (o : Oper) (S : HS) (K : HS → Prop) (d : Nat) (b want : Bool) : qNk P N o S K (.ask d b want) = match b == want with | true => HGo P N o (S.rep d (.v (.bool want))) K | false => jJ N o.dst (S.rep d (.v (.bool (!want)))) K := nr rfl
theorem qXa (P : Program) (N : Nat) (ds : List (Option Nat)) (K : HS → Prop) (S : HS) : HV2 P N ds K [] S = K S := nr rfl
theorem qRt (P : Program) (N : Nat) (ds : List (Option Nat)) (K : HS → Prop) (o : Oper) (rest : List Oper) (S : HS) : HV2 P N ds K (o :: rest) S = qNk P N o S (HV2 P N ds K rest) (hG S.env ds o.guard) := nr rfl
theorem qXj (P : Program) (o : Oper) (S : HS) (K : HS → Prop) (c : Prop) (h : HV) (S' : HS) : qAl P o S K (.go c h S') = (cZ o.op = true ∧ c ∧ K (S.set o.dst h)) := nr rfl
theorem qL8 (P : Program) (o : Oper) (S : HS) (K : HS → Prop) (f : FuncId) (args : List HV) : qAl P o S K (.call f args) = zK4 P f args S (fun x => lE K (S.set o.dst (.v x))) := nr rfl
theorem qSb (P : Program) (o : Oper) (S : HS) (K : HS → Prop) (t : TypeId) (x y : List Value) (neg : Bool) : qAl P o S K (.eqn t x y neg) = ∃ r, EqR P t x.toArray y.toArray r ∧ lE K (S.set o.dst (.v (.bool (neg ^^ r)))) := nr rfl
theorem qXk (P : Program) (N : Nat) (o : Oper) (S : HS) (K : HS → Prop) : qTw P N o S K = match dM N o.dst with | true => qAl P o S K (hop P S (yR o.dst) o.op) | false => False := nr rfl
theorem qGd (P : Program) (N : Nat) (o : Oper) (S : HS) (K : HS → Prop) : qB3 P N o S K .yes = qTw P N o S K := nr rfl
theorem qLu (P : Program) (N : Nat) (o : Oper) (S : HS) (K : HS → Prop) : qB3 P N o S K .no = jJ N o.dst S K := nr rfl
theorem qGe (P : Program) (N : Nat) (o : Oper) (S : HS) (K : HS → Prop) (d : Nat) (b want : Bool) : qB3 P N o S K (.ask d b want) = match b == want with | true => qTw P N o (S.rep d (.v (.bool want))) K | false => jJ N o.dst (S.rep d (.v (.bool (!want)))) K := nr rfl
theorem qW9 (P : Program) (N : Nat) (ds : List (Option Nat)) (K : HS → Prop) (S : HS) : HVq P N ds K [] S = K S := nr rfl
theorem qRs (P : Program) (N : Nat) (ds : List (Option Nat)) (K : HS → Prop) (o : Oper) (rest : List Oper) (S : HS) : HVq P N ds K (o :: rest) S = qB3 P N o S (HVq P N ds K rest) (hG S.env ds o.guard) := nr rfl
theorem qKm (t : Nat) : cD (.tmp t) = [t] := nr rfl
theorem qCf (v : Value) : cD (.const v) = [] := nr rfl
theorem xJ (g : Nat) : cD (.global g) = [] := nr rfl
theorem qEp (f : FuncId) : cD (.func f) = [] := nr rfl
theorem qEm  : pY [] = [] := nr rfl
theorem qCe (x : Operand) (r : List Operand) : pY (x :: r) = cD x ++ pY r := nr rfl
theorem qEk  : mC [] = [] := nr rfl
theorem qCb (k : Nat) (x : Operand) (r : List (Nat × Operand)) : mC ((k, x) :: r) = cD x ++ mC r := nr rfl
theorem qEq (x : Operand) : qCg (some x) = cD x := nr rfl
theorem qEr  : qCg none = [] := nr rfl
theorem xD (x : Operand) : cH (.move x) = cD x := nr rfl
theorem rK (x : Operand) : cH (.assign x) = cD x := nr rfl
theorem xC (x : Operand) : cH (.nilCheck x) = cD x := nr rfl
theorem xB (c a b : Operand) : cH (.pick c a b) = cD c ++ (cD a ++ cD b) := nr rfl
theorem qY (x : Operand) (i : Nat) : cH (.extract x i) = cD x := nr rfl
theorem uF (t : TypeId) (x : Operand) (f : Nat) : cH (.field t x f) = cD x := nr rfl
theorem uG (t : TypeId) (x : Operand) (f : Nat) : cH (.fieldAddr t x f) = cD x := nr rfl
theorem xE (t : TypeId) (x : Operand) : cH (.load t x) = cD x := nr rfl
theorem qEl (u : UnOp) (t : TypeId) (x : Operand) : cH (.unOp u t x) = cD x := nr rfl
theorem xF (s d : TypeId) (x : Operand) : cH (.convert s d x) = cD x := nr rfl
theorem uD (t : TypeId) (x i : Operand) : cH (.indexAddr t x i) = cD x ++ cD i := nr rfl
theorem uC (t : TypeId) (x i : Operand) : cH (.index t x i) = cD x ++ cD i := nr rfl
theorem uA (t : TypeId) (x : Operand) (l h : Option Operand) : cH (.slice t x l h none) = cD x ++ (qCg l ++ qCg h) := nr rfl
theorem qCd (b : BinOp) (t : TypeId) (x y : Operand) (u : TypeId) : cH (.binOp b t x y u) = cD x ++ cD y := nr rfl
theorem uH (t : TypeId) (ps : Array (Nat × Operand)) : cH (.build t ps) = mC ps.toList := nr rfl
theorem rJ (t : TypeId) (n : Nat) (ps : Array (Nat × Operand)) : cH (.buildSlice t n ps) = mC ps.toList := nr rfl
theorem uB (t : TypeId) (x y : Operand) : cH (.makeSlice t x y) = cD x ++ cD y := nr rfl
theorem xG (k : Callee) (args : Array Operand) (ats : Array TypeId) : cH (.call ⟨k, args, ats⟩) = qEo k ++ pY args.toList := nr rfl
theorem xH (x : Operand) : qEo (.value x) = cD x := nr rfl
theorem rL (b : Builtin) : qEo (.builtin b) = [] := nr rfl
theorem qEt (ds : List (Option Nat)) : oR ds none = [] := nr rfl
theorem qEs (ds : List (Option Nat)) (g : Nat) (b : Bool) : oR ds (some (g, b)) = match ds[g]? with | some (some d) => [d] | _ => [] := nr rfl
theorem qK1 (e : bV) : jM e [] = [] := nr rfl
theorem qFl (e : bV) (t : Nat) (r : List Nat) : jM e (t :: r) = match hlk e t with | some h => (t, h) :: jM e r | none => jM e r := nr rfl
theorem qFi  : jT [] = true := nr rfl
theorem qQw (k : Nat) (v : Value) (r : bV) : jT ((k, .v v) :: r) = jT r := nr rfl
theorem qFj (k : Nat) (b : Bool) (xs : List (List FV)) (r : bV) : jT ((k, .lst b xs) :: r) = jT r := nr rfl
theorem qFk (k : Nat) (hs : List HV) (r : bV) : jT ((k, .agg hs) :: r) = jT r := nr rfl
theorem qR6 (d : Option Nat) (S : HS) (K : HS → Prop) (c : Prop) (i : Nat) (S' : HS) : qYl d S K (.go c (.own i) S') = match rlk S'.st i with | some (.sl _ _ _ els) => c ∧ K (S.set d (.lst true els)) | _ => False := nr rfl
theorem qCu (t : TypeId) (n : Nat) (ps : Array (Nat × Operand)) : zFg (.buildSlice t n ps) = true := nr rfl
theorem qF1 (t : TypeId) (x y : Operand) : zFg (.makeSlice t x y) = true := nr rfl
theorem xR (t : TypeId) (n : Nat) (ps : Array (Nat × Operand)) : cZ (.buildSlice t n ps) = false := nr rfl
theorem qCj (t : TypeId) (x y : Operand) : cZ (.makeSlice t x y) = false := nr rfl
theorem qXh (P : Program) (o : Oper) (S T : HS) (K : HS → Prop) (c : Prop) (h : HV) (S' : HS) : tU P o S T K (.go c h S') = match cZ o.op with | true => c ∧ K (S.set o.dst h) | false => (match zFg o.op && jT T.env with | true => qYl o.dst S K (hop P ⟨T.env, []⟩ (yR o.dst) o.op) | false => False) := nr rfl
theorem qL7 (P : Program) (o : Oper) (S T : HS) (K : HS → Prop) (f : FuncId) (args : List HV) : tU P o S T K (.call f args) = zH1 P f args T (fun x => lE K (S.set o.dst x)) := nr rfl
theorem qSa (P : Program) (o : Oper) (S T : HS) (K : HS → Prop) (t : TypeId) (x y : List Value) (neg : Bool) : tU P o S T K (.eqn t x y neg) = ∃ r, EqR P t x.toArray y.toArray r ∧ lE K (S.set o.dst (.v (.bool (neg ^^ r)))) := nr rfl
theorem qXi (P : Program) (N : Nat) (o : Oper) (S T : HS) (K : HS → Prop) : qVv P N o S T K = match dM N o.dst with | true => tU P o S T K (hop P T (yR o.dst) o.op) | false => False := nr rfl
theorem qGb (P : Program) (N : Nat) (o : Oper) (S T : HS) (K : HS → Prop) : qB2 P N o S T K .yes = qVv P N o S T K := nr rfl
theorem qLt (P : Program) (N : Nat) (o : Oper) (S T : HS) (K : HS → Prop) : qB2 P N o S T K .no = jJ N o.dst S K := nr rfl
theorem qGc (P : Program) (N : Nat) (o : Oper) (S T : HS) (K : HS → Prop) (d : Nat) (b want : Bool) : qB2 P N o S T K (.ask d b want) = match b == want with | true => qVv P N o (S.rep d (.v (.bool want))) (T.rep d (.v (.bool want))) K | false => jJ N o.dst (S.rep d (.v (.bool (!want)))) K := nr rfl
theorem qW8 (P : Program) (N : Nat) (ds : List (Option Nat)) (K : HS → Prop) (S : HS) : HVr P N ds K [] S = K S := nr rfl
theorem qRr (P : Program) (N : Nat) (ds : List (Option Nat)) (K : HS → Prop) (o : Oper) (rest : List Oper) (S : HS) : HVr P N ds K (o :: rest) S = qB2 P N o S ⟨jM S.env (oR ds o.guard ++ cH o.op), S.st⟩ (HVr P N ds K rest) (hG (jM S.env (oR ds o.guard ++ cH o.op)) ds o.guard) := nr rfl
theorem qLr (k : Nat) : yR (some k) = 8 * k := nr rfl
theorem qLs  : yR none = 0 := nr rfl
theorem qE4 (x : Operand) : cZ (.move x) = true := nr rfl
theorem xS (x : Operand) : cZ (.assign x) = true := nr rfl
theorem qE2 (c a b : Operand) : cZ (.pick c a b) = true := nr rfl
theorem uJ (x : Operand) (i : Nat) : cZ (.extract x i) = true := nr rfl
theorem qCm (t : TypeId) (x : Operand) (f : Nat) : cZ (.field t x f) = true := nr rfl
theorem qCn (t : TypeId) (x : Operand) (f : Nat) : cZ (.fieldAddr t x f) = true := nr rfl
theorem qE3 (x : Operand) : cZ (.nilCheck x) = true := nr rfl
theorem qCl (t : TypeId) (x i : Operand) : cZ (.indexAddr t x i) = true := nr rfl
theorem qCi (t : TypeId) (x : Operand) (l h m : Option Operand) : cZ (.slice t x l h m) = true := nr rfl
theorem qE5 (t : TypeId) (x : Operand) : cZ (.load t x) = true := nr rfl
theorem qCo (t : TypeId) (ps : Array (Nat × Operand)) : cZ (.build t ps) = true := nr rfl
theorem qKx (b : BinOp) (t : TypeId) (x y : Operand) (u : TypeId) : cZ (.binOp b t x y u) = true := nr rfl
theorem qQt (u : UnOp) (t : TypeId) (x : Operand) : cZ (.unOp u t x) = true := nr rfl
theorem qE6 (s d : TypeId) (x : Operand) : cZ (.convert s d x) = true := nr rfl
theorem qCk (t : TypeId) (x i : Operand) : cZ (.index t x i) = true := nr rfl
theorem qKw (args : Array Operand) (ats : Array TypeId) : cZ (.call ⟨.builtin .len, args, ats⟩) = true := nr rfl
theorem qKv (args : Array Operand) (ats : Array TypeId) : cZ (.call ⟨.builtin .min, args, ats⟩) = true := nr rfl
theorem qNf (k : Nat) : pS k [] = [] := nr rfl
theorem qJ1 (k : Nat) (v : HV) (r : List HV) : pS k (v :: r) = (k, v) :: pS (k + 1) r := nr rfl
theorem zZ (e : bV) (s : aM) (ks ids : List Nat) : HS.keep ⟨e, s⟩ ks ids = ⟨sF ks e, rN ids s⟩ := nr rfl
theorem zR (l : bV) : sF [] l = [] := nr rfl
theorem zP (k : Nat) (r : List Nat) (l : bV) : sF (k :: r) l = match hlk l k with | some v => (k, v) :: sF r l | none => sF r l := nr rfl
theorem zQ (l : aM) : rN [] l = [] := nr rfl
theorem zN (k : Nat) (r : List Nat) (l : aM) : rN (k :: r) l = match rlk l k with | some v => (k, v) :: rN r l | none => rN r l := nr rfl
theorem yA (P : Program) (rs : List ResultVar) (Q : HV → aM → Prop) (S : HS) : zCo P rs Q .normal S = kV P S rs fun hs => qJ9 S (qP hs) Q := nr rfl
theorem yM (P : Program) (rs : List ResultVar) (Q : HV → aM → Prop) (S : HS) : zCo P rs Q .ret S = kV P S rs fun hs => qJ9 S (qP hs) Q := nr rfl
theorem yH (P : Program) (S : HS) (K : List HV → Prop) : kV P S [] K = K [] := nr rfl
theorem aQ (P : Program) (S : HS) (p ty : Nat) (r : List ResultVar) (K : List HV → Prop) : kV P S (.cell p ty :: r) K = zG5 (nP S (cJ P ty) (hlk S.env p)) fun h => kV P S r fun hs => K (h :: hs) := nr rfl
theorem aZ (c : Prop) (h : HV) (S : HS) (K : HV → Prop) : zG5 (.go c h S) K = (c ∧ K h) := nr rfl
theorem yE (P : Program) (S : HS) (t : Nat) (r : List ResultVar) (K : List HV → Prop) : kV P S (.tmp t :: r) K = match hlk S.env t with | some h => kV P S r fun hs => K (h :: hs) | none => False := nr rfl
theorem yK (h : HV) : qP [h] = h := nr rfl
theorem yJ (a b : HV) (r : List HV) : qP (a :: b :: r) = .tup (a :: b :: r) := nr rfl
theorem zFa (i : Nat) : pos [] i = none := nr rfl
theorem yF (k : Nat) (r : List Nat) (i : Nat) : pos (k :: r) i = if k = i then some 0 else (pos r i).map (· + 1) := nr rfl
theorem qY5 (m : Nat → Option Nat) (st : aM) (k : Nat) : iT m st k [] = [] := nr rfl
theorem yG (m : Nat → Option Nat) (st : aM) (k id : Nat) (r : List Nat) : iT m st k (id :: r) = match rlk st id with | some row => (k, row.ren m) :: iT m st (k + 1) r | none => iT m st (k + 1) r := nr rfl
theorem qJz {p : Prop} (h : p) : bZ p = True := eq_true h
theorem qNc : bZ True = True := rfl
theorem ltT {a b : Int} (h : a < b) : decide (a < b) = true := decide_eq_true h
theorem ltF {a b : Int} (h : b ≤ a) : decide (a < b) = false := decide_eq_false (by omega)
theorem leT {a b : Int} (h : a ≤ b) : decide (a ≤ b) = true := decide_eq_true h
theorem leF {a b : Int} (h : b < a) : decide (a ≤ b) = false := decide_eq_false (by omega)
theorem eqT {a b : Int} (h : a = b) : decide (a = b) = true := decide_eq_true h
theorem eqF {a b : Int} (h : a < b ∨ b < a) : decide (a = b) = false := decide_eq_false (by omega)
theorem zFq {α : Type} {l : List α} {i : Nat} {d : α} (h : i < l.length) : l.getD i d = l[i] := eZ h
theorem pN {α β : Type} {f : α → β} {l : List α} {i : Nat} {d : β} (h : i < l.length) : (l.map f).getD i d = f (l[i]) := by rw [zFq (by simpa using h), List.getElem_map]
theorem qJh : (default : FV) = .v (.bool false) := rfl
theorem zJb {x : Int} (h1 : -9223372036854775808 ≤ x) (h2 : x ≤ 9223372036854775807) : IntKind.i64.wrap x = x := zJa ⟨by unfold zJ0; exact h1, by unfold zKf; exact h2⟩
theorem qD6 (n : Nat) : ((n : Int) + 1).toNat = n + 1 := by omega
theorem qKd (n m : Nat) : ((n : Int) + (m : Int)).toNat = n + m := by omega
theorem qDn {α : Type} {f : α → List FV} {sz : Nat} (l : List α) (h : ∀ a, (f a).length = sz) : Wid sz (l.map f) := fun x hx => by
 obtain ⟨a, -, rfl⟩ := List.mem_map.1 hx; exact h a
end Go.Eng
end

section
set_option linter.unusedSimpArgs false
set_option linter.unusedVariables false
namespace Go.Eng
open Go Go.RowKit
def qQc (s : ByteArray) : List FV := [.v (.string s)]
def dD (a : List ByteArray) : List (List FV) := a.map qQc
theorem cQ (a : List ByteArray) : (dD a).length = a.length := by simp [dD]
theorem rH (a : List ByteArray) : Wid 1 (dD a) = True := eq_true (qDn a fun _ => rfl)
theorem qQa {a : List ByteArray} {i : Nat} {d : List FV} (h : i < a.length) : (dD a).getD i d = [.v (.string a[i])] := by unfold dD; rw [pN h]; rfl
theorem pW (a : List ByteArray) : ∀ x ∈ dD a, ∀ f ∈ x, FreshF f := fun x hx f hf => by
 obtain ⟨s, -, rfl⟩ := List.mem_map.1 hx; simp [qQc] at hf; subst hf; exact .v _
theorem qAo (a : List ByteArray) (s : ByteArray) : dD a ++ [[.v (.string s)]] = dD (a ++ [s]) := by simp [dD, qQc]
theorem qYs (a : List ByteArray) (n : Nat) : (dD a).take n = dD (a.take n) := by simp [dD, List.map_take]
theorem zHz {P : Program} {N : Nat} {x : Code} {Q : eV} {S : HS} (k id ty sz : Nat) (hk : hlk S.env k = some (.v (.slice none 0 0))) (h : HW P N x Q (((S.kill (only id)).row id (.sl true ty sz [])).rep k (.own id))) : HW P N x Q S := fun c l w I => by
 refine h c l w ?_
 obtain ⟨ρ, xs, G⟩ := I
 have G2 := G.new id (.sl true ty sz []) [] (.slice none 0 0) (w' := w) (Below.refl _ _) (fun b hb => by cases hb) (fun _ _ =>
  ⟨by rw [bF]; exact World.ownsRow_nil w 0 ty sz, ⟨by simp, fun i k hi => absurd hi (by simp)⟩, fun b hb => by rw [bF] at hb; cases hb⟩)
 refine ⟨_, _, G2.rows, G2.apart, fun j y hj => ?_, G2.kept, G2.a0⟩
 simp only [HS.rep, qGt] at hj
 by_cases e : j = k
 ·subst e
  rw [if_pos rfl] at hj
  have h1 : hlk ((S.kill (only id)).row id (.sl true ty sz [])).env j = some (.v (.slice none 0 0)) := by
   show hlk (kQ (only id) S.env) j = _
   rw [iX, hk]; simp [HV.kill]
  rw [h1] at hj
  simp only [Option.map_some, Option.some.injEq] at hj
  subst hj
  obtain ⟨v, a, b⟩ := G2.env j _ h1
  have := bN b
  subst this
  refine ⟨_, a, ?_⟩
  have := RepH.own (w := w) (A := c.A (fY ρ id (.slice none 0 0)) (((S.kill (only id)).row id (.sl true ty sz [])).rep j (.own id)).st) (n0 := c.n0) (ρ := fY ρ id (.slice none 0 0)) id (by rw [bF]; rfl)
  rw [bF] at this
  exact this
 ·rw [if_neg e] at hj
  exact G2.env j y hj
theorem yV {P : Program} {f : FuncId} {args : List HV} {x : Value} (h : ∀ (w : World) (vs : List Value), mX w (fun _ => False) w.heap.size (fun _ => undef) vs args → Calls P f vs.toArray w (Ret fun r w' => r = x ∧ Below w.heap.size w w')) : HFun P f args (fun h st => h = .v x ∧ st = []) := fun w vs R =>
 Ret.mono (h w vs R) fun v w' ⟨hv, B⟩ => ⟨B, .v x, [], fun i r hi => by simp [rlk] at hi, ⟨rfl, rfl⟩, fun _ => undef, fun _ => [], ⟨fun id r hr => by simp [rlk] at hr, fun i j r s b hne hi => by simp [rlk] at hi, fun k x hk => by simp [hlk] at hk, ⟨B.os, B.tape, B.output, B.size, fun b hlt _ => B.block b hlt⟩, fun b hb => ⟨hb, fun h => h⟩⟩, by rw [hv]; exact .v x⟩
theorem zJ3 {st : aM} {fr : Bool} {xs ys : List (List FV)} (h : mK xs = ys) : Lend st (.lst fr xs) (.lst false ys) := h ▸ .lst fr xs
theorem zJ2 {st : aM} {id ty sz : Nat} {nw : Bool} {els ys : List (List FV)} (h : mK els = ys) (hr : rlk st id = some (.sl nw ty sz els)) : Lend st (.own id) (.lst false ys) := h ▸ .own hr
section
variable {S : HS} {Q : HV → aM → Prop}
theorem bK {a : Value} (q : Q (.v a) []) : qJ9 S (.v a) Q := ⟨[], by simp, rfl, .v _, fun id h => by simp at h, by rw [HV.ren]; exact q⟩
theorem qGf {a b c : Value} (q : Q (.tup [.v a, .v b, .v c]) []) : qJ9 S (.tup [.v a, .v b, .v c]) Q :=
 ⟨[], by simp, rfl, .tup fun x hx => by simp at hx; rcases hx with rfl | rfl | rfl <;> exact .v _, fun id h => by simp at h, by rw [HV.ren]; simp only [List.map_cons, List.map_nil, HV.ren]; exact q⟩
theorem zCh {id ty sz : Nat} {els : List (List FV)} (hr : rlk S.st id = some (.sl true ty sz els)) (hf : ∀ x ∈ els, ∀ f ∈ x, FreshF f) (q : Q (.own 0) [(0, .sl true ty sz els)]) : qJ9 S (.own id) Q :=
 ⟨[id], by simp, by simp [dup], .own _, fun i h r hr' => by
  simp at h; subst h; rw [hr] at hr'; simp only [Option.some.injEq] at hr'; subst hr'; exact ⟨rfl, hf⟩, by
  rw [HV.ren]; simp only [pos, if_true, iT, hr, Row.ren]; exact q⟩
end
end Go.Eng
end

section
set_option linter.unusedSimpArgs false
set_option linter.unusedVariables false
namespace Go.Eng
open Go Go.RowKit
theorem qQ8 (j : Nat) : qA9 [] j = none := nr rfl
theorem qLa (k : Nat) (r : List Nat) (j : Nat) : qA9 (k :: r) j = if j = 0 then some k else qA9 r (j - 1) := by cases j <;> simp [qA9]
theorem zA1 (ids : List Nat) (n j : Nat) : sh2 ids n j = match qA9 ids j with | some i => some i | none => bif decide (j < 8) then some (n + j) else none := by
 unfold sh2; split <;> rename_i h <;> rw [h]; congr 1; rw [Bool.eq_iff_iff]; simp [Nat.blt_eq]
theorem qW7 (i : Nat) : inL [] i = false := nr rfl
theorem qRp (k : Nat) (r : List Nat) (i : Nat) : inL (k :: r) i = (k == i || inL r i) := nr rfl
theorem qLp : qRn none = true := nr rfl
theorem qW2 (nw : Bool) (t s : Nat) (xs : List (List FV)) : qRn (some (.sl nw t s xs)) = true := nr rfl
theorem qW4 (nw : Bool) (t : Nat) (cs : List HV) : qRn (some (.bx nw t cs)) = false := nr rfl
theorem qW3 (nw : Bool) (t s : Nat) (xs : List (List HV)) : qRn (some (.hl nw t s xs)) = true := nr rfl
theorem qW6 (nw : Bool) (t s : Nat) (xs : List (List HV)) : kY (some (.hl nw t s xs)) = False := nr rfl
theorem qLq : kY none = False := nr rfl
theorem qW5 (nw : Bool) (t s : Nat) (xs : List (List FV)) : kY (some (.sl nw t s xs)) = False := nr rfl
theorem zCf (t : Nat) (cs : List HV) : kY (some (.bx true t cs)) = False := nr rfl
theorem zCg (t : Nat) (cs : List HV) : kY (some (.bx false t cs)) = True := nr rfl
theorem qKb (ids : List Nat) (st : aM) (n i : Nat) : jP ids st n i = (cR n i || (inL ids i && qRn (rlk st i))) := nr rfl
theorem qXx (ids : List Nat) (n i : Nat) : lA ids n i = (cR n i || inL ids i) := nr rfl
theorem qK9 (ids : List Nat) (st : aM) (j : Nat) : dB ids st j = match qA9 ids j with | some i => rlk st i | none => none := nr rfl
theorem qX6 (nw : Bool) (t s : Nat) (xs : List (List FV)) : (Row.sl nw t s xs).dark = .sl nw t s xs := nr rfl
theorem qX8 (nw : Bool) (t : Nat) (cs : List HV) : (Row.bx nw t cs).dark = .bx false t cs := nr rfl
theorem qX7 (nw : Bool) (t s : Nat) (xs : List (List HV)) : (Row.hl nw t s xs).dark = .hl nw t s xs := nr rfl
theorem qX2 (o : Option Row) (nw : Bool) (t s : Nat) (xs : List (List HV)) : (Row.hl nw t s xs).flag o = .hl nw t s xs := by
 cases o with
 | none => rfl
 | some o => cases o <;> rfl
theorem qS9 (r : Row) (nw : Bool) (t s : Nat) (xs : List (List HV)) : r.flag (some (.hl nw t s xs)) = r := by cases r <;> rfl
theorem qM5 (r : Row) : r.flag none = r := nr rfl
theorem qX1 (o : Option Row) (nw : Bool) (t s : Nat) (xs : List (List FV)) : (Row.sl nw t s xs).flag o = .sl nw t s xs := by
 cases o with
 | none => rfl
 | some o => cases o <;> rfl
theorem qX3 (nw n2 : Bool) (t t2 : Nat) (cs c2 : List HV) : (Row.bx n2 t2 c2).flag (some (.bx nw t cs)) = .bx nw t2 c2 := nr rfl
theorem qS8 (r : Row) (nw : Bool) (t s : Nat) (xs : List (List FV)) : r.flag (some (.sl nw t s xs)) = r := by cases r <;> rfl
theorem qNa (m : Nat → Option Nat) (st : aM) (k : Nat) : iD m st k [] = [] := nr rfl
theorem qJt (m : Nat → Option Nat) (st : aM) (k id : Nat) (r : List Nat) : iD m st k (id :: r) = match rlk st id with | some row => (k, (row.ren m).dark) :: iD m st (k + 1) r | none => iD m st (k + 1) r := nr rfl
theorem qV2 (S0 : aM) (ids : List Nat) (n : Nat) (b : aM) : swp S0 ids n [] b = b := nr rfl
theorem qP9 (S0 : aM) (ids : List Nat) (n j : Nat) (r : Row) (t b : aM) : swp S0 ids n ((j, r) :: t) b = ((sh2 ids n j).getD 0, (r.ren (sh2 ids n)).flag (dB ids S0 j)) :: swp S0 ids n t b := nr rfl
theorem qV3 (e : bV) (s : aM) (ids : List Nat) (n : Nat) (st : aM) : HS.swap ⟨e, s⟩ ids n st = ⟨kQ (jP ids s n) e, swp s ids n st (cY (lA ids n) s)⟩ := nr rfl
theorem zAf (st : aM) (k : Nat) : qDk st k [] = True := nr rfl
theorem yL (st : aM) (k id : Nat) (r : List Nat) : qDk st k (id :: r) = ((kY (rlk st id) → k = id) ∧ qDk st (k + 1) r) := nr rfl
theorem qZt (ids : List Nat) (st : aM) : mM ids st [] = True := nr rfl
theorem zCb (ids : List Nat) (st : aM) (j : Nat) (nw : Bool) (t s : Nat) (xs : List (List FV)) (r : aM) : mM ids st ((j, .sl nw t s xs) :: r) = mM ids st r := nr rfl
theorem zCc (ids : List Nat) (st : aM) (j : Nat) (nw : Bool) (t s : Nat) (xs : List (List HV)) (r : aM) : mM ids st ((j, .hl nw t s xs) :: r) = mM ids st r := nr rfl
theorem zCd (ids : List Nat) (st : aM) (j : Nat) (t : Nat) (cs : List HV) (r : aM) : mM ids st ((j, .bx true t cs) :: r) = mM ids st r := nr rfl
theorem zCe (ids : List Nat) (st : aM) (j : Nat) (t : Nat) (cs : List HV) (r : aM) : mM ids st ((j, .bx false t cs) :: r) = ((qA9 ids j = some j ∧ kY (rlk st j)) ∧ mM ids st r) := by
 rw [eX]; rfl
theorem aJ (P : Program) (rs : List ResultVar) (st0 : aM) (Q : HV → aM → Prop) (S : HS) : qU9 P rs st0 Q .normal S = kV P S rs fun hs => qDl st0 S (qP hs) Q := rfl
theorem aR (P : Program) (rs : List ResultVar) (st0 : aM) (Q : HV → aM → Prop) (S : HS) : qU9 P rs st0 Q .ret S = kV P S rs fun hs => qDl st0 S (qP hs) Q := rfl
theorem cE (ids : List Nat) {st0 : aM} {S : HS} {h : HV} {Q : HV → aM → Prop} (h1 : ids.length ≤ 8) (h2 : dup ids = false) (h3 : qDk S.st 0 ids) (h4 : mM ids S.st st0) {h' : HV} {st' : aM} (h5 : h.ren (pos ids) = h') (h6 : iT (pos ids) S.st 0 ids = st') (q : Q h' st') : qDl st0 S h Q :=
 ⟨ids, h1, h2, h3, h4, by rw [h5, h6]; exact q⟩
theorem aF : qP [] = .tup [] := nr rfl
section
variable {P : Program} {N : Nat} {x : Code} {Q : eV} {S S' : HS}
theorem qYh (id k nid ty sz : Nat) {nw : Bool} {bt : Nat} {cells : List HV} (hne : id ≠ nid) (hr : rlk S.st id = some (.bx nw bt cells)) (hk : cells[k]? = some (.v (.slice none 0 0)))
  (hs : (⟨kQ (only nid) S.env, (nid, .sl true ty sz []) :: fX id (.bx nw bt ((cells.map (HV.kill (only nid))).set k (.own nid))) (cY (only nid) S.st)⟩ : HS) = S') (h : HW P N x Q S') : HW P N x Q S := fun c l w I => by
 subst hs
 refine h c l w ?_
 obtain ⟨ρ, xs, G⟩ := I
 have G2 := G.new nid (.sl true ty sz []) [] (.slice none 0 0) (w' := w) (Below.refl _ _) (fun b hb => by cases hb) (fun _ _ =>
  ⟨by rw [bF]; exact World.ownsRow_nil w 0 ty sz, ⟨by simp, fun i k hi => absurd hi (by simp)⟩, fun b hb => by rw [bF] at hb; cases hb⟩)
 have hr2 : rlk (cY (only nid) S.st) id = some (.bx nw bt (cells.map (HV.kill (only nid)))) := by rw [eQ, xU hne, cond_false, hr]; rfl
 have hl : ∀ i, rlk ((nid, Row.sl true ty sz []) :: fX id (.bx nw bt ((cells.map (HV.kill (only nid))).set k (.own nid))) (cY (only nid) S.st)) i =
   if i = id then some (.bx nw bt ((cells.map (HV.kill (only nid))).set k (.own nid))) else rlk ((nid, Row.sl true ty sz []) :: cY (only nid) S.st) i := fun i => by
  simp only [rlk]
  by_cases e : nid = i
  ·rw [if_pos e, if_neg (by omega), if_pos e]
  ·rw [if_neg e, gY id _ _ _ hr2]
   by_cases e2 : i = id
   ·rw [if_pos e2, if_pos e2]
   ·rw [if_neg e2, if_neg e2, if_neg e]
 have hid : rlk ((nid, Row.sl true ty sz []) :: cY (only nid) S.st) id = some (.bx nw bt (cells.map (HV.kill (only nid)))) := by simp only [rlk]; rw [if_neg (by omega)]; exact hr2
 have hA : ∀ b, c.A (fY ρ nid (.slice none 0 0)) ((nid, Row.sl true ty sz []) :: fX id (.bx nw bt ((cells.map (HV.kill (only nid))).set k (.own nid))) (cY (only nid) S.st)) b → c.A (fY ρ nid (.slice none 0 0)) ((nid, Row.sl true ty sz []) :: cY (only nid) S.st) b := by
  rintro b (h0 | ⟨i, s, hi, hb⟩)
  ·exact .inl h0
  ·right
   rw [hl] at hi
   by_cases e : i = id
   ·subst e; exact ⟨_, _, hid, hb⟩
   ·rw [if_neg e] at hi; exact ⟨i, s, hi, hb⟩
 refine ⟨fY ρ nid (.slice none 0 0), fun i => if i = nid then [] else xs i, ⟨fun i r hi => ?_, fun i j r s b hne hi hj hbi hbj => ?_, fun j y hj => ?_, G2.kept, G2.a0⟩⟩
 ·rw [hl] at hi
  by_cases e : i = id
  ·subst e
   rw [if_pos rfl] at hi
   simp only [Option.some.injEq] at hi
   subst hi
   have R := G2.rows i _ hid
   refine ⟨by simpa [Row.ty, Row.sz, Row.len] using R.own, ⟨R.rep.1, fun q hq => ?_⟩, R.new⟩
   have hq' : q < (cells.map (HV.kill (only nid))).length := by simpa using hq
   obtain ⟨u, u1, u2, u3⟩ := R.rep.2 q hq'
   by_cases eq : k = q
   ·subst eq
    refine ⟨u, u1, u2, ?_⟩
    rw [List.getElem_set_self]
    have hc : cells[k]'(by simpa using hq') = .v (.slice none 0 0) := by
     have := List.getElem?_eq_some_iff.1 hk
     exact this.2
    rw [List.getElem_map, hc, HV.kill] at u3
    have := bN u3
    subst this
    have := RepH.own (w := w) (A := c.A (fY ρ nid (.slice none 0 0)) ((nid, Row.sl true ty sz []) :: fX i (.bx nw bt ((cells.map (HV.kill (only nid))).set k (.own nid))) (cY (only nid) S.st))) (n0 := c.n0) (ρ := fY ρ nid (.slice none 0 0)) nid (by rw [bF]; rfl)
    rw [bF] at this
    exact this
   ·refine ⟨u, u1, u2, ?_⟩
    rw [List.getElem_set_ne eq]
    exact u3.up (Nat.le_refl _) (fun _ _ _ => rfl) (fun b _ => hA b) (Nat.le_refl _)
  ·rw [if_neg e] at hi
   exact (G2.rows i r hi).up (Nat.le_refl _) (fun _ _ _ => rfl) (fun b _ => hA b) (fun _ _ => rfl)
 ·have back : ∀ i s, rlk ((nid, Row.sl true ty sz []) :: fX id (.bx nw bt ((cells.map (HV.kill (only nid))).set k (.own nid))) (cY (only nid) S.st)) i = some s → ∃ s0, rlk ((nid, Row.sl true ty sz []) :: cY (only nid) S.st) i = some s0 := by
   intro i s hi
   rw [hl] at hi
   by_cases e : i = id
   ·subst e; exact ⟨_, hid⟩
   ·rw [if_neg e] at hi; exact ⟨s, hi⟩
  obtain ⟨r0, h1⟩ := back i r hi
  obtain ⟨s0, h2⟩ := back j s hj
  exact G2.apart i j r0 s0 b hne h1 h2 hbi hbj
 ·obtain ⟨v, h1, h2⟩ := G2.env j y hj
  exact ⟨v, h1, h2.up (Nat.le_refl _) (fun _ _ _ => rfl) (fun b _ => hA b) (Nat.le_refl _)⟩
end
section
variable {P : Program} {N : Nat} {x : Code} {Q : eV} {S : HS} {id : Nat} {R : HS → Prop}
end
end Go.Eng
end

section
set_option linter.unusedSimpArgs false
set_option linter.unusedVariables false
namespace Go.Eng
open Go Go.RowKit
def zCk (R : HS → Prop) (Q : eV) : eV
 | .normal, S => R S
 | e, S => Q e S
section
variable {P : Program} {N : Nat} {x : Code} {Q : eV} {S : HS} {R : HS → Prop}
theorem oH (h : R S) : zCk R Q .normal S := h
theorem kF {ι : Type} (E : ι → HS) (I : ι → Prop) (ks ids : List Nat) (hx : HW P N x (zCk (fun S' => ∃ j, S'.keep ks ids = E j ∧ I j) Q) S) (hy : ∀ S' j, S'.keep ks ids = E j → I j → Q .normal S') : HW P N x Q S :=
 hx.mono fun e S' h => by
  cases e with
  | normal => obtain ⟨j, hE, hI⟩ := h; exact hy S' j hE hI
  | _ => exact h
end
theorem qDv {P : Program} {N : Nat} {x : Code} {Q : eV} {S S' : HS} (k id ty sz : Nat) (hk : hlk S.env k = some (.v (.slice none 0 0))) (hs : ((S.kill (only id)).row id (.sl true ty sz [])).rep k (.own id) = S') (h : HW P N x Q S') : HW P N x Q S := zHz k id ty sz hk (hs ▸ h)
end Go.Eng
end

section
set_option linter.unusedSimpArgs false
set_option linter.unusedVariables false
namespace Go.Eng
open Go Go.RowKit
section
variable {P : Program} {N : Nat} {ds : List (Option Nat)} {K : HS → Prop} {S : HS} {Q : eV}
end
end Go.Eng
end

section
set_option linter.unusedSimpArgs false
set_option linter.unusedVariables false
namespace Go.Eng
open Go Go.RowKit
def nm (a b : Nat) : Nat → Option Nat := fun i => if i = a then some b else if i = b then none else some i
def zF0 (m : Nat → Option Nat) : bV → bV
 | [] => []
 | (k, h) :: r => (k, h.ren m) :: zF0 m r
def zAz (a b : Nat) : aM → aM
 | [] => []
 | (k, r) :: t => (if k = a then b else k, r.ren (nm a b)) :: zAz a b t
def HS.name (S : HS) (a b : Nat) : HS := ⟨zF0 (nm a b) S.env, zAz a b S.st⟩
theorem qR8 (m : Nat → Option Nat) : ∀ (l : bV) (k : Nat), hlk (zF0 m l) k = (hlk l k).map (HV.ren m)
 | [], k => rfl
 | (j, h) :: r, k => by
  simp only [zF0, hlk]
  split
  ·rfl
  ·exact qR8 m r k
theorem qQp {a b : Nat} (hab : a ≠ b) : ∀ (l : aM) (_ : rlk l b = none) (k : Nat), rlk (zAz a b l) k = if k = b then (rlk l a).map (Row.ren (nm a b)) else if k = a then none else (rlk l k).map (Row.ren (nm a b))
 | [], _, k => by simp [zAz, rlk]
 | (j, r) :: t, h, k => by
  simp only [rlk] at h
  by_cases hj : j = b
  ·rw [if_pos hj] at h; cases h
  ·rw [if_neg hj] at h
   have ih := qQp hab t h k
   simp only [zAz, rlk]
   by_cases e : j = a
   ·subst e
    rw [if_pos rfl, if_pos rfl]
    by_cases e2 : k = b
    ·subst e2; rw [if_pos rfl, if_pos rfl]; rfl
    ·rw [if_neg (by omega), ih, if_neg e2, if_neg e2]
     by_cases e3 : k = j
     ·rw [if_pos e3, if_pos e3]
     ·rw [if_neg e3, if_neg e3, if_neg (by omega)]
   ·rw [if_neg e, if_neg e]
    by_cases e2 : j = k
    ·subst e2; rw [if_pos rfl, if_neg hj, if_neg e, if_pos rfl]; rfl
    ·rw [if_neg e2, ih, if_neg e2]
section
variable {P : Program} {N : Nat} {x : Code} {Q : eV} {c : Ctx} {S S' : HS} {look : Nat → Option Value} {w : World}
theorem Inv.name (I : Inv c S look w) {a b ty sz : Nat} {nw : Bool} {els : List (List FV)} (hab : a ≠ b) (hb : rlk S.st b = none) (ha : rlk S.st a = some (.sl nw ty sz els)) : Inv c (S.name a b) look w := by
 obtain ⟨ρ, xs, G⟩ := I
 let ρ' : Nat → Value := fun i => if i = b then ρ a else ρ i
 let xs' : Nat → List Value := fun i => if i = b then xs a else xs i
 have hm : ∀ i j, nm a b i = some j → ρ' j = ρ i := fun i j h => by
  unfold nm at h
  by_cases e : i = a
  ·rw [if_pos e] at h; simp only [Option.some.injEq] at h; subst h; subst e; show (if b = b then _ else _) = _; rw [if_pos rfl]
  ·rw [if_neg e] at h
   by_cases e2 : i = b
   ·rw [if_pos e2] at h; cases h
   ·rw [if_neg e2] at h; simp only [Option.some.injEq] at h; subst h; show (if i = b then _ else _) = _; rw [if_neg e2]
 have back : ∀ i r, rlk (S.name a b).st i = some r → ∃ j r0, nm a b j = some i ∧ rlk S.st j = some r0 ∧ r = r0.ren (nm a b) ∧ xs' i = xs j := by
  intro i r hi
  simp only [HS.name, qQp hab _ hb] at hi
  by_cases e : i = b
  ·subst e
   rw [if_pos rfl, ha] at hi
   simp only [Option.map_some, Option.some.injEq] at hi
   exact ⟨a, _, by simp [nm], ha, hi.symm, by show (if i = i then _ else _) = _; rw [if_pos rfl]⟩
  ·rw [if_neg e] at hi
   by_cases e2 : i = a
   ·rw [if_pos e2] at hi; cases hi
   ·rw [if_neg e2] at hi
    cases hs : rlk S.st i with
    | none => rw [hs] at hi; cases hi
    | some r0 =>
     rw [hs] at hi
     simp only [Option.map_some, Option.some.injEq] at hi
     exact ⟨i, r0, by simp [nm, e, e2], hs, hi.symm, by show (if i = b then _ else _) = _; rw [if_neg e]⟩
 have hA : ∀ g, c.A ρ' (S.name a b).st g → c.A ρ S.st g := by
  rintro g (h0 | ⟨i, r, hi, hg⟩)
  ·exact .inl h0
  ·obtain ⟨j, r0, h1, h2, -, -⟩ := back i r hi
   rw [hm j i h1] at hg
   exact .inr ⟨j, r0, h2, hg⟩
 have tr : ∀ v y, RepH w (c.A ρ S.st) c.n0 ρ v y → RepH w (c.A ρ' (S.name a b).st) c.n0 ρ' v (y.ren (nm a b)) := fun v y h => (h.up (Nat.le_refl _) (fun _ _ _ => rfl) (fun b _ => hA b) (Nat.le_refl _)).ren hm
 refine ⟨ρ', xs', fun i r hi => ?_, fun i j r s g hne hi hj hgi hgj => ?_, fun k y hk => ?_, G.kept, G.a0⟩
 ·obtain ⟨j, r0, h1, h2, rfl, h4⟩ := back i r hi
  have R := G.rows j r0 h2
  obtain ⟨f1, f2, f3, f4⟩ := Row.ren_facts (nm a b) r0
  rw [h4]
  refine ⟨by rw [f1, f2, f3, hm j i h1]; exact R.own, ?_, fun g hg => by rw [f4]; rw [hm j i h1] at hg; exact R.new g hg⟩
  have rp := R.rep
  cases r0 with
  | sl nw ty sz els =>
   refine ⟨rp.1, fun p k hp hk => ?_⟩
   obtain ⟨u, u1, u2, u3⟩ := rp.2 p k hp hk
   exact ⟨u, u1, u2, u3.up (Nat.le_refl _) (fun _ _ _ => rfl) (fun b _ => hA b) (Nat.le_refl _)⟩
  | bx nw ty cells =>
   refine ⟨?_, fun k hk => ?_⟩
   ·have hji : j = i := by
     unfold nm at h1
     by_cases e : j = a
     ·subst e; rw [ha] at h2; cases h2
     ·rw [if_neg e] at h1
      by_cases e2 : j = b
      ·rw [if_pos e2] at h1; cases h1
      ·rw [if_neg e2] at h1; exact Option.some.inj h1
    rw [hm j i h1]
    rw [← hji]
    exact rp.1
   ·rw [List.length_map] at hk
    obtain ⟨u, u1, u2, u3⟩ := rp.2 k hk
    refine ⟨u, u1, u2, ?_⟩
    rw [List.getElem_map]
    exact tr _ _ u3
  | hl nw ty sz els =>
   refine ⟨fun y hy => ?_, fun p k hp hk => ?_⟩
   ·obtain ⟨z, hz, rfl⟩ := List.mem_map.1 hy
    rw [List.length_map]; exact rp.1 z hz
   ·simp only [List.length_map] at hp
    simp only [List.getElem_map, List.length_map] at hk ⊢
    obtain ⟨u, u1, u2, u3⟩ := rp.2 p k hp hk
    exact ⟨u, u1, u2, tr _ _ u3⟩
 ·obtain ⟨i', r0, h1, h2, -, -⟩ := back i r hi
  obtain ⟨j', s0, h3, h4, -, -⟩ := back j s hj
  rw [hm i' i h1] at hgi
  rw [hm j' j h3] at hgj
  exact G.apart i' j' r0 s0 g (fun e => hne (by subst e; rw [h1] at h3; exact Option.some.inj h3)) h2 h4 hgi hgj
 ·simp only [HS.name, qR8] at hk
  cases hx0 : hlk S.env k with
  | none => rw [hx0] at hk; cases hk
  | some x0 =>
   rw [hx0] at hk
   simp only [Option.map_some, Option.some.injEq] at hk
   subst hk
   obtain ⟨v, h1, h2⟩ := G.env k x0 hx0
   exact ⟨v, h1, tr v x0 h2⟩
end
end Go.Eng
end
