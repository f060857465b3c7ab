/-
  The engine of values: texts Rel, Hr, Hk, Hl, Hlo, He, Enc, Ste, Met, Spl, Nam, laid together.
-/
import Derived.Test.YtdfjeokjmigkaaaGreatEng
import Derived.Test.YtdfjeokjmigkaaaGreatGb
section
set_option linter.unusedSimpArgs false
set_option linter.unusedVariables false
namespace Go.Eng
open Go Go.RowKit
section
variable {P : Program} {N : Nat} {C : World → Prop} {ops : List Oper} {n : Nat} {l : Env} {R : Nat → Value → World → Prop}
def dX (l : Env) (ops : List Oper) (vs : Nat → Value) : Nat → Env
 | 0 => l
 | i + 1 => stp (aJ ops i) (vs i) (dX l ops vs i)
def DLt (N : Nat) (ops : List Oper) (n : Nat) : Prop := ∀ i t, i < n → aJ ops i = some t → t < N
variable {vs : Nat → Value}
theorem qBl (hl : DLt N ops n) (hk : bD N l = true) : ∀ i, i ≤ n → bD N (dX l ops vs i) = true
 | 0, _ => hk
 | i + 1, hi => iG (qBl hl hk i (by omega)) (fun k e => hl i k (by omega) e)
theorem jX (base : Array Value) (t : Nat) : ∀ i, (∀ j, j < i → aJ ops j ≠ some t) →
  lk (dX l ops vs i) t = lk l t ∧ (jG base (dX l ops vs i))[t]? = (jG base l)[t]?
 | 0, _ => ⟨rfl, rfl⟩
 | i + 1, h => by
  obtain ⟨h1, h2⟩ := jX base t i (fun j hj => h j (by omega))
  have hne := h i (by omega)
  simp only [dX]
  cases hd : aJ ops i with
  | none => exact ⟨h1, h2⟩
  | some d =>
   have : d ≠ t := fun e => hne (by rw [hd, e])
   simp only [stp, lk, jG, if_neg this]
   exact ⟨h1, by rw [Array.getElem?_setIfInBounds_ne this]; exact h2⟩
theorem iQ (hl : DLt N ops n) {base : Array Value} (hbase : base.size = N) {t j : Nat} (hj : aJ ops j = some t) (huniq : ∀ k, k < n → k ≠ j → aJ ops k ≠ some t) : ∀ i, i ≤ n → j < i →
  lk (dX l ops vs i) t = some (vs j) ∧ (jG base (dX l ops vs i))[t]? = some (vs j)
 | 0, _, h => absurd h (Nat.not_lt_zero _)
 | i + 1, hi, h => by
  simp only [dX]
  by_cases e : j = i
  ·subst e
   rw [hj]
   simp only [stp, lk, jG, if_true, true_and]
   rw [Array.getElem?_setIfInBounds_self_of_lt (by rw [kU, hbase]; exact hl j t (by omega) hj)]
  ·obtain ⟨h1, h2⟩ := iQ hl hbase hj huniq i (by omega) (by omega)
   have hne := huniq i (by omega) (Ne.symm e)
   cases hd : aJ ops i with
   | none => exact ⟨h1, h2⟩
   | some d =>
    have : d ≠ t := fun e => hne (by rw [hd, e])
    simp only [stp, lk, jG, if_neg this]
    exact ⟨h1, by rw [Array.getElem?_setIfInBounds_ne this]; exact h2⟩
theorem qLo {keys : List Nat} (ok : RegOk keys ops n) (F : Fr N) (hk : bD N l = true) (aR : ∀ t ∈ keys, ∃ v, lk l t = some v) (hlt : DLt N ops n)
  {Le : Nat → World → World → Prop} (hLe : ∀ i w, Le i w w) (hS : ∀ j i u w w', j < n → i < n → j ≠ i → C w → R j u w → Le i w w' → R j u w')
  (H : ∀ i o, i < n → ops[i]? = some o → ∀ (vs : Nat → Value) (w : World), C w → (∀ j t, j < i → aJ ops j = some t → t ∈ o.looksAt ops.toArray → R j (vs j) w) →
   ∃ b, gd (dX l ops vs i) (bL ops) o.guard (· = b) ∧ (b = true → Yields P (execOp (evD (dX l ops vs i)) o) w fun u w' => R i u w' ∧ C w' ∧ Le i w w') ∧ (b = false → R i undef w))
  {Q : Exit → Act → World → Prop} (hT : ∀ (vs : Nat → Value) (w : World), C w → (∀ j, j < n → R j (vs j) w) → wpList P ops.toArray Q (ops.drop n) (mk F (dX l ops vs n)) w) :
  ∀ (fuel : Nat) (listed : Array Bool) (a : Act) (w : World) (vs : Nat → Value), unl listed = fuel → Mid N C ops n (jG F.base l) vs listed a w → (∀ j, j < n → listed.getD j false = true → R j (vs j) w) → wpAny P .any ops.toArray Q fuel listed a w := by
 have uniq : ∀ i j t, i < n → j < n → aJ ops i = some t → aJ ops j = some t → i = j := by
  intro i j t hi hj h1 h2
  rcases Nat.lt_trichotomy i j with h | h | h
  ·rcases ok.uniq j i hj h with e | e
   ·rw [h2] at e; cases e
   ·exact absurd (h2.trans h1.symm) e
  ·exact h
  ·rcases ok.uniq i j hi h with e | e
   ·rw [h1] at e; cases e
   ·exact absurd (h1.trans h2.symm) e
 have final : ∀ (listed : Array Bool) (a : Act) (w : World) (vs : Nat → Value), Mid N C ops n (jG F.base l) vs listed a w → (∀ j, j < n → listed.getD j false = true) → a = mk F (dX l ops vs n) := by
  intro listed a w vs M hall
  obtain ⟨tm, df⟩ := a
  have hd : df = [] := M.defers
  subst hd
  show Act.mk _ _ = Act.mk _ _
  congr 1
  apply Array.ext_getElem?
  intro t
  by_cases h : ∃ j, j < n ∧ aJ ops j = some t
  ·obtain ⟨j, hj, hd⟩ := h
   have h1 := M.new j t hj (hall j hj) hd
   have h2 := (iQ (l := l) (vs := vs) hlt F.hN hd (fun k hk hne e => hne (uniq k j t hk hj e hd)) n (Nat.le_refl _) hj).2
   exact h1.trans h2.symm
  ·have h' : ∀ j, j < n → aJ ops j ≠ some t := fun j hj e => h ⟨j, hj, e⟩
   have h1 := M.old t (fun j hj _ => h' j hj)
   have h2 := (jX (l := l) (vs := vs) F.base t n h').2
   exact h1.trans h2.symm
 have slot : ∀ (listed : Array Bool) (a : Act) (w : World) (vs : Nat → Value) (i : Nat) (o : Oper) (t : Nat), Mid N C ops n (jG F.base l) vs listed a w → i < n → ops[i]? = some o → i ∈ Region.ready .any ops.toArray listed → t ∈ o.looksAt ops.toArray →
   ∃ X, a.tmps[t]? = some X ∧ lk (dX l ops vs i) t = some X := by
  intro listed a w vs i o t M hi ho hr ht
  obtain ⟨l1, l2⟩ := ok.looks i o t hi ho ht
  by_cases h : ∃ j, j < n ∧ aJ ops j = some t
  ·obtain ⟨j, hj, hd⟩ := h
   obtain ⟨hji, he⟩ := l1 j hj hd
   exact ⟨vs j, M.new j t hj (dF hr he) hd, (iQ (l := l) (vs := vs) hlt F.hN hd (fun k hk hne e => hne (uniq k j t hk hj e hd)) i (by omega) hji).1⟩
  ·have h' : ∀ j, j < n → aJ ops j ≠ some t := fun j hj e => h ⟨j, hj, e⟩
   rcases l2 with ⟨j, hj, hd⟩ | hkey
   ·exact absurd hd (h' j (by omega))
   ·obtain ⟨v, hv⟩ := aR t hkey
    refine ⟨v, ?_, ?_⟩
    ·rw [M.old t (fun j hj _ => h' j hj)]; exact jW F hk hv
    ·rw [(jX (l := l) (vs := vs) F.base t i (fun j hj => h' j (by omega))).1]; exact hv
 intro fuel
 induction fuel with
 | zero =>
  intro listed a w vs hu M MR
  have hall : ∀ j, j < ops.length → listed.getD j false = true := fun j hj => qGu hu (by rw [M.size]; exact hj)
  have hn : n = ops.length := by
   rcases Nat.lt_or_ge n ops.length with h | h
   ·have := M.heads n (hall n h); omega
   ·have := ok.hn; omega
  have ha := final listed a w vs M (fun j hj => hall j (by omega))
  subst ha
  exact pZ ok 0 n listed _ w (by omega) (Nat.le_refl _) M.size (fun i hi => ⟨fun _ => by omega, fun _ => hall i hi⟩) (hT vs w M.cls fun j hj => MR j hj (hall j (by omega)))
 | succ fuel ih =>
  intro listed a w vs hu M MR
  by_cases hdone : ∀ j, j < n → listed.getD j false = true
  ·have ha := final listed a w vs M hdone
   subst ha
   have hcount : ∀ (m : Nat) (x : Array Bool), x.size = ops.length → (∀ i, i < ops.length → (x.getD i false = true ↔ i < m)) → m ≤ ops.length → m + unl x = ops.length := by
    intro m
    generalize hd : ops.length - m = d
    induction d generalizing m with
    | zero =>
     intro x hx hl hm
     have : unl x = 0 := by
      unfold unl
      rw [List.length_eq_zero_iff, List.filter_eq_nil_iff]
      intro b hb
      obtain ⟨i, hi, rfl⟩ := List.getElem_of_mem hb
      have hi' : i < x.size := by simpa using hi
      have := (hl i (by omega)).2 (by omega)
      simp only [Array.getD, hi', dite_true] at this
      simp [show x.toList[i] = true from this]
     omega
    | succ d ihd =>
     intro x hx hl hm
     have hmlt : m < ops.length := by omega
     have h0 : x.getD m true = false := by
      have : ¬ x.getD m false = true := fun e => by have := (hl m hmlt).1 e; omega
      have hm' : m < x.size := by omega
      simp only [Array.getD, hm', dite_true] at this ⊢
      simpa using this
     have := ihd (m + 1) (by omega) (x.setIfInBounds m true) (by simpa using hx) (fun i hi => by
      by_cases e : m = i
      ·subst e
       have : m < x.size := by omega
       simp [this]
      ·rw [getD_set_ne false e, hl i hi]; omega) (by omega)
     have := qAf h0
     omega
   have hl : ∀ i, i < ops.length → (listed.getD i false = true ↔ i < n) := fun i hi => ⟨M.heads i, hdone i⟩
   have := hcount n listed M.size hl ok.hn
   exact pZ ok (fuel + 1) n listed _ w (by omega) (Nat.le_refl _) M.size hl (hT vs w M.cls fun j hj => MR j hj (hdone j hj))
  ·have hex : ∃ j, j < n ∧ listed.getD j false ≠ true := by
    refine Classical.byContradiction fun hne => hdone fun j hj => ?_
    refine Classical.byContradiction fun h => hne ⟨j, hj, h⟩
   have hn := ok.hn
   have hready : ∃ j, j ∈ Region.ready .any ops.toArray listed := by
    obtain ⟨j, hj, hjl⟩ := hex
    have : ∀ d j, j = d → j < n → listed.getD j false ≠ true → ∃ j, j ∈ Region.ready .any ops.toArray listed := by
     intro d
     induction d using Nat.strongRecOn with
     | _ d ihd =>
      intro j hd hj hjl
      subst hd
      have ho : ops[j]? = some (ops[j]'(by omega)) := List.getElem?_eq_getElem _
      by_cases hall : ∀ e ∈ (ops[j]'(by omega)).after, Region.binds .any e = true → listed.getD e.on false = true
      ·refine ⟨j, mem_ready.2 ⟨?_, ops[j]'(by omega), by simp, hall⟩⟩
       have h2 : j < listed.size := by rw [M.size]; omega
       simp only [Array.getD, h2, dite_true] at hjl ⊢
       simpa using hjl
      ·have : ∃ e ∈ (ops[j]'(by omega)).after, Region.binds .any e = true ∧ listed.getD e.on false ≠ true := by
        refine Classical.byContradiction fun hne => hall fun e he hb => ?_
        refine Classical.byContradiction fun h => hne ⟨e, he, hb, h⟩
       obtain ⟨e, he, hb, hl⟩ := this
       have hlt := ok.down j _ e ho he hb
       exact ihd e.on hlt e.on rfl (by omega) hl
    exact this j j rfl hj hjl
   obtain ⟨j0, hj0⟩ := hready
   refine ⟨fun h0 => absurd hj0 (by rw [h0]; simp), fun i hi => ?_⟩
   obtain ⟨hun, o, ho, hall⟩ := mem_ready.1 hi
   have ho' : ops[i]? = some o := by simpa using ho
   have hilt : i < ops.length := (List.getElem?_eq_some_iff.1 ho').1
   have hin : i < n := by
    rcases Nat.lt_or_ge i n with h | h
    ·exact h
    ·exfalso
     apply hdone
     have key : ∀ d j, i - j = d → j < i → listed.getD j false = true := by
      intro d
      induction d using Nat.strongRecOn with
      | _ d ihd =>
       intro j hd hji
       obtain ⟨k, hk1, hk2, hk3⟩ := ok.tail i j hilt h hji
       rcases Nat.lt_or_ge k i with hki | hki
       ·exact M.clos k j (ihd (i - k) (by omega) k rfl hki) hk3
       ·have : k = i := by omega
        subst this
        exact dF hi hk3
     exact fun j hj => key _ j rfl (by omega)
   have hu' : unl (listed.setIfInBounds i true) = fuel := by have := qAf hun; omega
   have hdi : aJ ops i = o.dst := by unfold aJ; rw [ho']; rfl
   have hlt' : iR N o.dst := by
    cases hd : o.dst with
    | none => trivial
    | some t => exact hlt i t hin (hdi.trans hd)
   let nxt : Value → Nat → Value := fun u j => if j = i then u else vs j
   have nxt_i : ∀ u, nxt u i = u := fun u => if_pos rfl
   have nxt_ne : ∀ u j, j ≠ i → nxt u j = vs j := fun u j h => if_neg h
   have rest : ∀ u w', R i u w' → Le i w w' → ∀ j, j < n → (listed.setIfInBounds i true).getD j false = true → R j (nxt u j) w' := by
    intro u w' hu hB j hj hl
    by_cases e : j = i
    ·subst e; rw [nxt_i]; exact hu
    ·rw [nxt_ne u j e]
     rw [getD_set_ne false (Ne.symm e)] at hl
     exact hS j i _ w w' hj hin e M.cls (MR j hj hl) hB
   have step : ∀ u w', C w' → Mid N C ops n (jG F.base l) (nxt u) (listed.setIfInBounds i true) (a.put o.dst u) w' := by
    intro u w' hC
    have hlt := hlt'
    have hset : ∀ j, (listed.setIfInBounds i true).getD j false = true → j = i ∨ listed.getD j false = true := by
     intro j h
     by_cases e : i = j
     ·exact .inl e.symm
     ·rw [getD_set_ne false e] at h; exact .inr h
    have hseti : (listed.setIfInBounds i true).getD i false = true := by
     have : i < listed.size := by rw [M.size]; exact hilt
     simp [this]
    refine ⟨by simpa using M.size, ?_, ?_, ?_, ?_, ?_, ?_, hC⟩
    ·intro k j hk he
     rcases hset k hk with rfl | hk
     ·exact getD_set_true (dF hi he)
     ·exact getD_set_true (M.clos k j hk he)
    ·intro k hk
     rcases hset k hk with rfl | hk
     ·exact hin
     ·exact M.heads k hk
    ·cases hd : o.dst <;> exact M.defers
    ·cases hd : o.dst with
     | none => exact M.tsize
     | some d => simp only [Act.put, Array.size_setIfInBounds]; exact M.tsize
    ·intro j t hj hjl hd
     rcases hset j hjl with rfl | hjl'
     ·rw [hdi] at hd
      rw [hd] at hlt ⊢
      simp only [Act.put]
      rw [Array.getElem?_setIfInBounds_self_of_lt (by rw [M.tsize]; exact hlt), nxt_i]
     ·by_cases e : j = i
      ·subst e
       rw [hdi] at hd
       rw [hd] at hlt ⊢
       simp only [Act.put]
       rw [Array.getElem?_setIfInBounds_self_of_lt (by rw [M.tsize]; exact hlt), nxt_i]
      ·rw [nxt_ne u j e]
       have h1 := M.new j t hj hjl' hd
       cases hdo : o.dst with
       | none => exact h1
       | some d =>
        have hne : d ≠ t := fun e' => e (uniq j i t hj hin hd (by rw [hdi, hdo, e']))
        simp only [Act.put]
        rw [Array.getElem?_setIfInBounds_ne hne]; exact h1
    ·intro t ht
     have h1 := M.old t (fun j hj hjl => ht j hj (getD_set_true hjl))
     have h2 := ht i hin hseti
     rw [hdi] at h2
     cases hdo : o.dst with
     | none => exact h1
     | some d =>
      have hne : d ≠ t := fun e' => h2 (by rw [hdo, e'])
      simp only [Act.put]
      rw [Array.getElem?_setIfInBounds_ne hne]; exact h1
   obtain ⟨b, hb, hbt, hbf⟩ := H i o hin ho' vs w M.cls fun j t hj hd ht => by
    obtain ⟨l1, -⟩ := ok.looks i o t hin ho' ht
    exact MR j (by omega) (dF hi (l1 j (by omega) hd).2)
   have hw : Region.wanted o (yielded ops.toArray a.tmps) = b := by
    unfold gd at hb
    split at hb
    ·rename_i hg; simp only [Region.wanted, hg]; exact hb
    ·rename_i g want hg
     split at hb
     ·rename_i d hd
      split at hb
      ·rename_i bb hbb
       have hdd : aJ ops g = some d := by
        unfold aJ
        simp only [bL, List.getElem?_map, Option.map_eq_some_iff] at hd
        obtain ⟨x, hx, hx'⟩ := hd
        simp [hx, hx']
       obtain ⟨X, hX1, hX2⟩ := slot listed a w vs i o d M hin ho' hi (iF hg hdd)
       rw [hbb] at hX2
       cases hX2
       have : yielded ops.toArray a.tmps g = some bb := by
        unfold yielded
        unfold aJ at hdd
        simp only [List.getElem?_toArray, hdd, Option.bind_some, hX1]
       simp only [Region.wanted, hg, this]
       rw [← hb]
       cases bb <;> cases want <;> rfl
      ·rename_i bb hnb hbb
       have hdd : aJ ops g = some d := by
        unfold aJ
        simp only [bL, List.getElem?_map, Option.map_eq_some_iff] at hd
        obtain ⟨x, hx, hx'⟩ := hd
        simp [hx, hx']
       obtain ⟨X, hX1, hX2⟩ := slot listed a w vs i o d M hin ho' hi (iF hg hdd)
       rw [hbb] at hX2
       cases hX2
       have : yielded ops.toArray a.tmps g = none := by
        unfold yielded
        unfold aJ at hdd
        simp only [List.getElem?_toArray, hdd, Option.bind_some, hX1]
        split
        ·rename_i b' e; cases e; exact (hnb b' rfl).elim
        ·rfl
       simp only [Region.wanted, hg, this]
       rw [← hb]
       rfl
      ·exact hb.elim
     ·exact hb.elim
   unfold wpOp
   simp only [ho, hw]
   cases b with
   | true =>
    simp only [if_true]
    refine .inl (dZ ?_)
    have hcong : execOp a.eval o = execOp (evD (dX l ops vs i)) o := by
     refine execOp_congr o (ok.sel i o ho') (fun x hx => ?_)
     cases x with
     | tmp t =>
      obtain ⟨X, hX1, hX2⟩ := slot listed a w vs i o t M hin ho' hi (tG hx)
      simp [Act.eval, evD, ev, hX1, hX2]
     | const c => rfl
     | global g => rfl
     | func f => rfl
    rw [hcong]
    exact (hbt rfl).mono fun u w' ⟨hu, hC, hB⟩ => ih _ _ _ _ hu' (step u w' hC) (rest u w' hu hB)
   | false =>
    simp only [Bool.false_eq_true, if_false]
    exact ih _ _ _ _ hu' (step undef w M.cls) (rest undef w (hbf rfl) (hLe i w))
end
section
variable {P : Program} {N : Nat} {Q : qB4} {l : Env} {w : World}
theorem qSp {id : Nat} {ops : List Oper} (keys : List Nat) (n : Nat) (hm : P.follows .mixedOrders = true) (aR : oB l = keys) (hok : sW keys ops n = true) (hlt : DLt N ops n)
  {C : World → Prop} {R : Nat → Value → World → Prop} (hC : C w.drew) {Le : Nat → World → World → Prop} (hLe : ∀ i w, Le i w w) (hS : ∀ j i u w w', j < n → i < n → j ≠ i → C w → R j u w → Le i w w' → R j u w')
  (H : ∀ i o, i < n → ops[i]? = some o → ∀ (vs : Nat → Value) (w : World), C w → (∀ j t, j < i → aJ ops j = some t → t ∈ o.looksAt ops.toArray → R j (vs j) w) →
   ∃ b, gd (dX l ops vs i) (bL ops) o.guard (· = b) ∧ (b = true → Yields P (execOp (evD (dX l ops vs i)) o) w fun u w' => R i u w' ∧ C w' ∧ Le i w w') ∧ (b = false → R i undef w))
  (hT : ∀ (vs : Nat → Value) (w : World), C w → (∀ j, j < n → R j (vs j) w) → VC P N (bL ops) (fun l' w' => Q .normal l' w') (ops.drop n) (dX l ops vs n) w) : W P N (.region id ops.toArray true) Q l w := fun hk F => by
 have ok := mA hok
 refine wp_region_any hm ?_
 have := qLo ok F hk (fun t ht => tL (by rw [aR]; exact ht)) hlt hLe hS H (Q := qUl N Q)
  (fun vs w' hw' hR => tZ F (K := fun l w => Q .normal l w) (fun l' w' hk' hK => ⟨F, l', rfl, hk', hK⟩) _ _ _ (qBl hlt hk n (Nat.le_refl _)) (hT vs w' hw' hR))
  ops.length (Array.replicate ops.length false) (mk F l) w.drew (fun _ => undef) (mW _)
  ⟨by simp, (fun i j hi => by rw [getD_replicate_false] at hi; cases hi), (fun i hi => by rw [getD_replicate_false] at hi; cases hi), rfl, by simp [mk, kU, F.hN], (fun j t _ hl => by rw [getD_replicate_false] at hl; cases hl), fun t _ => rfl, hC⟩
  (fun j _ hl => by rw [getD_replicate_false] at hl; cases hl)
 simpa using this
theorem zHa {id : Nat} {ops : List Oper} (keys : List Nat) (n : Nat) (hm : P.follows .mixedOrders = true) (aR : oB l = keys) (hok : sW keys ops n = true) (hlt : DLt N ops n)
  {C : World → Prop} {R : Nat → Value → World → Prop} (hC : C w.drew) (hS : ∀ i u w w', C w → R i u w → Below w.heap.size w w' → R i u w')
  (H : ∀ i o, i < n → ops[i]? = some o → ∀ (vs : Nat → Value) (w : World), C w → (∀ j t, j < i → aJ ops j = some t → t ∈ o.looksAt ops.toArray → R j (vs j) w) →
   ∃ b, gd (dX l ops vs i) (bL ops) o.guard (· = b) ∧ (b = true → Yields P (execOp (evD (dX l ops vs i)) o) w fun u w' => R i u w' ∧ C w' ∧ Below w.heap.size w w') ∧ (b = false → R i undef w))
  (hT : ∀ (vs : Nat → Value) (w : World), C w → (∀ j, j < n → R j (vs j) w) → VC P N (bL ops) (fun l' w' => Q .normal l' w') (ops.drop n) (dX l ops vs n) w) : W P N (.region id ops.toArray true) Q l w :=
 qSp keys n hm aR hok hlt hC (Le := fun _ w w' => Below w.heap.size w w') (fun _ w => Below.refl _ _) (fun j _ u w w' _ _ _ hc hr hb => hS j u w w' hc hr hb) H hT
end
end Go.Eng
end

section
set_option linter.unusedSimpArgs false
set_option linter.unusedVariables false
namespace Go.Eng
open Go Go.RowKit

def bH : Operand → List Nat
 | .tmp t => [t]
 | _ => []
def uQ : List Operand → List Nat
 | [] => []
 | x :: r => bH x ++ uQ r
def pM : List (Nat × Operand) → List Nat
 | [] => []
 | (_, x) :: r => bH x ++ pM r
def qFh : Option Operand → List Nat
 | some x => bH x
 | none => []
def qG7 : Callee → List Nat
 | .value x => bH x
 | _ => []
def aW : Op → List Nat
 | .move x => bH x
 | .assign x => bH x
 | .nilCheck x => bH x
 | .pick c a b => bH c ++ (bH a ++ bH b)
 | .extract x _ => bH x
 | .field _ x _ => bH x
 | .fieldAddr _ x _ => bH x
 | .load _ x => bH x
 | .unOp _ _ x => bH x
 | .convert _ _ x => bH x
 | .indexAddr _ x i => bH x ++ bH i
 | .index _ x i => bH x ++ bH i
 | .slice _ x l h none => bH x ++ (qFh l ++ qFh h)
 | .binOp _ _ x y _ => bH x ++ bH y
 | .build _ ps => pM ps.toList
 | .buildSlice _ _ ps => pM ps.toList
 | .makeSlice _ x y => bH x ++ bH y
 | .call ⟨k, args, _⟩ => qG7 k ++ uQ args.toList
 | _ => []
theorem gX {x : Operand} {t : Nat} (h : t ∈ bH x) : x = .tmp t := by
 cases x <;> simp [bH] at h
 subst h; rfl
theorem qG5 : ∀ {l : List Operand} {t : Nat}, t ∈ uQ l → Operand.tmp t ∈ l
 | [], t, h => by simp [uQ] at h
 | x :: r, t, h => by
  simp only [uQ, List.mem_append] at h
  rcases h with h | h
  ·rw [gX h]; exact List.mem_cons_self ..
  ·exact List.mem_cons_of_mem _ (qG5 h)
theorem qCd : ∀ {l : List (Nat × Operand)} {t : Nat}, t ∈ pM l → Operand.tmp t ∈ l.map (·.2)
 | [], t, h => by simp [pM] at h
 | (k, x) :: r, t, h => by
  simp only [pM, List.mem_append] at h
  rcases h with h | h
  ·rw [List.map_cons, gX h]; exact List.mem_cons_self ..
  ·rw [List.map_cons]; exact List.mem_cons_of_mem _ (qCd h)
theorem qK0 {x : Option Operand} {t : Nat} (h : t ∈ qFh x) : x = some (.tmp t) := by
 cases x with
 | none => simp [qFh] at h
 | some x => rw [gX h]
theorem qPu {o : Op} {t : Nat} (h : t ∈ aW o) : Operand.tmp t ∈ o.operands := by
 unfold aW at h
 split at h
 all_goals try simp only [List.mem_append] at h
 case h_13 => 
  simp only [Op.operands]
  rcases h with h | h | h
  ·rw [gX h]; simp
  ·rw [qK0 h]; simp
  ·rw [qK0 h]; simp
 case h_15 => simpa [Op.operands] using qCd h
 case h_16 => simpa [Op.operands] using qCd h
 case h_18 =>
  simp only [Op.operands, Call.operands, Array.mem_append]
  rcases h with h | h
  ·refine .inl ?_
   unfold qG7 at h
   split at h
   ·rw [gX h]; simp
   ·simp at h
  ·exact .inr (by simpa using qG5 h)
 case h_19 => simp at h
 all_goals
  simp only [Op.operands]
  first
  | (rw [gX h]; simp; done)
  | (rcases h with h | h <;> (rw [gX h]; simp))
  | (rcases h with h | h | h <;> (rw [gX h]; simp))
def gR (ds : List (Option Nat)) : Option (Nat × Bool) → List Nat
 | none => []
 | some (g, _) => match ds[g]? with
  | some (some d) => [d]
  | _ => []
def jN (e : aH) : List Nat → aH
 | [] => []
 | t :: r => match hlk e t with
  | some h => (t, h) :: jN e r
  | none => jN e r
theorem sY {e : aH} : ∀ {l : List Nat} {t : Nat} {h : HV}, hlk (jN e l) t = some h → t ∈ l ∧ hlk e t = some h
 | [], t, h, hh => by simp [jN, hlk] at hh
 | k :: r, t, h, hh => by
  simp only [jN] at hh
  split at hh
  ·rename_i x hx
   simp only [hlk] at hh
   by_cases ek : k = t
   ·subst ek; rw [if_pos rfl] at hh; exact ⟨List.mem_cons_self .., by rw [hx]; exact hh⟩
   ·rw [if_neg ek] at hh
    obtain ⟨a, b⟩ := sY hh
    exact ⟨List.mem_cons_of_mem _ a, b⟩
  ·obtain ⟨a, b⟩ := sY hh
   exact ⟨List.mem_cons_of_mem _ a, b⟩
def zCz (P : Program) (f : FuncId) (args : List HV) (T : HS) (K : HV → Prop) : Prop :=
 aD P f = true ∧ ∃ h, K h ∧ ∀ (c : Ctx) (look : Nat → Option Value) (w : World) (ρ : Nat → Value) (xs : Nat → List Value) (vs : List Value), Good c T look w ρ xs → wW w (c.A ρ T.st) c.n0 ρ vs args →
  Calls P f vs.toArray w (Ret fun u w' => RepH w' (c.A ρ T.st) c.n0 ρ u h ∧ Below w.heap.size w w')
def mC : aH → Bool
 | [] => true
 | (_, .v _) :: r => mC r
 | (_, .lst _ _) :: r => mC r
 | (_, .agg _) :: r => mC r
 | _ => false
def qYo (d : Option Nat) (S : HS) (K : HS → Prop) : HOut → Prop
 | .go c (.own i) S' => match rlk S'.st i with
  | some (.sl _ _ _ els) => c ∧ K (S.set d (.lst true els))
  | _ => False
 | _ => False
def zJv : Op → Bool
 | .buildSlice .. => true
 | .makeSlice .. => true
 | _ => false
def qB1 (P : Program) (o : Oper) (S T : HS) (K : HS → Prop) : HOut → Prop
 | .go c h _ => match cX o.op with
  | true => c ∧ K (S.set o.dst h)
  | false => match zJv o.op && mC T.env with
   | true => qYo o.dst S K (hop P ⟨T.env, []⟩ (pR o.dst) o.op)
   | false => False
 | .call f args => zCz P f args T (fun x => jZ K (S.set o.dst x))
 | .eqn t x y neg => ∃ r, EqR P t x.toArray y.toArray r ∧ jZ K (S.set o.dst (.v (.bool (neg ^^ r))))
 | .bytes _ _ => False
 | .bad => False
def qXf (P : Program) (N : Nat) (o : Oper) (S T : HS) (K : HS → Prop) : Prop := match eF N o.dst with
 | true => qB1 P o S T K (hop P T (pR o.dst) o.op)
 | false => False
def iS (P : Program) (N : Nat) (o : Oper) (S T : HS) (K : HS → Prop) : GOut → Prop
 | .yes => qXf P N o S T K
 | .no => lR N o.dst S K
 | .ask d b want => match b == want with
  | true => qXf P N o (S.rep d (.v (.bool want))) (T.rep d (.v (.bool want))) K
  | false => lR N o.dst (S.rep d (.v (.bool (!want)))) K
 | .bad => False
def HVr (P : Program) (N : Nat) (ds : List (Option Nat)) (K : HS → Prop) : List Oper → HS → Prop
 | [], S => K S
 | o :: rest, S => iS P N o S ⟨jN S.env (gR ds o.guard ++ aW o.op), S.st⟩ (HVr P N ds K rest) (hG (jN S.env (gR ds o.guard ++ aW o.op)) ds o.guard)
end Go.Eng
end

section
set_option linter.unusedSimpArgs false
set_option linter.unusedVariables false
namespace Go.Eng
open Go Go.RowKit
section
variable {P : Program} {N : Nat} {c : Ctx} {S T : HS} {Q : eG} {l : Env} {look : Nat → Option Value} {w w' : World} {ρ : Nat → Value} {xs : Nat → List Value} {K : HS → Prop}
theorem RepH.above {A : Nat → Prop} {n0 : Nat} {v : Value} {x : HV} (h : RepH w A n0 ρ v x) (B : Below w.heap.size w w') : RepH w' A n0 ρ v x := h.up B.size (fun b hlt _ => B.block b hlt) (fun b _ h => h) (Nat.le_refl _)
theorem mG {d : Nat} {h : HV} : ∀ {E : aH}, hlk E d = some h → ∀ k, hlk (wF d h E) k = hlk E k
 | [], e, k => by simp [hlk] at e
 | (j, x) :: r, e, k => by
  simp only [hlk] at e
  simp only [wF]
  by_cases ej : j = d
  ·rw [if_pos ej] at e ⊢
   simp only [Option.some.injEq] at e
   subst e; rfl
  ·rw [if_neg ej] at e ⊢
   simp only [hlk, mG e k]
theorem Good.sameEnv {E : aH} {st : aB} (G : Good c ⟨E, st⟩ look w ρ xs) {E' : aH} (h : ∀ k, hlk E' k = hlk E k) : Good c ⟨E', st⟩ look w ρ xs := ⟨G.rows, G.apart, fun k x hk => G.env k x (by rw [← h k]; exact hk), G.kept, G.a0⟩
theorem qS8 (G : Good c T (lk l) w ρ xs) {id i : Nat} {o : Op} {ty : TypeId} {cnd : Prop} {S' : HS} (hp : mC T.env = true) (h : hop P ⟨T.env, []⟩ id o = .go cnd (.own i) S') {nw : Bool} {t sz : Nat} {els : List (List FV)} (hr : rlk S'.st i = some (.sl nw t sz els)) (hc : cnd) :
  aN P l o ty w (fun u w' => RepH w' (c.A ρ T.st) c.n0 ρ u (.lst true els) ∧ Below w.heap.size w w') (fun u w' => RepH w' (c.A ρ T.st) c.n0 ρ u (.lst true els) ∧ Below w.heap.size w w') := by
 have hA : ∀ b, c.A ρ T.st b → b < w.heap.size := by
  rintro b (h0 | ⟨i, r, hi, hb⟩)
  ·have := (G.a0 b h0).1; have := G.kept.size; omega
  ·exact G.lt hi hb
 have G2 : Good ⟨w, fun _ => False, c.A ρ T.st, c.n0, Nat.le_trans c.hn G.kept.size, fun _ _ => False⟩ ⟨T.env, []⟩ (lk l) w ρ xs := by
  refine ⟨fun id r hr => by simp [rlk] at hr, fun i j r s b hne hi => by simp [rlk] at hi, fun k x hk => ?_, Kept.refl _ _, fun b hb => ⟨hA b hb, fun h => h⟩⟩
  obtain ⟨u, h1, h2⟩ := G.env k _ hk
  refine ⟨u, h1, h2.up (Nat.le_refl _) (fun _ _ _ => rfl) (fun b _ hb => ?_) (Nat.le_refl _)⟩
  rcases hb with hb | ⟨i, r, hi, -⟩
  ·exact hb
  ·simp [rlk] at hi
 refine aS (qKy G2 (aU _ _) h hc) fun u w' ⟨ρ2, xs2, G3, r⟩ => ?_
 have B : Below w.heap.size w w' := G3.kept.below (fun _ _ h => h)
 refine ⟨?_, B⟩
 cases r
 obtain ⟨o1, o2, o3⟩ := cW G3 hr
 have R0 := G3.rows i _ hr
 refine .lst (qAm o1 o2 (fun p k hp hk => ?_) (fun b hb => ?_))
 ·obtain ⟨u, a, b, d⟩ := o3 p k hp hk
  exact ⟨u, a, b, d.up (Nat.le_refl _) (fun _ _ _ => rfl) (fun b _ h => .inl h) (Nat.le_refl _)⟩
 ·rcases (R0.new b hb).1 with h | h
  ·have h : w.heap.size ≤ b := h
   exact ⟨fun hA' => by have := hA b hA'; omega, fun _ => by have := c.hn; have := G.kept.size; omega⟩
  ·exact h.elim
theorem qB0 {o : Oper} (h : qXf P N o S T K) : iR N o.dst ∧ ∃ x, K (S.set o.dst x) ∧ ∀ (c : Ctx) (l : Env) (w : World) (ρ : Nat → Value) (xs : Nat → List Value), Good c T (lk l) w ρ xs →
  aN P l o.op o.type w (fun u w' => RepH w' (c.A ρ T.st) c.n0 ρ u x ∧ Below w.heap.size w w') (fun u w' => RepH w' (c.A ρ T.st) c.n0 ρ u x ∧ Below w.heap.size w w') := by
 unfold qXf at h
 split at h
 ·rename_i hd
  refine ⟨cT hd, ?_⟩
  cases ho : hop P T (pR o.dst) o.op with
  | go c' hv S' =>
   rw [ho] at h
   unfold qB1 at h
   dsimp only at h
   split at h
   ·rename_i hq
    obtain ⟨h0, h1⟩ := h
    refine ⟨hv, h1, fun c l w ρ xs G => ?_⟩
    obtain ⟨v, hK, hv'⟩ := qS0 (ty := o.type) (uP (ty := 0) G (aU _ _) ho hq h0)
    exact aS (hv' w (Below.refl _ _)) fun u w' ⟨e, B⟩ => by subst e; exact ⟨hK.2.2.above B, B⟩
   ·split at h
    ·rename_i hm
     simp only [Bool.and_eq_true] at hm
     unfold qYo at h
     split at h
     ·rename_i c2 i S2 hm2
      split at h
      ·rename_i nw t sz els hr
       exact ⟨_, h.2, fun c l w ρ xs G => qS8 G hm.2 hm2 hr h.1⟩
      ·exact h.elim
     ·exact h.elim
    ·exact h.elim
  | call f args =>
   rw [ho] at h
   obtain ⟨hf, x, hK, hc⟩ := h
   refine ⟨x, hK, fun c l w ρ xs G => ?_⟩
   obtain ⟨y, ay, ats, e, hfn, has⟩ := qDo ho
   rw [e]
   obtain ⟨vs, e1, e2, e3⟩ := G.evs (aU _ _) has
   unfold aN
   simp only [aG, bK, e1, G.fn (aU _ _) hfn]
   exact ⟨hf, hc c (lk l) w ρ xs vs G ⟨e2, e3⟩⟩
  | eqn t x y neg =>
   rw [ho] at h
   obtain ⟨r, h1, h2⟩ := h
   refine ⟨_, h2, fun c l w ρ xs G => ?_⟩
   exact aS (qG2 G (aU _ l) ho h1) fun v w' ⟨e, _, r⟩ => by subst e; exact ⟨r, Below.refl _ _⟩
  | bytes ok s => rw [ho] at h; exact h.elim
  | bad => rw [ho] at h; exact h.elim
 ·exact h.elim
def FrOk (ops : List Oper) (E0 : aH) (hs : Nat → HV) (i : Nat) (E : aH) : Prop := ∀ t h, hlk E t = some h → (∃ j, j < i ∧ aJ ops j = some t ∧ hs j = h) ∨ ((∀ j, j < i → aJ ops j ≠ some t) ∧ hlk E0 t = some h)
theorem FrOk.congr {ops : List Oper} {E0 E : aH} {hs hs' : Nat → HV} {i : Nat} (h : FrOk ops E0 hs i E) (he : ∀ j, j < i → hs' j = hs j) : FrOk ops E0 hs' i E := fun t x hx => by
 rcases h t x hx with ⟨j, a, b, d⟩ | r
 ·exact .inl ⟨j, a, b, by rw [he j a]; exact d⟩
 ·exact .inr r
theorem FrOk.env {ops : List Oper} {E0 E E' : aH} {hs : Nat → HV} {i : Nat} (h : FrOk ops E0 hs i E) (he : ∀ t x, hlk E' t = some x → hlk E t = some x) : FrOk ops E0 hs i E' := fun t x hx => h t x (he t x hx)
theorem FrOk.set {ops : List Oper} {E0 : aH} {hs : Nat → HV} {i : Nat} {S : HS} (h : FrOk ops E0 hs i S.env) {o : Oper} (ho : ops[i]? = some o) : FrOk ops E0 hs (i + 1) (S.set o.dst (hs i)).env := by
 have hd : aJ ops i = o.dst := by unfold aJ; rw [ho]; rfl
 intro t x hx
 cases e : o.dst with
 | none =>
  rw [e] at hx hd
  rcases h t x hx with ⟨j, a, b, d⟩ | ⟨a, b⟩
  ·exact .inl ⟨j, by omega, b, d⟩
  ·refine .inr ⟨fun j hj => ?_, b⟩
   by_cases ej : j = i
   ·subst ej; rw [hd]; simp
   ·exact a j (by omega)
 | some d =>
  rw [e] at hx hd
  simp only [HS.set, hlk] at hx
  by_cases et : d = t
  ·rw [if_pos et] at hx
   simp only [Option.some.injEq] at hx
   exact .inl ⟨i, by omega, by rw [hd, et], hx⟩
  ·rw [if_neg et] at hx
   rcases h t x hx with ⟨j, a, b, d'⟩ | ⟨a, b⟩
   ·exact .inl ⟨j, by omega, b, d'⟩
   ·refine .inr ⟨fun j hj => ?_, b⟩
    by_cases ej : j = i
    ·subst ej; rw [hd]; simpa using et
    ·exact a j (by omega)
structure HeadOk (P : Program) (N : Nat) (ops : List Oper) (E0 : aH) (st : aB) (hs : Nat → HV) (i : Nat) (o : Oper) : Prop where
 lt : iR N o.dst
 head : ∃ T : aH, FrOk ops E0 hs i T ∧ (∀ t h, hlk T t = some h → t ∈ gR (bL ops) o.guard ++ aW o.op) ∧ ∀ (c : Ctx) (l : Env) (w : World) (ρ : Nat → Value) (xs : Nat → List Value), Good c ⟨T, st⟩ (lk l) w ρ xs →
  ∃ b, gd l (bL ops) o.guard (· = b) ∧ (b = true → aN P l o.op o.type w (fun u w' => RepH w' (c.A ρ st) c.n0 ρ u (hs i) ∧ Below w.heap.size w w') (fun u w' => RepH w' (c.A ρ st) c.n0 ρ u (hs i) ∧ Below w.heap.size w w')) ∧ (b = false → hs i = .v undef)
theorem wX {d : Option Nat} (h : lR N d S K) : iR N d ∧ K (S.set d (.v undef)) := by
 unfold lR at h
 split at h
 ·rename_i hd; exact ⟨cT hd, h⟩
 ·exact h.elim
theorem qE5 {ops : List Oper} {E0 : aH} {st : aB} : ∀ (rest : List Oper) (i : Nat) (S : HS) (hs0 : Nat → HV), (∀ k o, rest[k]? = some o → ops[i + k]? = some o) → S.st = st → FrOk ops E0 hs0 i S.env → HVr P N (bL ops) K rest S →
  ∃ hs, (∀ j, j < i → hs j = hs0 j) ∧ (∀ k o, rest[k]? = some o → HeadOk P N ops E0 st hs (i + k) o) ∧ ∃ S', S'.st = st ∧ FrOk ops E0 hs (i + rest.length) S'.env ∧ K S'
 | [], i, S, hs0, hops, hst, F, h => ⟨hs0, fun _ _ => rfl, fun k o hk => by simp at hk, S, hst, F, h⟩
 | o :: rest, i, S, hs0, hops, hst, F, h => by
  have hoi : ops[i]? = some o := hops 0 o (by simp)
  rw [HVr] at h
  generalize hT : jN S.env (gR (bL ops) o.guard ++ aW o.op) = T at h
  have TF : ∀ t x, hlk T t = some x → t ∈ gR (bL ops) o.guard ++ aW o.op ∧ hlk S.env t = some x := fun t x hx => by subst hT; exact sY hx
  have key : ∀ (S1 : HS) (x : HV), S1.st = st → FrOk ops E0 hs0 i S1.env → HVr P N (bL ops) K rest (S1.set o.dst x) → iR N o.dst →
    (∀ (c : Ctx) (l : Env) (w : World) (ρ : Nat → Value) (xs : Nat → List Value), Good c ⟨T, st⟩ (lk l) w ρ xs →
     ∃ b, gd l (bL ops) o.guard (· = b) ∧ (b = true → aN P l o.op o.type w (fun u w' => RepH w' (c.A ρ st) c.n0 ρ u x ∧ Below w.heap.size w w') (fun u w' => RepH w' (c.A ρ st) c.n0 ρ u x ∧ Below w.heap.size w w')) ∧ (b = false → x = .v undef)) →
    ∃ hs, (∀ j, j < i → hs j = hs0 j) ∧ (∀ k o', (o :: rest)[k]? = some o' → HeadOk P N ops E0 st hs (i + k) o') ∧ ∃ S', S'.st = st ∧ FrOk ops E0 hs (i + (o :: rest).length) S'.env ∧ K S' := by
   intro S1 x hst1 F1 hK hlt hrun
   let hs1 : Nat → HV := fun j => if j = i then x else hs0 j
   have e1 : hs1 i = x := if_pos rfl
   have e2 : ∀ j, j < i → hs1 j = hs0 j := fun j hj => if_neg (by omega)
   have F2 : FrOk ops E0 hs1 (i + 1) (S1.set o.dst x).env := by
    have := (F1.congr e2).set hoi
    rw [e1] at this; exact this
   obtain ⟨hs, a, b, S', d, e, f⟩ := qE5 rest (i + 1) (S1.set o.dst x) hs1 (fun k o' hk => by
    have := hops (k + 1) o' (by simpa using hk)
    rw [show i + 1 + k = i + (k + 1) by omega]; exact this) (by cases o.dst <;> exact hst1) F2 hK
   have ei : hs i = x := by rw [a i (by omega), e1]
   have ej : ∀ j, j < i → hs j = hs0 j := fun j hj => by rw [a j (by omega), e2 j hj]
   refine ⟨hs, ej, fun k o' hk => ?_, S', d, ?_, f⟩
   ·cases k with
    | zero =>
     simp only [List.getElem?_cons_zero, Option.some.injEq] at hk
     subst hk
     exact ⟨hlt, T, (F.congr ej).env (fun t x hx => (TF t x hx).2), fun t x hx => (TF t x hx).1, by rw [Nat.add_zero, ei]; exact hrun⟩
    | succ k =>
     have := b k o' (by simpa using hk)
     rw [show i + 1 + k = i + (k + 1) by omega] at this; exact this
   ·rw [List.length_cons, show i + (rest.length + 1) = i + 1 + rest.length by omega]; exact e
  cases hg : hG T (bL ops) o.guard with
  | yes =>
   rw [hg] at h
   obtain ⟨hlt, x, hK, hv⟩ := qB0 h
   refine key S x hst F hK hlt fun c l w ρ xs G => ⟨true, qH9 (S := ⟨T, st⟩) hg rfl, fun _ => ?_, fun e => by cases e⟩
   have := hv c l w ρ xs (by rw [hst]; exact G)
   rw [hst] at this; exact this
  | no =>
   rw [hg] at h
   obtain ⟨hlt, hK⟩ := wX h
   exact key S _ hst F hK hlt fun c l w ρ xs G => ⟨false, qX6 (S := ⟨T, st⟩) ⟨ρ, xs, G⟩ hg rfl, fun e => (by cases e), fun _ => rfl⟩
  | ask d b want =>
   rw [hg] at h
   obtain ⟨j, hj, hd, hb⟩ := qWk (S := ⟨T, st⟩) hg
   have hbS := (TF d _ hb).2
   simp only [iS] at h
   split at h
   ·rename_i e
    have e' : b = want := by simpa using e
    subst e'
    obtain ⟨hlt, x, hK, hv⟩ := qB0 h
    refine key (S.rep d (.v (.bool b))) x hst (F.env fun t x hx => by rw [← mG hbS t]; exact hx) hK hlt fun c l w ρ xs G => ⟨true, (wJ (S := ⟨T, st⟩) ⟨ρ, xs, G⟩ hg (k := (· = true)) e).1, fun _ => ?_, fun e => by cases e⟩
    have := hv c l w ρ xs (by rw [hst]; exact G.sameEnv (mG hb))
    simp only [HS.rep] at this
    rw [hst] at this; exact this
   ·rename_i e
    have e' : b = !want := by cases b <;> cases want <;> simp_all
    subst e'
    obtain ⟨hlt, hK⟩ := wX h
    exact key (S.rep d (.v (.bool (!want)))) _ hst (F.env fun t x hx => by rw [← mG hbS t]; exact hx) hK hlt fun c l w ρ xs G => ⟨false, (wJ (S := ⟨T, st⟩) ⟨ρ, xs, G⟩ hg (k := (· = false)) e).1, fun e => (by cases e), fun _ => rfl⟩
  | bad => rw [hg] at h; exact h.elim
end
end Go.Eng
end

section
set_option linter.unusedSimpArgs false
set_option linter.unusedVariables false
namespace Go.Eng
open Go Go.RowKit
section
variable {P : Program} {N : Nat} {c : Ctx} {S T : HS} {Q : eG} {l : Env} {look : Nat → Option Value} {w w' : World} {ρ : Nat → Value} {xs : Nat → List Value} {K : HS → Prop}
theorem nM {ops : List Oper} {o : Oper} {t : Nat} (h : t ∈ gR (bL ops) o.guard ++ aW o.op) : t ∈ o.looksAt ops.toArray := by
 rcases List.mem_append.1 h with h | h
 ·cases hg : o.guard with
  | none => rw [hg] at h; simp [gR] at h
  | some p =>
   obtain ⟨g, b⟩ := p
   rw [hg] at h
   simp only [gR] at h
   split at h
   ·rename_i d hd
    simp only [List.mem_singleton] at h
    subst h
    refine iF hg ?_
    unfold aJ
    simp only [bL, List.getElem?_map, Option.map_eq_some_iff] at hd
    obtain ⟨x, hx, hx'⟩ := hd
    simp [hx, hx']
   ·simp at h
 ·exact tG (qPu h)
theorem mN {x : HV} {k : Nat} : ∀ {e : aH}, hlk e k = some x → k ∈ aR e
 | [], h => by simp [hlk] at h
 | (j, y) :: r, h => by
  simp only [hlk] at h
  by_cases ej : j = k
  ·simp [aR, ej]
  ·rw [if_neg ej] at h
   have := mN h
   simp only [aR, List.map_cons, List.mem_cons]
   exact .inr this
theorem zLs {id : Nat} {ops : List Oper} (n : Nat) (hm : P.follows .mixedOrders = true) (hok : sW (aR S.env) ops n = true)
  (h : ∀ K : HS → Prop, (∀ S', Q .normal S' → K S') → HVr P N (bL ops) (fun S' => jZ (HV2 P N (bL ops) K (ops.drop n)) S') (ops.take n) S) : HW P N (.region id ops.toArray true) Q S := fun c l w I => by
 have hks : ∀ k ∈ aR S.env, ∃ v, lk l k = some v := fun k hk => by
  obtain ⟨x, hx⟩ := mP hk
  obtain ⟨ρ, xs, G⟩ := I
  obtain ⟨v, h1, -⟩ := G.env k x hx
  exact ⟨v, h1⟩
 refine qAb (aR S.env) ?_
 have I' : Inv c S (lk (keep (aR S.env) l)) w := I.agree fun k x hk => mZ (mN hk)
 have hkk : oB (keep (aR S.env) l) = aR S.env := mF hks
 generalize keep (aR S.env) l = l' at I' hkk
 obtain ⟨ρ, xs, G⟩ := I'
 have ok := mA hok
 have hlen : (ops.take n).length = n := by rw [List.length_take]; have := ok.hn; omega
 have get_take : ∀ {i : Nat} {o : Oper}, (ops.take n)[i]? = some o → i < n ∧ ops[i]? = some o := fun {i o} h => by
  have hi := (List.getElem?_eq_some_iff.1 h).1
  rw [hlen] at hi
  rw [List.getElem?_take_of_lt hi] at h
  exact ⟨hi, h⟩
 obtain ⟨hs, -, heads, S1, e1, F1, h1⟩ := qE5 (E0 := S.env) (st := S.st) (ops.take n) 0 S (fun _ => .junk) (fun k o hk => by rw [Nat.zero_add]; exact (get_take hk).2) rfl (fun t x hx => .inr ⟨fun j hj => absurd hj (Nat.not_lt_zero _), hx⟩) (h (Q .normal) fun _ h => h)
 rw [hlen, Nat.zero_add] at F1
 have head : ∀ i o, i < n → ops[i]? = some o → HeadOk P N ops S.env S.st hs i o := fun i o hi ho => by
  have := heads i o (by rw [List.getElem?_take_of_lt hi]; exact ho)
  rw [Nat.zero_add] at this; exact this
 have uniq : ∀ i j t, i < n → j < n → aJ ops i = some t → aJ ops j = some t → i = j := by
  intro i j t hi hj h1 h2
  rcases Nat.lt_trichotomy i j with h | h | h
  ·rcases ok.uniq j i hj h with e | e
   ·rw [h2] at e; cases e
   ·exact absurd (h2.trans h1.symm) e
  ·exact h
  ·rcases ok.uniq i j hi h with e | e
   ·rw [h1] at e; cases e
   ·exact absurd (h1.trans h2.symm) e
 have hlt : DLt N ops n := fun i t hi hd => by
  obtain ⟨o, ho, hod⟩ := mT hd
  have := (head i o hi ho).lt
  rw [hod] at this; exact this
 -- what a frame of the heads' names reads
 have frame : ∀ (vs : Nat → Value) (w' : World) (i : Nat) (E : aH), i ≤ n → Below w.heap.size w w' → FrOk ops S.env hs i E →
   (∀ j t x, j < i → aJ ops j = some t → hlk E t = some x → RepH w' (c.A ρ S.st) c.n0 ρ (vs j) (hs j)) → Good c ⟨E, S.st⟩ (lk (dX l' ops vs i)) w' ρ xs := fun vs w' i E hi hB F hv => by
  have GB := G.below hB
  refine ⟨GB.rows, GB.apart, fun k x hk => ?_, GB.kept, GB.a0⟩
  rcases F k x hk with ⟨j, a, b, d⟩ | ⟨a, b⟩
  ·refine ⟨vs j, (iQ (l := l') (vs := vs) hlt (base := Array.replicate N undef) (by simp) b (fun q hq hne e => hne (uniq q j k hq (by omega) e b)) i hi a).1, ?_⟩
   rw [← d]; exact hv j k x a b hk
  ·obtain ⟨v, v1, v2⟩ := GB.env k x b
   exact ⟨v, by rw [(jX (l := l') (vs := vs) #[] k i a).1]; exact v1, v2⟩
 refine zHa (aR S.env) n hm hkk hok hlt (C := fun w' => Below w.heap.size w w') (R := fun j u w' => RepH w' (c.A ρ S.st) c.n0 ρ u (hs j)) (Below.refl _ _).drew (fun i u w1 w2 _ hr hB => hr.above hB) ?_ ?_
 ·intro i o hi ho vs w1 hC hR
  obtain ⟨T, TF, TS, run⟩ := (head i o hi ho).head
  have GT : Good c ⟨T, S.st⟩ (lk (dX l' ops vs i)) w1 ρ xs := frame vs w1 i T (by omega) hC TF fun j t x hj hd hx => hR j t hj hd (nM (TS t x hx))
  obtain ⟨b, b1, b2, b3⟩ := run c _ w1 ρ xs GT
  refine ⟨b, b1, fun hb => ?_, fun hb => ?_⟩
  ·exact (iA (fun x X hx => by simp [evD, hx]) (b2 hb)).mono fun u w2 ⟨hu, hB⟩ => ⟨hu, hC.trans (hB.mono hC.size), hB⟩
  ·rw [b3 hb]; exact .v _
 ·intro vs w1 hC hR
  obtain ⟨E1, st1⟩ := S1
  have e1 : st1 = S.st := e1
  subst e1
  have G1 := frame vs w1 n E1 (Nat.le_refl _) hC F1 fun j t x hj _ _ => hR j hj
  exact HW_drw.V2.mono' (sQ _ _ _ _ h1 ⟨ρ, xs, G1⟩) fun l2 w2 h2 => h2
theorem zTe {f : FuncId} {args args' : List HV} {x : HV} {K : HV → Prop} (hc : aD P f = true) (H : HFun P f args' (fun h st => h = x ∧ st = [])) (hf : FreshH x) (hn : ∀ ρ ρ' : Nat → Value, ∀ (w : World) (A : Nat → Prop) (n : Nat) (v : Value), RepH w A n ρ v x → RepH w A n ρ' v x) (hl : Lends T.st args args') (hK : K x) : zCz P f args T K :=
 ⟨hc, x, hK, fun c look w ρ xs vs G R => Ret.mono (H w vs (pB G R hl)) fun v w' ⟨B, h, st, h8, ⟨e1, e2⟩, ρ', xs', G', hr⟩ => ⟨by
  subst e1; subst e2
  have hw : c.n0 ≤ w.heap.size := Nat.le_trans c.hn G.kept.size
  refine hn ρ' ρ _ _ _ _ (hr.up (Nat.le_refl _) (fun _ _ _ => rfl) (fun b _ hA => ?_) hw)
  left
  show b < w.heap.size
  rcases hA with h0 | ⟨i, r, hi, hb⟩
  ·have := (G.a0 b h0).1; have := G.kept.size; omega
  ·exact G.lt hi hb, B⟩⟩
theorem zL8 {f : FuncId} {args args' : List HV} {x : Value} {K : HV → Prop} (hc : aD P f = true) (H : HFun P f args' (fun h st => h = .v x)) (hl : Lends T.st args args') (hK : K (.v x)) : zCz P f args T K :=
 ⟨hc, .v x, hK, fun c look w ρ xs vs G R => Ret.mono (H w vs (pB G R hl)) fun v w' ⟨B, h, st, h8, q, ρ', xs', G', hr⟩ => ⟨by subst q; have := aV hr; subst this; exact .v _, B⟩⟩
end
end Go.Eng
end

section
set_option linter.unusedSimpArgs false
set_option linter.unusedVariables false
namespace Go.Eng
open Go Go.RowKit
section
variable {P : Program} {T : HS}
theorem qFn {f : FuncId} {args args' : List HV} {ty sz : Nat} {els : List (List FV)} {K : HV → Prop} (hc : aD P f = true) (H : HFun P f args' (fun h st => h = .own 0 ∧ st = [(0, .sl true ty sz els)])) (hl : Lends T.st args args') (hK : K (.lst true els)) : zCz P f args T K :=
 ⟨hc, _, hK, fun c look w ρ xs vs G R => Ret.mono (H w vs (pB G R hl)) fun v w' ⟨B, h, st, h8, ⟨e1, e2⟩, ρ', xs', G', hr⟩ => ⟨by
  subst e1; subst e2
  have hw : c.n0 ≤ w.heap.size := Nat.le_trans c.hn G.kept.size
  have hA : ∀ b, c.A ρ T.st b → b < w.heap.size := by
   rintro b (h0 | ⟨i, r, hi, hb⟩)
   ·have := (G.a0 b h0).1; have := G.kept.size; omega
   ·exact G.lt hi hb
  have e0 : rlk (HS.st ⟨[], [(0, Row.sl true ty sz els)]⟩) 0 = some (.sl true ty sz els) := rfl
  cases hr
  obtain ⟨o1, o2, o3⟩ := cW G' e0
  have R0 := G'.rows 0 _ e0
  refine .lst (qAm o1 o2 (fun p k hp hk => ?_) (fun b hb => ?_))
  ·obtain ⟨u, a, b, d⟩ := o3 p k hp hk
   exact ⟨u, a, b, d.up (Nat.le_refl _) (fun _ _ _ => rfl) (fun b _ h => .inl (hA b h)) hw⟩
  ·rcases (R0.new b hb).1 with h | h
   ·have h : w.heap.size ≤ b := h
    exact ⟨fun hA' => by have := hA b hA'; omega, fun _ => by omega⟩
   ·exact h.elim, B⟩⟩
end
end Go.Eng
end

section
set_option linter.unusedSimpArgs false
set_option linter.unusedVariables false
namespace Go.Eng
open Go Go.RowKit
theorem zS (t : Nat) : hlk [] t = none := nr rfl
theorem zM (k : Nat) (v : HV) (r : aH) (t : Nat) : hlk ((k, v) :: r) t = if k = t then some v else hlk r t := nr rfl
theorem zX (t : Nat) : rlk [] t = none := nr rfl
theorem zU (k : Nat) (v : Row) (r : aB) (t : Nat) : rlk ((k, v) :: r) t = if k = t then some v else rlk r t := nr rfl
theorem zKi (l : aH) (t : Nat) : hev l (.tmp t) = hlk l t := nr rfl
theorem zBj (l : aH) (v : Value) : hev l (.const v) = some (.v v) := nr rfl
theorem qVd (l : aH) (g : Nat) : hev l (.global g) = some (.v (.pointer (some ⟨g, 0, none⟩))) := nr rfl
theorem zFs (l : aH) (f : FuncId) : hev l (.func f) = some (.v (.func (.func f) #[] #[])) := nr rfl
theorem zFr (l : aH) : jU l [] = some [] := nr rfl
theorem zBi (l : aH) (x : Operand) (r : List Operand) : jU l (x :: r) = match hev l x with | some v => (match jU l r with | some vs => some (v :: vs) | none => none) | none => none := nr rfl
theorem zNf (x : Value) : qDd (some (.v x)) = some x := nr rfl
theorem zAj  : qDd none = none := nr rfl
theorem zEt (fr : Bool) (xs : List (List FV)) : qDd (some (.lst fr xs)) = none := nr rfl
theorem zEs (i : Nat) : qDd (some (.own i)) = none := nr rfl
theorem zEr (i s j k : Nat) : qDd (some (.ptr i s j k)) = none := nr rfl
theorem zEu (fr : Bool) (xs : List (List FV)) (s j k : Nat) : qDd (some (.elt fr xs s j k)) = none := nr rfl
theorem zEv (cs : List HV) : qDd (some (.agg cs)) = none := nr rfl
theorem zEq (cs : List HV) : qDd (some (.tup cs)) = none := nr rfl
theorem zJw (i s o n : Nat) : qDd (some (.vw i s o n)) = none := nr rfl
theorem zAk  : qDd (some .junk) = none := nr rfl
theorem qV3 (S : HS) (id : Nat) (P : Program) (o : Op) (c : Prop) (v : Value) : nN S id P o (some (c, v)) = .go c (.v v) S := nr rfl
theorem qV4 (S : HS) (id : Nat) (P : Program) (o : Op) : nN S id P o none = gF P S id o := nr rfl
theorem zNj (P : Program) (S : HS) (id : Nat) (o : Op) : hop P S id o = nN S id P o (aG P (lo S.env) o) := nr rfl
theorem zBm (P : Program) (S : HS) (id : Nat) (x : Operand) : gF P S id (.move x) = tT S (hev S.env x) := nr rfl
theorem qRb (P : Program) (S : HS) (id : Nat) (x : Operand) : gF P S id (.assign x) = tT S (hev S.env x) := nr rfl
theorem zBk (P : Program) (S : HS) (id : Nat) (c a b : Operand) : gF P S id (.pick c a b) = qDs S (hev S.env c) (hev S.env a) (hev S.env b) := nr rfl
theorem qNo (P : Program) (S : HS) (id : Nat) (x : Operand) (i : Nat) : gF P S id (.extract x i) = lK S i (hev S.env x) := nr rfl
theorem qVj (P : Program) (S : HS) (id : Nat) (t : TypeId) (x : Operand) (f : Nat) : gF P S id (.field t x f) = sL S (qDy P t f) (hev S.env x) := nr rfl
theorem qVk (P : Program) (S : HS) (id : Nat) (t : TypeId) (x : Operand) (f : Nat) : gF P S id (.fieldAddr t x f) = sN S (hZ P t f) (hev S.env x) := nr rfl
theorem zBl (P : Program) (S : HS) (id : Nat) (x : Operand) : gF P S id (.nilCheck x) = qKj S (hev S.env x) := nr rfl
theorem qVi (P : Program) (S : HS) (id : Nat) (t : TypeId) (x i : Operand) : gF P S id (.indexAddr t x i) = mR S (aY P t) (qMa P t) (hev S.env x) (hev S.env i) := nr rfl
theorem qVf (P : Program) (S : HS) (id : Nat) (t : TypeId) (x : Operand) (l h : Option Operand) : gF P S id (.slice t x l h none) = pU S (aY P t) l h (hev S.env x) := nr rfl
theorem zBn (P : Program) (S : HS) (id : Nat) (t : TypeId) (x : Operand) : gF P S id (.load t x) = rK S (bJ P t) (hev S.env x) := nr rfl
theorem qVe (P : Program) (S : HS) (id : Nat) (t : TypeId) (x y : Operand) : gF P S id (.store t x y) = sJ S (bJ P t) (hev S.env x) (hev S.env y) := nr rfl
theorem qVo (P : Program) (S : HS) (id : Nat) (t : TypeId) : gF P S id (.alloc t) = nZ S id t (eD P t) := nr rfl
theorem zFw (P : Program) (S : HS) (id : Nat) (t : TypeId) (x : Operand) : gF P S id (.box t x) = qRr S id t (hev S.env x) := nr rfl
theorem qVn (P : Program) (S : HS) (id : Nat) (t : TypeId) (ps : Array (Nat × Operand)) : gF P S id (.build t ps) = wH S (cG P t) (cY P t) (eD P t) (iE S.env ps.toList) := nr rfl
theorem qRa (P : Program) (S : HS) (id : Nat) (t n : TypeId) (ps : Array (Nat × Operand)) : gF P S id (.buildSlice t n ps) = kE S id n (kY P t) (iE S.env ps.toList) := nr rfl
theorem qVg (P : Program) (S : HS) (id : Nat) (t : TypeId) (x y : Operand) : gF P S id (.makeSlice t x y) = qFo S id (kY P t) (hev S.env x) (hev S.env y) := nr rfl
theorem zFu (P : Program) (S : HS) (id : Nat) (args : Array Operand) (ats : Array TypeId) : gF P S id (.call ⟨.builtin .len, args, ats⟩) = match jU S.env args.toList with | some [h] => qH5 S (bC ((aY P (cU ats)).isSome = true ∧ ats.size = 1)) (some h) | _ => .bad := nr rfl
theorem zFx (P : Program) (S : HS) (id : Nat) (args : Array Operand) (ats : Array TypeId) : gF P S id (.call ⟨.builtin .append, args, ats⟩) = jD S id (ats == #[cU ats, cU ats]) (qS5 P ats) (kY P (cU ats)) (jU S.env args.toList) := nr rfl
theorem qVm (P : Program) (S : HS) (id : Nat) (f : FuncId) (args : Array Operand) (ats : Array TypeId) : gF P S id (.call ⟨.value (.func f), args, ats⟩) = qFp f (jU S.env args.toList) := nr rfl
theorem zFv (P : Program) (S : HS) (id : Nat) (t : TypeId) (x y : Operand) (u : TypeId) : gF P S id (.binOp .eql t x y u) = hEq S (qFw P t) t false (hev S.env x) (hev S.env y) := nr rfl
theorem zFt (P : Program) (S : HS) (id : Nat) (t : TypeId) (x y : Operand) (u : TypeId) : gF P S id (.binOp .neq t x y u) = hEq S (qFw P t) t true (hev S.env x) (hev S.env y) := nr rfl
theorem zBp (P : Program) (S : HS) (id : Nat) (s d : TypeId) (x : Operand) : gF P S id (.convert s d x) = rQ S (qCn P s d) (qJl P s d) (hev S.env x) := nr rfl
theorem zF3 (S : HS) (h : HV) : tT S (some h) = .go True h S := nr rfl
theorem zF0 (S : HS) (t : Bool) (a b : HV) : qDs S (some (.v (.bool t))) (some a) (some b) = .go True (bif t then a else b) S := nr rfl
theorem qRm (S : HS) (i : Nat) (hs : List HV) : lK S i (some (.tup hs)) = match hs[i]? with | some h => .go True h S | none => .bad := nr rfl
theorem qVh (P : Program) (S : HS) (id : Nat) (t : TypeId) (x i : Operand) : gF P S id (.index t x i) = oR S (qJy P t) (hev S.env x) (hev S.env i) := nr rfl
theorem qRl (S : HS) (m : Nat) (hs : List HV) (k : IntKind) (n : Int) : oR S (some m) (some (.agg hs)) (some (.v (.int k n))) = match hs[n.toNat]? with | some h => .go (bC (0 ≤ n ∧ n < m)) h S | none => .bad := nr rfl
theorem qWm (S : HS) (off : Nat) (hs : List HV) : sL S (some (off, none)) (some (.agg hs)) = match hs[off]? with | some h => .go True h S | none => .bad := nr rfl
theorem qWl (S : HS) (off n : Nat) (hs : List HV) : sL S (some (off, some n)) (some (.agg hs)) = .go (bC (off + n ≤ hs.length)) (.agg ((hs.drop off).take n)) S := nr rfl
theorem qWn (S : HS) (off id sz i k : Nat) : sN S (some off) (some (.ptr id sz i k)) = .go True (.ptr id sz i (k + off)) S := nr rfl
theorem qWo (S : HS) (off : Nat) (fr : Bool) (xs : List (List FV)) (sz i k : Nat) : sN S (some off) (some (.elt fr xs sz i k)) = .go True (.elt fr xs sz i (k + off)) S := nr rfl
theorem zF1 (S : HS) (id sz i k : Nat) : qKj S (some (.ptr id sz i k)) = .go True (.ptr id sz i k) S := nr rfl
theorem zF2 (S : HS) (fr : Bool) (xs : List (List FV)) (sz i k : Nat) : qKj S (some (.elt fr xs sz i k)) = .go True (.elt fr xs sz i k) S := nr rfl
theorem qWb (S : HS) (id : Nat) (us ua : Option (Nat × Nat)) (kk : IntKind) (n : Int) : mR S us ua (some (.own id)) (some (.v (.int kk n))) = oS S id n us (rlk S.st id) := nr rfl
theorem qWc (S : HS) (fr : Bool) (xs : List (List FV)) (us ua : Option (Nat × Nat)) (kk : IntKind) (n : Int) : mR S us ua (some (.lst fr xs)) (some (.v (.int kk n))) = rN S fr xs n us := nr rfl
theorem qWa (S : HS) (id sz i k : Nat) (us ua : Option (Nat × Nat)) (kk : IntKind) (n : Int) : mR S us ua (some (.ptr id sz i k)) (some (.v (.int kk n))) = rM S id sz i k n ua := nr rfl
theorem qWd (S : HS) (fr : Bool) (xs : List (List FV)) (sz i k : Nat) (us ua : Option (Nat × Nat)) (kk : IntKind) (n : Int) : mR S us ua (some (.elt fr xs sz i k)) (some (.v (.int kk n))) = rP S fr xs sz i k n ua := nr rfl
theorem qWg (S : HS) (id : Nat) (n : Int) (e sz : Nat) (nw : Bool) (ty s : Nat) (els : List (List FV)) : oS S id n (some (e, sz)) (some (.sl nw ty s els)) = .go (bC (sz = s ∧ 0 ≤ n ∧ n < els.length)) (.ptr id s n.toNat 0) S := nr rfl
theorem qWi (S : HS) (fr : Bool) (xs : List (List FV)) (n : Int) (e sz : Nat) : rN S fr xs n (some (e, sz)) = .go (bC (0 ≤ n ∧ n < xs.length) ∧ Wid sz xs) (.elt fr xs sz n.toNat 0) S := nr rfl
theorem qWh (S : HS) (id sz i k : Nat) (n : Int) (len size : Nat) : rM S id sz i k n (some (len, size)) = .go (bC (0 ≤ n ∧ n < len)) (.ptr id sz i (k + n.toNat * size)) S := nr rfl
theorem qWj (S : HS) (fr : Bool) (xs : List (List FV)) (sz i k : Nat) (n : Int) (len size : Nat) : rP S fr xs sz i k n (some (len, size)) = .go (bC (0 ≤ n ∧ n < len)) (.elt fr xs sz i (k + n.toNat * size)) S := nr rfl
theorem zKj (S : HS) (c : Prop) (i s o n : Nat) : qH5 S c (some (.vw i s o n)) = .go c (.v (.int .i64 n)) S := nr rfl
theorem qVz (S : HS) (us : Option (Nat × Nat)) (l h : Option Operand) (id : Nat) : pU S us l h (some (.own id)) = rH S id (kL (lo S.env) l 0) (kL (lo S.env) h (zH5 (rlk S.st id))) us (rlk S.st id) := nr rfl
theorem zBs (S : HS) (us : Option (Nat × Nat)) (l h : Option Operand) (id sz off n : Nat) : pU S us l h (some (.vw id sz off n)) = rG S id sz off (kL (lo S.env) l 0) (kL (lo S.env) h n) us (rlk S.st id) := nr rfl
theorem qV1 (S : HS) (id : Nat) (a b : Int) (e sz : Nat) (nw : Bool) (ty s : Nat) (els : List (List FV)) : rH S id (some a) (some b) (some (e, sz)) (some (.sl nw ty s els)) = .go (bC (sz = s ∧ 0 ≤ a ∧ a ≤ b ∧ b ≤ els.length)) (.vw id s a.toNat (b.toNat - a.toNat)) S := nr rfl
theorem qV0 (S : HS) (id sz off : Nat) (a b : Int) (e sz' : Nat) (nw : Bool) (ty s : Nat) (els : List (List FV)) : rG S id sz off (some a) (some b) (some (e, sz')) (some (.sl nw ty s els)) = .go (bC (sz' = sz ∧ s = sz ∧ 0 ≤ a ∧ a ≤ b ∧ off + b ≤ els.length)) (.vw id sz (off + a.toNat) (b.toNat - a.toNat)) S := nr rfl
theorem zH4 (nw : Bool) (ty s : Nat) (els : List (List FV)) : zH5 (some (.sl nw ty s els)) = els.length := nr rfl
theorem zBz (S : HS) (id s off m : Nat) (us ua : Option (Nat × Nat)) (kk : IntKind) (n : Int) : mR S us ua (some (.vw id s off m)) (some (.v (.int kk n))) = rL S id s off m n us (rlk S.st id) := nr rfl
theorem qWe (S : HS) (id s off m : Nat) (n : Int) (e sz : Nat) (nw : Bool) (ty s' : Nat) (els : List (List FV)) : rL S id s off m n (some (e, sz)) (some (.sl nw ty s' els)) = .go (bC (sz = s ∧ s' = s ∧ 0 ≤ n ∧ n < m)) (.ptr id s (off + n.toNat) 0) S := nr rfl
theorem zAa (st : aB) (sz id s off n : Nat) : kM st sz (.vw id s off n) = match rlk st id with | some (.sl _ _ s' els) => some (bC (s = sz ∧ s' = sz), (els.drop off).take n) | _ => none := nr rfl
theorem zBq (i s o n : Nat) : cL (.vw i s o n) = some [.vw i s o n] := nr rfl
theorem zJ9 (i s o n : Nat) : (HV.vw i s o n).one = true := nr rfl
theorem pT (p : Nat → Bool) (i s o n : Nat) : HV.kill p (.vw i s o n) = bif p i then .junk else .vw i s o n := by rw [HV.kill]
theorem jC (m : Nat → Option Nat) (i s o n : Nat) : HV.ren m (.vw i s o n) = match m i with | some j => .vw j s o n | none => .junk := by rw [HV.ren]; cases m i <;> rfl
theorem fP (id : Nat) (x0 : HV) (i s o n : Nat) : HV.sub id x0 (.vw i s o n) = if i = id then zC2 x0 s o n else .vw i s o n := by rw [HV.sub]
theorem qZz (i s o n : Nat) : vD (.vw i s o n) = [] := nr rfl
theorem qUb (i s o n : Nat) : qAx (.vw i s o n) = [] := nr rfl
theorem zF5 (S : HS) (c : Prop) (id : Nat) : qH5 S c (some (.own id)) = qDt S c (rlk S.st id) := nr rfl
theorem zF6 (S : HS) (c : Prop) (fr : Bool) (xs : List (List FV)) : qH5 S c (some (.lst fr xs)) = .go c (.v (.int .i64 xs.length)) S := nr rfl
theorem zF7 (S : HS) (c : Prop) (nw : Bool) (ty s : Nat) (els : List (List HV)) : qDt S c (some (.hl nw ty s els)) = .go c (.v (.int .i64 els.length)) S := nr rfl
theorem qWf (S : HS) (id : Nat) (n : Int) (e sz : Nat) (nw : Bool) (ty s : Nat) (els : List (List HV)) : oS S id n (some (e, sz)) (some (.hl nw ty s els)) = .go (bC (sz = s ∧ 0 ≤ n ∧ n < els.length)) (.ptr id s n.toNat 0) S := nr rfl
theorem zF8 (S : HS) (c : Prop) (nw : Bool) (ty s : Nat) (els : List (List FV)) : qDt S c (some (.sl nw ty s els)) = .go c (.v (.int .i64 els.length)) S := nr rfl
theorem zBt (S : HS) (us : Option (Nat × Nat)) (l h : Option Operand) (fr : Bool) (xs : List (List FV)) : pU S us l h (some (.lst fr xs)) = rJ S fr xs (kL (lo S.env) l 0) (kL (lo S.env) h xs.length) us := nr rfl
theorem qV2 (S : HS) (fr : Bool) (xs : List (List FV)) (a b : Int) (e sz : Nat) : rJ S fr xs (some a) (some b) (some (e, sz)) = .go (bC (0 ≤ a ∧ a ≤ b ∧ b ≤ xs.length) ∧ Wid sz xs) (.lst fr ((xs.take b.toNat).drop a.toNat)) S := nr rfl
theorem zBu (S : HS) (kt : Option (Option Nat)) (id sz i k : Nat) : rK S kt (some (.ptr id sz i k)) = lJ S sz i k kt (rlk S.st id) := nr rfl
theorem zBv (S : HS) (kt : Option (Option Nat)) (fr : Bool) (xs : List (List FV)) (sz i k : Nat) : rK S kt (some (.elt fr xs sz i k)) = sK S xs i k kt := nr rfl
theorem zBw (S : HS) (sz i k : Nat) (nw : Bool) (ty s : Nat) (els : List (List FV)) : lJ S sz i k (some none) (some (.sl nw ty s els)) = .go (bC (sz = s ∧ i < els.length ∧ k < (els.getD i []).length)) ((els.getD i []).getD k default).h S := nr rfl
theorem qV5 (S : HS) (sz i k n : Nat) (nw : Bool) (ty s : Nat) (els : List (List FV)) : lJ S sz i k (some (some n)) (some (.sl nw ty s els)) = .go (bC (sz = s ∧ i < els.length ∧ k + n ≤ (els.getD i []).length)) (.agg ((((els.getD i []).drop k).take n).map FV.h)) S := nr rfl
theorem zBy (S : HS) (sz i k : Nat) (nw : Bool) (ty : Nat) (cells : List HV) : lJ S sz i k (some none) (some (.bx nw ty cells)) = .go (bC (i = 0 ∧ k < cells.length)) (cells.getD k .junk) S := nr rfl
theorem qV7 (S : HS) (sz i k n : Nat) (nw : Bool) (ty : Nat) (cells : List HV) : lJ S sz i k (some (some n)) (some (.bx nw ty cells)) = .go (bC (i = 0 ∧ k + n ≤ cells.length)) (.agg ((cells.drop k).take n)) S := nr rfl
theorem zBx (S : HS) (sz i k : Nat) (nw : Bool) (ty s : Nat) (els : List (List HV)) : lJ S sz i k (some none) (some (.hl nw ty s els)) = .go (bC (sz = s ∧ i < els.length ∧ k < (els.getD i []).length)) ((els.getD i []).getD k .junk) S := nr rfl
theorem qV6 (S : HS) (sz i k n : Nat) (nw : Bool) (ty s : Nat) (els : List (List HV)) : lJ S sz i k (some (some n)) (some (.hl nw ty s els)) = .go (bC (sz = s ∧ i < els.length ∧ k + n ≤ (els.getD i []).length)) (.agg (((els.getD i []).drop k).take n)) S := nr rfl
theorem qVx (S : HS) (id sz i k : Nat) (kt : Option (Option Nat)) (h : HV) (nw : Bool) (ty s : Nat) (els : List (List HV)) : nE S id sz i k kt h (some (.hl nw ty s els)) = oP S id sz i k nw ty s els kt h := nr rfl
theorem qRh (S : HS) (id sz i k : Nat) (nw : Bool) (ty s : Nat) (els : List (List HV)) (h : HV) : oP S id sz i k nw ty s els (some none) h = .go (bC (sz = s ∧ i < els.length ∧ k < (els.getD i []).length ∧ h.one = true)) (.v undef) ⟨S.env, gK id (.hl nw ty s (els.set i ((els.getD i []).set k h))) S.st⟩ := nr (by cases h <;> rfl)
theorem qRi (S : HS) (id sz i k n : Nat) (nw : Bool) (ty s : Nat) (els : List (List HV)) (hs : List HV) : oP S id sz i k nw ty s els (some (some n)) (.agg hs) = .go (bC (sz = s ∧ i < els.length ∧ hs.length = n ∧ k + n ≤ (els.getD i []).length)) (.v undef) ⟨S.env, gK id (.hl nw ty s (els.set i (splice (els.getD i []) k hs))) S.st⟩ := nr rfl
theorem qV8 (S : HS) (xs : List (List FV)) (i k : Nat) : sK S xs i k (some none) = .go (bC (i < xs.length ∧ k < (xs.getD i []).length)) ((xs.getD i []).getD k default).h S := nr rfl
theorem qV9 (S : HS) (xs : List (List FV)) (i k n : Nat) : sK S xs i k (some (some n)) = .go (bC (i < xs.length ∧ k + n ≤ (xs.getD i []).length)) (.agg ((((xs.getD i []).drop k).take n).map FV.h)) S := nr rfl
theorem zBr (S : HS) (kt : Option (Option Nat)) (id sz i k : Nat) (h : HV) : sJ S kt (some (.ptr id sz i k)) (some h) = nE S id sz i k kt h (rlk S.st id) := nr rfl
theorem qVw (S : HS) (id sz i k : Nat) (kt : Option (Option Nat)) (h : HV) (nw : Bool) (ty s : Nat) (els : List (List FV)) : nE S id sz i k kt h (some (.sl nw ty s els)) = oN S id sz i k nw ty s els kt h := nr rfl
theorem qVy (S : HS) (id sz i k : Nat) (kt : Option (Option Nat)) (h : HV) (nw : Bool) (ty : Nat) (cells : List HV) : nE S id sz i k kt h (some (.bx nw ty cells)) = oQ S id i k nw ty cells kt h := nr rfl
theorem qRf (S : HS) (id sz i k : Nat) (nw : Bool) (ty s : Nat) (els : List (List FV)) (h : HV) : oN S id sz i k nw ty s els (some none) h = match h.f with | some f => .go (bC (sz = s ∧ i < els.length ∧ k < (els.getD i []).length ∧ f.one = true)) (.v undef) ⟨S.env, gK id (.sl nw ty s (els.set i ((els.getD i []).set k f))) S.st⟩ | none => .bad := nr rfl
theorem qRg (S : HS) (id sz i k n : Nat) (nw : Bool) (ty s : Nat) (els : List (List FV)) (hs : List HV) : oN S id sz i k nw ty s els (some (some n)) (.agg hs) = match HV.fs hs with | some fs => .go (bC (sz = s ∧ i < els.length ∧ fs.length = n ∧ k + n ≤ (els.getD i []).length)) (.v undef) ⟨S.env, gK id (.sl nw ty s (els.set i (splice (els.getD i []) k fs))) S.st⟩ | none => .bad := nr rfl
theorem qRj (S : HS) (id i k : Nat) (nw : Bool) (ty : Nat) (cells : List HV) (h : HV) : oQ S id i k nw ty cells (some none) h = .go (bC (i = 0 ∧ k < cells.length ∧ h.one = true)) (.v undef) ⟨S.env, gK id (.bx nw ty (cells.set k h)) S.st⟩ := nr (by cases h <;> rfl)
theorem qRk (S : HS) (id i k n : Nat) (nw : Bool) (ty : Nat) (cells : List HV) (hs : List HV) : oQ S id i k nw ty cells (some (some n)) (.agg hs) = .go (bC (i = 0 ∧ hs.length = n ∧ k + n ≤ cells.length)) (.v undef) ⟨S.env, gK id (.bx nw ty (splice cells k hs)) S.st⟩ := nr rfl
theorem zB8 (S : HS) (id : Nat) (t : TypeId) (z : Array Value) : nZ S id t (some z) = .go (bC (sE z = true)) (.ptr id z.size 0 0) ((S.kill (only id)).row id (.bx true t (z.toList.map .v))) := nr rfl
theorem zKq (S : HS) (id : Nat) (t : TypeId) (h : HV) : qRr S id t (some h) = qH6 S id t (cL h) := nr rfl
theorem zGc (S : HS) (id : Nat) (t : TypeId) (cs : List HV) : qH6 S id t (some cs) = .go True (.ptr id cs.length 0 0) ((S.kill (only id)).row id (.bx true t (cs.map (HV.kill (only id))))) := nr rfl
theorem qT7 (l : aH) : iE l [] = some [] := nr rfl
theorem qQd (l : aH) (i : Nat) (x : Operand) (r : List (Nat × Operand)) : iE l ((i, x) :: r) = match hev l x with | some v => (match iE l r with | some vs => some ((i, v) :: vs) | none => none) | none => none := nr rfl
theorem zBh (aZ : Nat → Option (Nat × Nat)) (cells : List HV) : qDr aZ cells [] = some (True, cells) := nr rfl
theorem qVc (aZ : Nat → Option (Nat × Nat)) (cells : List HV) (i : Nat) (h : HV) (r : List (Nat × HV)) : qDr aZ cells ((i, h) :: r) = match aZ i with | some (off, n) => (match cL h with | some cs => (match qDr aZ (splice cells off cs) r with | some (c, out) => some (bC (cs.length = n ∧ off + n ≤ cells.length) ∧ c, out) | none => none) | none => none) | none => none := nr rfl
theorem zB7 (S : HS) (ok : Bool) (aZ : Nat → Option (Nat × Nat)) (z : Array Value) (ps : List (Nat × HV)) : wH S ok aZ (some z) (some ps) = rR S (ok && sE z) (qDr aZ (z.toList.map .v) ps) := nr rfl
theorem qWt (S : HS) (ok : Bool) (c : Prop) (cs : List HV) : rR S ok (some (c, cs)) = .go (bC (ok = true) ∧ c) (.agg cs) S := nr rfl
theorem zFl (sz : Nat) (els : List (List FV)) : qNn sz els [] = some (True, els) := nr rfl
theorem zBc (sz : Nat) (els : List (List FV)) (i : Nat) (h : HV) (r : List (Nat × HV)) : qNn sz els ((i, h) :: r) = match cL h with | some cs => (match HV.fs cs with | some fs => (match qNn sz (els.set i fs) r with | some (c, out) => some (bC (fs.length = sz ∧ i < els.length) ∧ c, out) | none => none) | none => none) | none => none := nr rfl
theorem qWq (S : HS) (id n e sz by' : Nat) (z : Array Value) (ps : List (Nat × HV)) : kE S id n (some (e, sz, by', z)) (some ps) = match sE z && z.size == sz with | true => jV S id e sz n z ps (qSm ps) | false => .bad := nr rfl
theorem zG8  : qSm [] = true := nr rfl
theorem zCx (i : Nat) (h : HV) (r : List (Nat × HV)) : qSm ((i, h) :: r) = match cL h with | some cs => ((HV.fs cs).isSome && qSm r) | none => qSm r := nr rfl
theorem zBd (sz : Nat) (els : List (List HV)) : qDq sz els [] = some (True, els) := nr rfl
theorem qVa (sz : Nat) (els : List (List HV)) (i : Nat) (h : HV) (r : List (Nat × HV)) : qDq sz els ((i, h) :: r) = match cL h with | some cs => (match qDq sz (els.set i cs) r with | some (c, out) => some (bC (cs.length = sz ∧ i < els.length) ∧ c, out) | none => none) | none => none := nr rfl
theorem zNn (id : Nat) (els : List (List HV)) : hkl id els = els.map (List.map (HV.kill (only id))) := nr rfl
theorem qWr (S : HS) (id e sz n : Nat) (z : Array Value) (ps : List (Nat × HV)) : jV S id e sz n z ps true = lM S id e sz n (qNn sz (List.replicate n (z.toList.map .v)) ps) := nr rfl
theorem qWs (S : HS) (id e sz n : Nat) (z : Array Value) (ps : List (Nat × HV)) : jV S id e sz n z ps false = lL S id e sz n (qDq sz (List.replicate n (z.toList.map .v)) ps) := nr rfl
theorem qRp (S : HS) (id e sz n : Nat) (c : Prop) (els : List (List HV)) : lL S id e sz n (some (c, els)) = .go (bC (n * sz ≤ 16777216 ∧ n ≤ 16777216) ∧ c) (.own id) ((S.kill (only id)).row id (.hl true e sz (hkl id els))) := nr rfl
theorem qRq (S : HS) (id e sz n : Nat) (c : Prop) (els : List (List FV)) : lM S id e sz n (some (c, els)) = .go (bC (n * sz ≤ 16777216 ∧ n ≤ 16777216) ∧ c) (.own id) ((S.kill (only id)).row id (.sl true e sz els)) := nr rfl
theorem zF4 (S : HS) (id e sz by' : Nat) (z : Array Value) (n m : Int) : qFo S id (some (e, sz, by', z)) (some (.v (.int .i64 n))) (some (.v (.int .i64 m))) = match sE z && z.size == sz with | true => .go (bC (n = m ∧ 0 ≤ n ∧ by' * n.toNat ≤ 281474976710656 ∧ n.toNat ≤ maxLen)) (.own id) ((S.kill (only id)).row id (.sl true e sz (List.replicate n.toNat (z.toList.map .v)))) | false => .bad := nr rfl
theorem qUc (st : aB) (sz id : Nat) : kM st sz (.own id) = match rlk st id with | some (.sl _ _ s els) => some (bC (s = sz), els) | _ => none := nr rfl
theorem qUe (st : aB) (sz : Nat) (fr : Bool) (xs : List (List FV)) : kM st sz (.lst fr xs) = some (Wid sz xs, xs) := nr rfl
theorem qUd (st : aB) (sz : Nat) : kM st sz (.v (.slice none 0 0)) = some (True, []) := nr rfl
theorem qVl (P : Program) (S : HS) (id : Nat) (t : Nat) (args : Array Operand) (ats : Array TypeId) : gF P S id (.call ⟨.value (.tmp t), args, ats⟩) = qCi (fnH (hlk S.env t)) (jU S.env args.toList) := nr rfl
theorem zRg (f : FuncId) : fnH (some (.v (.func (.func f) #[] #[]))) = some f := nr rfl
theorem qRo (f : FuncId) (a : Option (List HV)) : qCi (some f) a = qFp f a := nr rfl
theorem zBo (P : Program) (S : HS) (id : Nat) (args : Array Operand) (ats : Array TypeId) : gF P S id (.call ⟨.builtin .copy, args, ats⟩) = tU S (ats == #[cU ats, cU ats]) (aY P (cU ats)) (jU S.env args.toList) := nr rfl
theorem zB0 (S : HS) (us : Option (Nat × Nat)) (id : Nat) (x : HV) : tU S true us (some [.own id, x]) = pV S id 0 none none x us (rlk S.st id) := nr rfl
theorem zGa (S : HS) (us : Option (Nat × Nat)) (id s off n : Nat) (x : HV) : tU S true us (some [.vw id s off n, x]) = pV S id off (some s) (some n) x us (rlk S.st id) := nr rfl
theorem qWp (S : HS) (id off : Nat) (x : HV) (e sz : Nat) (nw : Bool) (ty s : Nat) (els : List (List FV)) : pV S id off none none x (some (e, sz)) (some (.sl nw ty s els)) = match decide (sz = s) with | true => xX S id s off els.length (s = s) nw ty els (kM S.st s x) | false => .bad := nr rfl
theorem zB1 (S : HS) (id off s0 n : Nat) (x : HV) (e sz : Nat) (nw : Bool) (ty s : Nat) (els : List (List FV)) : pV S id off (some s0) (some n) x (some (e, sz)) (some (.sl nw ty s els)) = match decide (sz = s) with | true => xX S id s off n (s0 = s) nw ty els (kM S.st s x) | false => .bad := nr rfl
def cpy (els : List (List FV)) (off : Nat) (news : List (List FV)) (n : Nat) : List (List FV) := splice els off (news.take n)
def cpn (news : List (List FV)) (n : Nat) : Nat := min news.length n
theorem qRn (S : HS) (id sz off n : Nat) (ok : Prop) (nw : Bool) (ty : Nat) (els : List (List FV)) (c : Prop) (news : List (List FV)) : xX S id sz off n ok nw ty els (some (c, news)) = .go (c ∧ bC (off + n ≤ els.length ∧ 0 < sz ∧ ok)) (.v (.int .i64 (cpn news n : Nat))) ⟨S.env, gK id (.sl nw ty sz (cpy els off news n)) S.st⟩ := nr rfl
theorem qRs (S : HS) (nid : Nat) (same str : Bool) (e sz by' : Nat) (z : Array Value) (id : Nat) (x : HV) : jD S nid same str (some (e, sz, by', z)) (some [.own id, x]) = match (same || str) && z.size == sz with | true => qDu S id e sz by' same x (qLb same str S.st sz x) (rlk S.st id) | false => .bad := nr rfl
theorem zAb (st : aB) (sz id : Nat) : qHm st sz (.own id) = match rlk st id with | some (.sl _ _ s els) => some (bC (s = sz), els.map (List.map FV.h)) | some (.hl _ _ s els) => some (bC (s = sz), els) | _ => none := nr rfl
theorem zAd (st : aB) (sz : Nat) (fr : Bool) (xs : List (List FV)) : qHm st sz (.lst fr xs) = some (Wid sz xs, xs.map (List.map FV.h)) := nr rfl
theorem zAc (st : aB) (sz : Nat) : qHm st sz (.v (.slice none 0 0)) = some (True, []) := nr rfl
theorem zLo (a b c d : Nat) : (#[a, b] == #[c, d]) = (a == c && b == d) := by rw [Bool.eq_iff_iff]; simp
theorem zJq (str : Bool) (st : aB) (sz : Nat) (x : HV) : qLb true str st sz x = kM st sz x := nr rfl
theorem zJr (st : aB) (sz : Nat) (x : HV) : qLb false true st sz x = qQj x := nr rfl
theorem qZ9 (s : ByteArray) : qQj (.v (.string s)) = some (True, fR s) := nr rfl
theorem qRt (S : HS) (nid : Nat) (same str : Bool) (e sz by' : Nat) (z : Array Value) (x : HV) : jD S nid same str (some (e, sz, by', z)) (some [.v (.slice none 0 0), x]) = match same && z.size == sz with | true => xY S nid e sz by' true [] (kM S.st sz x) | false => .bad := nr rfl
theorem zGd (S : HS) (id e sz by' : Nat) (same : Bool) (x : HV) (news : Option (Prop × List (List FV))) (nw : Bool) (ty s : Nat) (els : List (List HV)) : qDu S id e sz by' same x news (some (.hl nw ty s els)) = match same && (decide (ty = e) && decide (s = sz)) with | true => qFq S id e sz by' nw els (qHm S.st sz x) | false => .bad := nr rfl
theorem zGg (S : HS) (id e sz by' : Nat) (nw : Bool) (els news : List (List HV)) (c : Prop) : qFq S id e sz by' nw els (some (c, news)) = .go (c ∧ bC ((els.length + news.length) * by' ≤ 140737488355328 ∧ 0 < by' ∧ 0 < sz)) (.own id) ((S.kill (only id)).row id (.hl nw e sz (hkl id (els ++ news)))) := nr rfl
theorem zGe (S : HS) (id e sz by' : Nat) (same : Bool) (x : HV) (news : Option (Prop × List (List FV))) (nw : Bool) (ty s : Nat) (els : List (List FV)) : qDu S id e sz by' same x news (some (.sl nw ty s els)) = match decide (ty = e) && decide (s = sz) with | true => xY S id e sz by' nw els news | false => .bad := nr rfl
theorem zGf (S : HS) (id e sz by' : Nat) (nw : Bool) (els : List (List FV)) (c : Prop) (news : List (List FV)) : xY S id e sz by' nw els (some (c, news)) = .go (c ∧ bC ((els.length + news.length) * by' ≤ 140737488355328 ∧ 0 < by' ∧ 0 < sz)) (.own id) ((S.kill (only id)).row id (.sl nw e sz (els ++ news))) := nr rfl
theorem zAi  : tJ [] = some [] := nr rfl
theorem qUm (x : Value) (r : List HV) : tJ (.v x :: r) = match tJ r with | some vs => some (x :: vs) | none => none := nr rfl
theorem zNv (S : HS) (up : Bool) (t : TypeId) (neg : Bool) (xs ys : List HV) : hEq S up t neg (some (.agg xs)) (some (.agg ys)) = qNq t neg (tJ xs) (tJ ys) := nr rfl
theorem zKn (S : HS) (up : Bool) (t : TypeId) (neg : Bool) (a b c d : Nat) : hEq S up t neg (some (.ptr a b c d)) (some (.v (.pointer none))) = .go (bC (up = true)) (.v (.bool neg)) S := nr rfl
theorem zKo (S : HS) (up : Bool) (t : TypeId) (neg fr : Bool) (xs : List (List FV)) (a b c : Nat) : hEq S up t neg (some (.elt fr xs a b c)) (some (.v (.pointer none))) = .go (bC (up = true)) (.v (.bool neg)) S := nr rfl
theorem zB2 (S : HS) (ok okB : Bool) (s : ByteArray) : rQ S ok okB (some (.v (.string s))) = .bytes okB s := nr rfl
theorem zB3 (S : HS) (ok okB : Bool) (id : Nat) : rQ S ok okB (some (.own id)) = qCh S ok (rlk S.st id) := nr rfl
theorem zB4 (S : HS) (ok okB fr : Bool) (xs : List (List FV)) : rQ S ok okB (some (.lst fr xs)) = pW S ok (qC xs) := nr rfl
theorem zB5 (S : HS) (ok nw : Bool) (t s : Nat) (els : List (List FV)) : qCh S ok (some (.sl nw t s els)) = pW S ok (qC els) := nr rfl
theorem zB6 (S : HS) (ok : Bool) (ns : List Int) : pW S ok (some ns) = .go (bC (ok = true)) (.v (.string (strOfNums ns))) S := nr rfl
theorem qW8  : qC [] = some [] := nr rfl
theorem qSj (n : Int) (r : List (List FV)) : qC ([.v (.int .u8 n)] :: r) = match qC r with | some ns => some (n :: ns) | none => none := nr rfl
theorem zKp (t : TypeId) (neg : Bool) (xs ys : List Value) : qNq t neg (some xs) (some ys) = .eqn t xs ys neg := nr rfl
theorem zGb (f : FuncId) (hs : List HV) : qFp f (some hs) = .call f hs := nr rfl
theorem zLm (ats : Array TypeId) : cU ats = ats.getD 0 0 := nr rfl
theorem qZ3 (z : Array Value) : sE z = z.toList.all (fun v => v.oneCell') := nr rfl
theorem zTd (x : Value) : (HV.v x).f = some (.v x) := nr rfl
theorem zNs (i : Nat) : (HV.own i).f = none := nr rfl
theorem zRc (i s o n : Nat) : (HV.vw i s o n).f = none := nr rfl
theorem zNr (i s j k : Nat) : (HV.ptr i s j k).f = none := nr rfl
theorem zNt (fr : Bool) (xs : List (List FV)) : (HV.lst fr xs).f = some (.lst fr xs) := nr rfl
theorem zKh  : HV.fs [] = some [] := nr rfl
theorem zFq (h : HV) (r : List HV) : HV.fs (h :: r) = match h.f, HV.fs r with | some f, some fs => some (f :: fs) | _, _ => none := nr rfl
theorem zNz (x : Value) : (FV.v x).one = x.oneCell' := nr rfl
theorem zGl (fr : Bool) (xs : List (List FV)) : (FV.lst fr xs).one = true := nr rfl
theorem zNk (x : Value) : (HV.v x).one = x.oneCell' := nr rfl
theorem zFj (fr : Bool) (xs : List (List FV)) : (HV.lst fr xs).one = true := nr rfl
theorem zFi (i : Nat) : (HV.own i).one = true := nr rfl
theorem zFh (i s j k : Nat) : (HV.ptr i s j k).one = true := nr rfl
theorem zRi (x : Value) : (FV.v x).h = .v x := nr rfl
theorem zGr (fr : Bool) (xs : List (List FV)) : (FV.lst fr xs).h = .lst fr xs := nr rfl
theorem zJj (k : IntKind) (n : Int) : Value.oneCell' (.int k n) = true := nr rfl
theorem qVr (k : IntKind) (n : Int) : cL (.v (.int k n)) = some [.v (.int k n)] := nr rfl
theorem zEc (b : Bool) : Value.oneCell' (.bool b) = true := nr rfl
theorem qRd (b : Bool) : cL (.v (.bool b)) = some [.v (.bool b)] := nr rfl
theorem zJh (s : ByteArray) : Value.oneCell' (.string s) = true := nr rfl
theorem qVp (s : ByteArray) : cL (.v (.string s)) = some [.v (.string s)] := nr rfl
theorem qZ2 (a : Option Addr) (n c : Nat) : Value.oneCell' (.slice a n c) = true := nr rfl
theorem qNp (a : Option Addr) (n c : Nat) : cL (.v (.slice a n c)) = some [.v (.slice a n c)] := nr rfl
theorem zJi (a : Option Addr) : Value.oneCell' (.pointer a) = true := nr rfl
theorem qVq (a : Option Addr) : cL (.v (.pointer a)) = some [.v (.pointer a)] := nr rfl
theorem qVv (cs : List HV) : cL (.agg cs) = some cs := nr rfl
theorem qVu (fr : Bool) (xs : List (List FV)) : cL (.lst fr xs) = some [.lst fr xs] := nr rfl
theorem qVt (i : Nat) : cL (.own i) = some [.own i] := nr rfl
theorem qVs (i s j k : Nat) : cL (.ptr i s j k) = some [.ptr i s j k] := nr rfl
theorem qY8 {α : Type} (l : List α) (k : Nat) (cs : List α) : splice l k cs = l.take k ++ cs ++ l.drop (k + cs.length) := nr rfl
theorem qGc (e : aH) (s : aB) (p : Nat → Bool) : HS.kill ⟨e, s⟩ p = ⟨iC p e, cD p s⟩ := nr rfl
theorem qMw (e : aH) (s : aB) (id : Nat) (r : Row) : HS.row ⟨e, s⟩ id r = ⟨e, (id, r) :: s⟩ := nr rfl
theorem zDh (e : aH) (s : aB) (k : Nat) (h : HV) : HS.set ⟨e, s⟩ (some k) h = ⟨(k, h) :: e, s⟩ := nr rfl
theorem zDi (S : HS) (h : HV) : HS.set S none h = S := nr rfl
theorem qMz (e : aH) (s : aB) (d : Nat) (h : HV) : HS.rep ⟨e, s⟩ d h = ⟨wF d h e, s⟩ := nr rfl
theorem qDn (d : Nat) (h : HV) : wF d h [] = [] := nr rfl
theorem qBg (d : Nat) (h : HV) (k : Nat) (x : HV) (r : aH) : wF d h ((k, x) :: r) = if k = d then (k, h) :: r else (k, x) :: wF d h r := nr rfl
theorem mS (p : Nat → Bool) : iC p [] = [] := nr rfl
theorem kP (p : Nat → Bool) (k : Nat) (h : HV) (r : aH) : iC p ((k, h) :: r) = (k, h.kill p) :: iC p r := nr rfl
theorem lY (p : Nat → Bool) : cD p [] = [] := nr rfl
theorem kJ (p : Nat → Bool) (k : Nat) (h : Row) (r : aB) : cD p ((k, h) :: r) = bif p k then cD p r else (k, h.kill p) :: cD p r := nr rfl
theorem pN (p : Nat → Bool) (nw : Bool) (t s : Nat) (xs : List (List FV)) : (Row.sl nw t s xs).kill p = .sl nw t s xs := nr rfl
theorem pP (p : Nat → Bool) (nw : Bool) (t s : Nat) (xs : List (List HV)) : (Row.hl nw t s xs).kill p = .hl nw t s (xs.map (List.map (HV.kill p))) := nr rfl
theorem pQ (p : Nat → Bool) (nw : Bool) (t : Nat) (cs : List HV) : (Row.bx nw t cs).kill p = .bx nw t (cs.map (HV.kill p)) := nr rfl
theorem wG (p : Nat → Bool) (x : Value) : HV.kill p (.v x) = .v x := by rw [HV.kill]
theorem pS (m : Nat → Option Nat) (x : Value) : HV.ren m (.v x) = .v x := by rw [HV.ren]
theorem iH (id : Nat) (x0 : HV) (x : Value) : HV.sub id x0 (.v x) = .v x := by rw [HV.sub]
theorem mL (p : Nat → Bool) (fr : Bool) (xs : List (List FV)) : HV.kill p (.lst fr xs) = .lst fr xs := by rw [HV.kill]
theorem iL (m : Nat → Option Nat) (fr : Bool) (xs : List (List FV)) : HV.ren m (.lst fr xs) = .lst fr xs := by rw [HV.ren]
theorem dP (id : Nat) (x0 : HV) (fr : Bool) (xs : List (List FV)) : HV.sub id x0 (.lst fr xs) = .lst fr xs := by rw [HV.sub]
theorem qBh (p : Nat → Bool) (fr : Bool) (xs : List (List FV)) (s j k : Nat) : HV.kill p (.elt fr xs s j k) = .elt fr xs s j k := by rw [HV.kill]
theorem zFe (m : Nat → Option Nat) (fr : Bool) (xs : List (List FV)) (s j k : Nat) : HV.ren m (.elt fr xs s j k) = .elt fr xs s j k := by rw [HV.ren]
theorem dQ (id : Nat) (x0 : HV) (fr : Bool) (xs : List (List FV)) (s j k : Nat) : HV.sub id x0 (.elt fr xs s j k) = .elt fr xs s j k := by rw [HV.sub]
theorem kN (p : Nat → Bool) : HV.kill p .junk = .junk := by rw [HV.kill]
theorem hU (m : Nat → Option Nat) : HV.ren m .junk = .junk := by rw [HV.ren]
theorem cR (id : Nat) (x0 : HV) : HV.sub id x0 .junk = .junk := by rw [HV.sub]
theorem mK (p : Nat → Bool) (i : Nat) : HV.kill p (.own i) = bif p i then .junk else .own i := by rw [HV.kill]
theorem mJ (p : Nat → Bool) (i s j k : Nat) : HV.kill p (.ptr i s j k) = bif p i then .junk else .ptr i s j k := by rw [HV.kill]
theorem mM (p : Nat → Bool) (cs : List HV) : HV.kill p (.agg cs) = .agg (cs.map (HV.kill p)) := by rw [HV.kill]
theorem mH (p : Nat → Bool) (cs : List HV) : HV.kill p (.tup cs) = .tup (cs.map (HV.kill p)) := by rw [HV.kill]
theorem iK (m : Nat → Option Nat) (i : Nat) : HV.ren m (.own i) = match m i with | some j => .own j | none => .junk := by rw [HV.ren]; cases m i <;> rfl
theorem jS (m : Nat → Option Nat) (i s j k : Nat) : HV.ren m (.ptr i s j k) = match m i with | some i' => .ptr i' s j k | none => .junk := by rw [HV.ren]; cases m i <;> rfl
theorem iM (m : Nat → Option Nat) (cs : List HV) : HV.ren m (.agg cs) = .agg (cs.map (HV.ren m)) := by rw [HV.ren]
theorem iJ (m : Nat → Option Nat) (cs : List HV) : HV.ren m (.tup cs) = .tup (cs.map (HV.ren m)) := by rw [HV.ren]
theorem dN (id : Nat) (x0 : HV) (i : Nat) : HV.sub id x0 (.own i) = if i = id then x0 else .own i := by rw [HV.sub]
theorem dM (id : Nat) (x0 : HV) (i s j k : Nat) : HV.sub id x0 (.ptr i s j k) = if i = id then .junk else .ptr i s j k := by rw [HV.sub]
theorem dR (id : Nat) (x0 : HV) (cs : List HV) : HV.sub id x0 (.agg cs) = .agg (cs.map (HV.sub id x0)) := by rw [HV.sub]
theorem dL (id : Nat) (x0 : HV) (cs : List HV) : HV.sub id x0 (.tup cs) = .tup (cs.map (HV.sub id x0)) := by rw [HV.sub]
theorem lD (m : Nat → Option Nat) (nw : Bool) (t s : Nat) (xs : List (List FV)) : (Row.sl nw t s xs).ren m = .sl nw t s xs := nr rfl
theorem lE (m : Nat → Option Nat) (nw : Bool) (t s : Nat) (xs : List (List HV)) : (Row.hl nw t s xs).ren m = .hl nw t s (xs.map (List.map (HV.ren m))) := nr rfl
theorem lF (m : Nat → Option Nat) (nw : Bool) (t : Nat) (cs : List HV) : (Row.bx nw t cs).ren m = .bx nw t (cs.map (HV.ren m)) := nr rfl
theorem fH (id : Nat) (x0 : HV) (nw : Bool) (t s : Nat) (xs : List (List FV)) : (Row.sl nw t s xs).sub id x0 = .sl nw t s xs := nr rfl
theorem fJ (id : Nat) (x0 : HV) (nw : Bool) (t s : Nat) (xs : List (List HV)) : (Row.hl nw t s xs).sub id x0 = .hl nw t s (xs.map (List.map (HV.sub id x0))) := nr rfl
theorem fL (id : Nat) (x0 : HV) (nw : Bool) (t : Nat) (cs : List HV) : (Row.bx nw t cs).sub id x0 = .bx nw t (cs.map (HV.sub id x0)) := nr rfl
theorem vE (id i : Nat) : only id i = (i == id) := nr rfl
theorem zGt (n i : Nat) : dV n i = (decide (n ≤ i) && decide (i < n + 8)) := by rw [Bool.eq_iff_iff]; simp [dV]
theorem zQr (n i : Nat) : sh n i = bif decide (i < 8) then some (n + i) else none := by unfold sh; congr 1; rw [Bool.eq_iff_iff]; simp
theorem zLp (e : aH) (s : aB) (n : Nat) (st : aB) : HS.adds ⟨e, s⟩ n st = ⟨iC (dV n) e, qCy n st (cD (dV n) s)⟩ := nr rfl
theorem qZs (n : Nat) (b : aB) : qCy n [] b = b := nr rfl
theorem qTu (n k : Nat) (r : Row) (t b : aB) : qCy n ((k, r) :: t) b = (n + k, r.ren (sh n)) :: qCy n t b := nr rfl
theorem fM (e : aH) (s : aB) (id : Nat) (x : HV) : HS.rest ⟨e, s⟩ id x = ⟨qRz id x e, qGz id x s⟩ := nr rfl
theorem dT (id : Nat) (x : HV) : qRz id x [] = [] := nr rfl
theorem cS (id : Nat) (x : HV) (k : Nat) (h : HV) (r : aH) : qRz id x ((k, h) :: r) = (k, HV.sub id x h) :: qRz id x r := nr rfl
theorem dK (id : Nat) (x : HV) : qGz id x [] = [] := nr rfl
theorem cN (id : Nat) (x : HV) (k : Nat) (h : Row) (r : aB) : qGz id x ((k, h) :: r) = if k = id then qGz id x r else (k, h.sub id x) :: qGz id x r := nr rfl
theorem sU (id : Nat) (r : Row) : gK id r [] = [] := nr rfl
theorem oY (id : Nat) (r : Row) (k : Nat) (s : Row) (t : aB) : gK id r ((k, s) :: t) = if k = id then (k, r) :: t else (k, s) :: gK id r t := nr rfl
theorem zKm (l : aH) (ds : List (Option Nat)) : hG l ds none = .yes := nr rfl
theorem zKl (l : aH) (ds : List (Option Nat)) (j : Nat) (want : Bool) : hG l ds (some (j, want)) = match ds[j]? with | some (some d) => hGv d want (hlk l d) | _ => .bad := nr rfl
theorem zF9 (d : Nat) (want b : Bool) : hGv d want (some (.v (.bool b))) = .ask d b want := nr rfl
theorem zKk (d : Nat) (want : Bool) (vs : Array Value) : hGv d want (some (.v (.tuple vs))) = .no := nr rfl
theorem zNp (P : Program) (d : Option Nat) (S : HS) (K : HS → Prop) (c : Prop) (h : HV) (S' : HS) : qFa P d S K (.go c h S') = (c ∧ K (S'.set d h)) := nr rfl
theorem zFo (P : Program) (d : Option Nat) (S : HS) (K : HS → Prop) (f : FuncId) (args : List HV) : qFa P d S K (.call f args) = HAt P f args S (fun h S' => jZ K (S'.set d h)) := nr rfl
theorem zKf (P : Program) (d : Option Nat) (S : HS) (K : HS → Prop) (t : TypeId) (x y : List Value) (neg : Bool) : qFa P d S K (.eqn t x y neg) = ∃ r, EqR P t x.toArray y.toArray r ∧ jZ K (S.set d (.v (.bool (neg ^^ r)))) := nr rfl
theorem zBg (P : Program) (d : Option Nat) (S : HS) (K : HS → Prop) (ok : Bool) (s : ByteArray) : qFa P d S K (.bytes ok s) = (bC (ok = true ∧ s.size ≤ 9223372036854775807) ∧ K (S.set d (.lst true (fR s)))) := nr rfl
theorem zNq (P : Program) (N : Nat) (o : Oper) (S : HS) (K : HS → Prop) : HGo P N o S K = zL0 P N o (lU S o.op) K := nr rfl
theorem zKg (P : Program) (N : Nat) (o : Oper) (S : HS) (K : HS → Prop) : zL0 P N o S K = match eF N o.dst with | true => qFa P o.dst S K (hop P S (pR o.dst) o.op) | false => False := nr rfl
theorem zA6 (S : HS) (x : Operand) : lU S (.move x) = S := nr rfl
theorem qQ7 (S : HS) (x : Operand) : lU S (.assign x) = S := nr rfl
theorem zA4 (S : HS) (c a b : Operand) : lU S (.pick c a b) = S := nr rfl
theorem qNm (S : HS) (x : Operand) (i : Nat) : lU S (.extract x i) = S := nr rfl
theorem qU6 (S : HS) (t : TypeId) (x : Operand) (f : Nat) : lU S (.field t x f) = S := nr rfl
theorem qU7 (S : HS) (t : TypeId) (x : Operand) (f : Nat) : lU S (.fieldAddr t x f) = S := nr rfl
theorem zA5 (S : HS) (x : Operand) : lU S (.nilCheck x) = S := nr rfl
theorem qU5 (S : HS) (t : TypeId) (x i : Operand) : lU S (.indexAddr t x i) = S := nr rfl
theorem qU3 (S : HS) (t : TypeId) (x : Operand) (l h m : Option Operand) : lU S (.slice t x l h m) = S := nr rfl
theorem zA8 (S : HS) (t : TypeId) (x : Operand) : lU S (.load t x) = S := nr rfl
theorem qU8 (S : HS) (t : TypeId) (ps : Array (Nat × Operand)) : lU S (.build t ps) = S := nr rfl
theorem zFg (S : HS) (b : BinOp) (t : TypeId) (x y : Operand) (u : TypeId) : lU S (.binOp b t x y u) = S := nr rfl
theorem zJ8 (S : HS) (u : UnOp) (t : TypeId) (x : Operand) : lU S (.unOp u t x) = S := nr rfl
theorem zA9 (S : HS) (s d : TypeId) (x : Operand) : lU S (.convert s d x) = S := nr rfl
theorem qU4 (S : HS) (t : TypeId) (x i : Operand) : lU S (.index t x i) = S := nr rfl
theorem zBa (S : HS) (c : Call) : lU S (.call c) = S := nr rfl
theorem qU9 (S : HS) (t : TypeId) : lU S (.alloc t) = S := nr rfl
theorem zFf (S : HS) (t : TypeId) (x : Operand) : lU S (.box t x) = S := nr rfl
theorem zA7 (S : HS) (t : TypeId) (x y : Operand) : lU S (.makeSlice t x y) = S := nr rfl
theorem qU2 (S : HS) (t : TypeId) (x y : Operand) : lU S (.store t x y) = restAll S (zD1 S (hev S.env x) (hev S.env y)) := nr rfl
theorem qQ6 (S : HS) (t n : TypeId) (ps : Array (Nat × Operand)) : lU S (.buildSlice t n ps) = restAll S (zD6 (iE S.env ps.toList)) := nr rfl
theorem zD0 (S : HS) (id sz i k : Nat) (h : HV) : zD1 S (some (.ptr id sz i k)) (some h) = qQe S h (rlk S.st id) := nr rfl
theorem zD2 (S : HS) (h : HV) (nw : Bool) (ty s : Nat) (els : List (List FV)) : qQe S h (some (.sl nw ty s els)) = vD h := nr rfl
theorem zD4 (S : HS) (h : HV) (nw : Bool) (ty : Nat) (cs : List HV) : qQe S h (some (.bx nw ty cs)) = [] := nr rfl
theorem zD5 (ps : List (Nat × HV)) : zD6 (some ps) = ps.flatMap fun p => vD p.2 := nr rfl
theorem qT8 (i : Nat) : vD (.own i) = [i] := nr rfl
theorem zD7 (x : Value) : vD (.v x) = [] := nr rfl
theorem qT9 (fr : Bool) (xs : List (List FV)) : vD (.lst fr xs) = [] := nr rfl
theorem qUa (cs : List HV) : vD (.agg cs) = cs.flatMap qAx := nr rfl
theorem qQg (i : Nat) : qAx (.own i) = [i] := nr rfl
theorem qZ0 (x : Value) : qAx (.v x) = [] := nr rfl
theorem qQh (fr : Bool) (xs : List (List FV)) : qAx (.lst fr xs) = [] := nr rfl
theorem qP3 (S : HS) : restAll S [] = S := nr rfl
theorem qMy (S : HS) (i : Nat) (r : List Nat) : restAll S (i :: r) = restAll (qCw S i) r := nr rfl
theorem qTr (e : aH) (s : aB) (i : Nat) : qCw ⟨e, s⟩ i = match decide (i < 1000000) with | true => (match rlk s i with | some (.sl nw _ _ els) => HS.rest ⟨e, s⟩ i (.lst nw els) | _ => ⟨e, s⟩) | false => ⟨e, s⟩ := by unfold qCw; rw [show Nat.blt i held = decide (i < 1000000) by rw [Bool.eq_iff_iff]; simp [Nat.blt_eq, held]]; rfl
theorem zD3 (S : HS) (h : HV) (nw : Bool) (ty s : Nat) (els : List (List HV)) : qQe S h (some (.hl nw ty s els)) = [] := nr rfl
theorem zFd (N : Nat) (d : Option Nat) (S : HS) (K : HS → Prop) : lR N d S K = match eF N d with | true => K (S.set d (.v undef)) | false => False := nr rfl
theorem zA2 (P : Program) (N : Nat) (o : Oper) (S : HS) (K : HS → Prop) : qL1 P N o S K .yes = HGo P N o S K := nr rfl
theorem zFc (P : Program) (N : Nat) (o : Oper) (S : HS) (K : HS → Prop) : qL1 P N o S K .no = lR N o.dst S K := nr rfl
theorem zA3 (P : Program) (N : Nat) (o : Oper) (S : HS) (K : HS → Prop) (d : Nat) (b want : Bool) : qL1 P N o S K (.ask d b want) = match b == want with | true => HGo P N o (S.rep d (.v (.bool want))) K | false => lR N o.dst (S.rep d (.v (.bool (!want)))) K := nr rfl
theorem zJ7 (P : Program) (N : Nat) (ds : List (Option Nat)) (K : HS → Prop) (S : HS) : HV2 P N ds K [] S = K S := nr rfl
theorem zFb (P : Program) (N : Nat) (ds : List (Option Nat)) (K : HS → Prop) (o : Oper) (rest : List Oper) (S : HS) : HV2 P N ds K (o :: rest) S = qL1 P N o S (HV2 P N ds K rest) (hG S.env ds o.guard) := nr rfl
theorem zKd (P : Program) (o : Oper) (S : HS) (K : HS → Prop) (c : Prop) (h : HV) (S' : HS) : qEg P o S K (.go c h S') = (cX o.op = true ∧ c ∧ K (S.set o.dst h)) := nr rfl
theorem zBf (P : Program) (o : Oper) (S : HS) (K : HS → Prop) (f : FuncId) (args : List HV) : qEg P o S K (.call f args) = zR5 P f args S (fun x => jZ K (S.set o.dst (.v x))) := nr rfl
theorem zFn (P : Program) (o : Oper) (S : HS) (K : HS → Prop) (t : TypeId) (x y : List Value) (neg : Bool) : qEg P o S K (.eqn t x y neg) = ∃ r, EqR P t x.toArray y.toArray r ∧ jZ K (S.set o.dst (.v (.bool (neg ^^ r)))) := nr rfl
theorem zKe (P : Program) (N : Nat) (o : Oper) (S : HS) (K : HS → Prop) : qSv P N o S K = match eF N o.dst with | true => qEg P o S K (hop P S (pR o.dst) o.op) | false => False := nr rfl
theorem qU0 (P : Program) (N : Nat) (o : Oper) (S : HS) (K : HS → Prop) : qE8 P N o S K .yes = qSv P N o S K := nr rfl
theorem zA1 (P : Program) (N : Nat) (o : Oper) (S : HS) (K : HS → Prop) : qE8 P N o S K .no = lR N o.dst S K := nr rfl
theorem qU1 (P : Program) (N : Nat) (o : Oper) (S : HS) (K : HS → Prop) (d : Nat) (b want : Bool) : qE8 P N o S K (.ask d b want) = match b == want with | true => qSv P N o (S.rep d (.v (.bool want))) K | false => lR N o.dst (S.rep d (.v (.bool (!want)))) K := nr rfl
theorem zJ6 (P : Program) (N : Nat) (ds : List (Option Nat)) (K : HS → Prop) (S : HS) : HVq P N ds K [] S = K S := nr rfl
theorem zFa (P : Program) (N : Nat) (ds : List (Option Nat)) (K : HS → Prop) (o : Oper) (rest : List Oper) (S : HS) : HVq P N ds K (o :: rest) S = qE8 P N o S (HVq P N ds K rest) (hG S.env ds o.guard) := nr rfl
theorem qZe (t : Nat) : bH (.tmp t) = [t] := nr rfl
theorem qPx (v : Value) : bH (.const v) = [] := nr rfl
theorem qMs (g : Nat) : bH (.global g) = [] := nr rfl
theorem qTh (f : FuncId) : bH (.func f) = [] := nr rfl
theorem qTg  : uQ [] = [] := nr rfl
theorem qPw (x : Operand) (r : List Operand) : uQ (x :: r) = bH x ++ uQ r := nr rfl
theorem qTe  : pM [] = [] := nr rfl
theorem qPt (k : Nat) (x : Operand) (r : List (Nat × Operand)) : pM ((k, x) :: r) = bH x ++ pM r := nr rfl
theorem qTi (x : Operand) : qFh (some x) = bH x := nr rfl
theorem qTj  : qFh none = [] := nr rfl
theorem qMn (x : Operand) : aW (.move x) = bH x := nr rfl
theorem qG4 (x : Operand) : aW (.assign x) = bH x := nr rfl
theorem qMm (x : Operand) : aW (.nilCheck x) = bH x := nr rfl
theorem qMl (c a b : Operand) : aW (.pick c a b) = bH c ++ (bH a ++ bH b) := nr rfl
theorem qFx (x : Operand) (i : Nat) : aW (.extract x i) = bH x := nr rfl
theorem qKc (t : TypeId) (x : Operand) (f : Nat) : aW (.field t x f) = bH x := nr rfl
theorem qKd (t : TypeId) (x : Operand) (f : Nat) : aW (.fieldAddr t x f) = bH x := nr rfl
theorem qMo (t : TypeId) (x : Operand) : aW (.load t x) = bH x := nr rfl
theorem qTf (u : UnOp) (t : TypeId) (x : Operand) : aW (.unOp u t x) = bH x := nr rfl
theorem qMp (s d : TypeId) (x : Operand) : aW (.convert s d x) = bH x := nr rfl
theorem qKb (t : TypeId) (x i : Operand) : aW (.indexAddr t x i) = bH x ++ bH i := nr rfl
theorem qKa (t : TypeId) (x i : Operand) : aW (.index t x i) = bH x ++ bH i := nr rfl
theorem qJ8 (t : TypeId) (x : Operand) (l h : Option Operand) : aW (.slice t x l h none) = bH x ++ (qFh l ++ qFh h) := nr rfl
theorem qPv (b : BinOp) (t : TypeId) (x y : Operand) (u : TypeId) : aW (.binOp b t x y u) = bH x ++ bH y := nr rfl
theorem qKe (t : TypeId) (ps : Array (Nat × Operand)) : aW (.build t ps) = pM ps.toList := nr rfl
theorem qG3 (t : TypeId) (n : Nat) (ps : Array (Nat × Operand)) : aW (.buildSlice t n ps) = pM ps.toList := nr rfl
theorem qJ9 (t : TypeId) (x y : Operand) : aW (.makeSlice t x y) = bH x ++ bH y := nr rfl
theorem qMq (k : Callee) (args : Array Operand) (ats : Array TypeId) : aW (.call ⟨k, args, ats⟩) = qG7 k ++ uQ args.toList := nr rfl
theorem qMr (x : Operand) : qG7 (.value x) = bH x := nr rfl
theorem qG6 (b : Builtin) : qG7 (.builtin b) = [] := nr rfl
theorem qTl (ds : List (Option Nat)) : gR ds none = [] := nr rfl
theorem qTk (ds : List (Option Nat)) (g : Nat) (b : Bool) : gR ds (some (g, b)) = match ds[g]? with | some (some d) => [d] | _ => [] := nr rfl
theorem qZw (e : aH) : jN e [] = [] := nr rfl
theorem qT5 (e : aH) (t : Nat) (r : List Nat) : jN e (t :: r) = match hlk e t with | some h => (t, h) :: jN e r | none => jN e r := nr rfl
theorem qT2  : mC [] = true := nr rfl
theorem zDx (k : Nat) (v : Value) (r : aH) : mC ((k, .v v) :: r) = mC r := nr rfl
theorem qT3 (k : Nat) (b : Bool) (xs : List (List FV)) (r : aH) : mC ((k, .lst b xs) :: r) = mC r := nr rfl
theorem qT4 (k : Nat) (hs : List HV) (r : aH) : mC ((k, .agg hs) :: r) = mC r := nr rfl
theorem zFk (d : Option Nat) (S : HS) (K : HS → Prop) (c : Prop) (i : Nat) (S' : HS) : qYo d S K (.go c (.own i) S') = match rlk S'.st i with | some (.sl _ _ _ els) => c ∧ K (S.set d (.lst true els)) | _ => False := nr rfl
theorem qQm (t : TypeId) (n : Nat) (ps : Array (Nat × Operand)) : zJv (.buildSlice t n ps) = true := nr rfl
theorem qUj (t : TypeId) (x y : Operand) : zJv (.makeSlice t x y) = true := nr rfl
theorem qM2 (t : TypeId) (n : Nat) (ps : Array (Nat × Operand)) : cX (.buildSlice t n ps) = false := nr rfl
theorem qP6 (t : TypeId) (x y : Operand) : cX (.makeSlice t x y) = false := nr rfl
theorem zKb (P : Program) (o : Oper) (S T : HS) (K : HS → Prop) (c : Prop) (h : HV) (S' : HS) : qB1 P o S T K (.go c h S') = match cX o.op with | true => c ∧ K (S.set o.dst h) | false => (match zJv o.op && mC T.env with | true => qYo o.dst S K (hop P ⟨T.env, []⟩ (pR o.dst) o.op) | false => False) := nr rfl
theorem zBe (P : Program) (o : Oper) (S T : HS) (K : HS → Prop) (f : FuncId) (args : List HV) : qB1 P o S T K (.call f args) = zCz P f args T (fun x => jZ K (S.set o.dst x)) := nr rfl
theorem zFm (P : Program) (o : Oper) (S T : HS) (K : HS → Prop) (t : TypeId) (x y : List Value) (neg : Bool) : qB1 P o S T K (.eqn t x y neg) = ∃ r, EqR P t x.toArray y.toArray r ∧ jZ K (S.set o.dst (.v (.bool (neg ^^ r)))) := nr rfl
theorem zKc (P : Program) (N : Nat) (o : Oper) (S T : HS) (K : HS → Prop) : qXf P N o S T K = match eF N o.dst with | true => qB1 P o S T K (hop P T (pR o.dst) o.op) | false => False := nr rfl
theorem qUy (P : Program) (N : Nat) (o : Oper) (S T : HS) (K : HS → Prop) : iS P N o S T K .yes = qXf P N o S T K := nr rfl
theorem zA0 (P : Program) (N : Nat) (o : Oper) (S T : HS) (K : HS → Prop) : iS P N o S T K .no = lR N o.dst S K := nr rfl
theorem qUz (P : Program) (N : Nat) (o : Oper) (S T : HS) (K : HS → Prop) (d : Nat) (b want : Bool) : iS P N o S T K (.ask d b want) = match b == want with | true => qXf P N o (S.rep d (.v (.bool want))) (T.rep d (.v (.bool want))) K | false => lR N o.dst (S.rep d (.v (.bool (!want)))) K := nr rfl
theorem zJ5 (P : Program) (N : Nat) (ds : List (Option Nat)) (K : HS → Prop) (S : HS) : HVr P N ds K [] S = K S := nr rfl
theorem zE9 (P : Program) (N : Nat) (ds : List (Option Nat)) (K : HS → Prop) (o : Oper) (rest : List Oper) (S : HS) : HVr P N ds K (o :: rest) S = iS P N o S ⟨jN S.env (gR ds o.guard ++ aW o.op), S.st⟩ (HVr P N ds K rest) (hG (jN S.env (gR ds o.guard ++ aW o.op)) ds o.guard) := nr rfl
theorem zAy (k : Nat) : pR (some k) = 8 * k := nr rfl
theorem zAz  : pR none = 0 := nr rfl
theorem qTx (x : Operand) : cX (.move x) = true := nr rfl
theorem qM3 (x : Operand) : cX (.assign x) = true := nr rfl
theorem qTv (c a b : Operand) : cX (.pick c a b) = true := nr rfl
theorem qKf (x : Operand) (i : Nat) : cX (.extract x i) = true := nr rfl
theorem qP9 (t : TypeId) (x : Operand) (f : Nat) : cX (.field t x f) = true := nr rfl
theorem qQa (t : TypeId) (x : Operand) (f : Nat) : cX (.fieldAddr t x f) = true := nr rfl
theorem qTw (x : Operand) : cX (.nilCheck x) = true := nr rfl
theorem qP8 (t : TypeId) (x i : Operand) : cX (.indexAddr t x i) = true := nr rfl
theorem qP5 (t : TypeId) (x : Operand) (l h m : Option Operand) : cX (.slice t x l h m) = true := nr rfl
theorem qTy (t : TypeId) (x : Operand) : cX (.load t x) = true := nr rfl
theorem qQb (t : TypeId) (ps : Array (Nat × Operand)) : cX (.build t ps) = true := nr rfl
theorem qZv (b : BinOp) (t : TypeId) (x y : Operand) (u : TypeId) : cX (.binOp b t x y u) = true := nr rfl
theorem zDt (u : UnOp) (t : TypeId) (x : Operand) : cX (.unOp u t x) = true := nr rfl
theorem qTz (s d : TypeId) (x : Operand) : cX (.convert s d x) = true := nr rfl
theorem qP7 (t : TypeId) (x i : Operand) : cX (.index t x i) = true := nr rfl
theorem qZu (args : Array Operand) (ats : Array TypeId) : cX (.call ⟨.builtin .len, args, ats⟩) = true := nr rfl
theorem qZt (args : Array Operand) (ats : Array TypeId) : cX (.call ⟨.builtin .min, args, ats⟩) = true := nr rfl
theorem zCw (k : Nat) : qAa k [] = [] := nr rfl
theorem qXc (k : Nat) (v : HV) (r : List HV) : qAa k (v :: r) = (k, v) :: qAa (k + 1) r := nr rfl
theorem zZ (e : aH) (s : aB) (ks ids : List Nat) : HS.keep ⟨e, s⟩ ks ids = ⟨tQ ks e, wZ ids s⟩ := nr rfl
theorem zR (l : aH) : tQ [] l = [] := nr rfl
theorem zP (k : Nat) (r : List Nat) (l : aH) : tQ (k :: r) l = match hlk l k with | some v => (k, v) :: tQ r l | none => tQ r l := nr rfl
theorem zQ (l : aB) : wZ [] l = [] := nr rfl
theorem zN (k : Nat) (r : List Nat) (l : aB) : wZ (k :: r) l = match rlk l k with | some v => (k, v) :: wZ r l | none => wZ r l := nr rfl
theorem yA (P : Program) (rs : List ResultVar) (Q : HV → aB → Prop) (S : HS) : zFp P rs Q .normal S = sV P S rs fun hs => qE9 S (qDl hs) Q := nr rfl
theorem yM (P : Program) (rs : List ResultVar) (Q : HV → aB → Prop) (S : HS) : zFp P rs Q .ret S = sV P S rs fun hs => qE9 S (qDl hs) Q := nr rfl
theorem yH (P : Program) (S : HS) (K : List HV → Prop) : sV P S [] K = K [] := nr rfl
theorem aA (P : Program) (S : HS) (p ty : Nat) (r : List ResultVar) (K : List HV → Prop) : sV P S (.cell p ty :: r) K = zMl (rK S (bJ P ty) (hlk S.env p)) fun h => sV P S r fun hs => K (h :: hs) := nr rfl
theorem aC (c : Prop) (h : HV) (S : HS) (K : HV → Prop) : zMl (.go c h S) K = (c ∧ K h) := nr rfl
theorem yE (P : Program) (S : HS) (t : Nat) (r : List ResultVar) (K : List HV → Prop) : sV P S (.tmp t :: r) K = match hlk S.env t with | some h => sV P S r fun hs => K (h :: hs) | none => False := nr rfl
theorem yK (h : HV) : qDl [h] = h := nr rfl
theorem yJ (a b : HV) (r : List HV) : qDl (a :: b :: r) = .tup (a :: b :: r) := nr rfl
theorem zJe (i : Nat) : pos [] i = none := nr rfl
theorem yF (k : Nat) (r : List Nat) (i : Nat) : pos (k :: r) i = if k = i then some 0 else (pos r i).map (· + 1) := nr rfl
theorem qZh (m : Nat → Option Nat) (st : aB) (k : Nat) : jM m st k [] = [] := nr rfl
theorem yG (m : Nat → Option Nat) (st : aB) (k id : Nat) (r : List Nat) : jM m st k (id :: r) = match rlk st id with | some row => (k, row.ren m) :: jM m st (k + 1) r | none => jM m st (k + 1) r := nr rfl
theorem qW5 {p : Prop} (h : p) : bC p = True := eq_true h
theorem zCj : bC True = True := rfl
theorem ltT {a b : Int} (h : a < b) : decide (a < b) = true := decide_eq_true h
theorem ltF {a b : Int} (h : b ≤ a) : decide (a < b) = false := decide_eq_false (by omega)
theorem leT {a b : Int} (h : a ≤ b) : decide (a ≤ b) = true := decide_eq_true h
theorem leF {a b : Int} (h : b < a) : decide (a ≤ b) = false := decide_eq_false (by omega)
theorem eqT {a b : Int} (h : a = b) : decide (a = b) = true := decide_eq_true h
theorem eqF {a b : Int} (h : a < b ∨ b < a) : decide (a = b) = false := decide_eq_false (by omega)
theorem zKt {α : Type} {l : List α} {i : Nat} {d : α} (h : i < l.length) : l.getD i d = l[i] := eB h
theorem nP {α β : Type} {f : α → β} {l : List α} {i : Nat} {d : β} (h : i < l.length) : (l.map f).getD i d = f (l[i]) := by rw [zKt (by simpa using h), List.getElem_map]
theorem qWw : (default : FV) = .v (.bool false) := rfl
theorem zQf {x : Int} (h1 : -9223372036854775808 ≤ x) (h2 : x ≤ 9223372036854775807) : IntKind.i64.wrap x = x := zL3 ⟨by unfold zNe; exact h1, by unfold zNo; exact h2⟩
theorem qS1 (n : Nat) : ((n : Int) + 1).toNat = n + 1 := by omega
theorem qYy (n m : Nat) : ((n : Int) + (m : Int)).toNat = n + m := by omega
theorem qAe {α : Type} {f : α → List FV} {sz : Nat} (l : List α) (h : ∀ a, (f a).length = sz) : Wid sz (l.map f) := fun x hx => by
 obtain ⟨a, -, rfl⟩ := List.mem_map.1 hx; exact h a
end Go.Eng
end

section
set_option linter.unusedSimpArgs false
set_option linter.unusedVariables false
namespace Go.Eng
open Go Go.RowKit
def xD (s : ByteArray) : List FV := [.v (.string s)]
def aQ (a : List ByteArray) : List (List FV) := a.map xD
def zAs (n : Int) : List FV := [.v (.int .i64 n)]
def lT (a : List Int) : List (List FV) := a.map zAs
def zE6 (r : Int × Int) : List FV := [.v (.int .i64 r.1), .v (.int .i64 r.2)]
def xB (a : List (Int × Int)) : List (List FV) := a.map zE6
theorem aK (a : List ByteArray) : (aQ a).length = a.length := by simp [aQ]
theorem xU (a : List Int) : (lT a).length = a.length := by simp [lT]
theorem qA8 (a : List (Int × Int)) : (xB a).length = a.length := by simp [xB]
theorem fG (a : List ByteArray) : Wid 1 (aQ a) = True := eq_true (qAe a fun _ => rfl)
theorem qDf (a : List Int) : Wid 1 (lT a) = True := eq_true (qAe a fun _ => rfl)
theorem zAu (a : List (Int × Int)) : Wid 2 (xB a) = True := eq_true (qAe a fun _ => rfl)
theorem nG {a : List ByteArray} {i : Nat} {d : List FV} (h : i < a.length) : (aQ a).getD i d = [.v (.string a[i])] := by unfold aQ; rw [nP h]; rfl
theorem qHz {a : List Int} {i : Nat} {d : List FV} (h : i < a.length) : (lT a).getD i d = [.v (.int .i64 a[i])] := by unfold lT; rw [nP h]; rfl
theorem zAv {a : List (Int × Int)} {i : Nat} {d : List FV} (h : i < a.length) : (xB a).getD i d = [.v (.int .i64 a[i].1), .v (.int .i64 a[i].2)] := by unfold xB; rw [nP h]; rfl
theorem bQ (a : List ByteArray) : nW (aQ a) = aQ a := by
 unfold nW aQ; rw [List.map_map]; apply List.map_congr_left; intro s _; simp [xD, FV.old]
theorem zE5 (a : List Int) : nW (lT a) = lT a := by
 unfold nW lT; rw [List.map_map]; apply List.map_congr_left; intro s _; simp [zAs, FV.old]
theorem iD (a : List ByteArray) : ∀ x ∈ aQ a, ∀ f ∈ x, FreshF f := fun x hx f hf => by
 obtain ⟨s, -, rfl⟩ := List.mem_map.1 hx; simp [xD] at hf; subst hf; exact .v _
theorem qH0 (a : List Int) : ∀ x ∈ lT a, ∀ f ∈ x, FreshF f := fun x hx f hf => by
 obtain ⟨s, -, rfl⟩ := List.mem_map.1 hx; simp [zAs] at hf; subst hf; exact .v _
theorem qQ1 (a : List (Int × Int)) : ∀ x ∈ xB a, ∀ f ∈ x, FreshF f := fun x hx f hf => by
 obtain ⟨s, -, rfl⟩ := List.mem_map.1 hx; simp [zE6] at hf; rcases hf with rfl | rfl <;> exact .v _
theorem sT (a : List ByteArray) (s : ByteArray) : aQ a ++ [[.v (.string s)]] = aQ (a ++ [s]) := by simp [aQ, xD]
theorem qUt (a : List (Int × Int)) (x y : Int) : xB a ++ [[.v (.int .i64 x), .v (.int .i64 y)]] = xB (a ++ [(x, y)]) := by simp [xB, zE6]
theorem qAh (a : List ByteArray) (n : Nat) : (aQ a).take n = aQ (a.take n) := by simp [aQ, List.map_take]
theorem qAi (a : List ByteArray) (n : Nat) : (aQ a).drop n = aQ (a.drop n) := by simp [aQ, List.map_drop]
theorem zP7 {P : Program} {N : Nat} {x : Code} {Q : eG} {S : HS} (k id ty sz : Nat) (hk : hlk S.env k = some (.v (.slice none 0 0))) (h : HW P N x Q (((S.kill (only id)).row id (.sl true ty sz [])).rep k (.own id))) : HW P N x Q S := fun c l w I => by
 refine h c l w ?_
 obtain ⟨ρ, xs, G⟩ := I
 have G2 := G.new id (.sl true ty sz []) [] (.slice none 0 0) (w' := w) (Below.refl _ _) (fun b hb => by cases hb) (fun _ _ =>
  ⟨by rw [aF]; exact World.ownsRow_nil w 0 ty sz, ⟨by simp, fun i k hi => absurd hi (by simp)⟩, fun b hb => by rw [aF] at hb; cases hb⟩)
 refine ⟨_, _, G2.rows, G2.apart, fun j y hj => ?_, G2.kept, G2.a0⟩
 simp only [HS.rep, qH2] at hj
 by_cases e : j = k
 ·subst e
  rw [if_pos rfl] at hj
  have h1 : hlk ((S.kill (only id)).row id (.sl true ty sz [])).env j = some (.v (.slice none 0 0)) := by
   show hlk (iC (only id) S.env) j = _
   rw [kV, hk]; simp [HV.kill]
  rw [h1] at hj
  simp only [Option.map_some, Option.some.injEq] at hj
  subst hj
  obtain ⟨v, a, b⟩ := G2.env j _ h1
  have := aV b
  subst this
  refine ⟨_, a, ?_⟩
  have := RepH.own (w := w) (A := c.A (dW ρ id (.slice none 0 0)) (((S.kill (only id)).row id (.sl true ty sz [])).rep j (.own id)).st) (n0 := c.n0) (ρ := dW ρ id (.slice none 0 0)) id (by rw [aF]; rfl)
  rw [aF] at this
  exact this
 ·rw [if_neg e] at hj
  exact G2.env j y hj
theorem tR {P : Program} {f : FuncId} {args : List HV} {x : Value} (h : ∀ (w : World) (vs : List Value), wW w (fun _ => False) w.heap.size (fun _ => undef) vs args → Calls P f vs.toArray w (Ret fun r w' => r = x ∧ Below w.heap.size w w')) : HFun P f args (fun h st => h = .v x ∧ st = []) := fun w vs R =>
 Ret.mono (h w vs R) fun v w' ⟨hv, B⟩ => ⟨B, .v x, [], fun i r hi => by simp [rlk] at hi, ⟨rfl, rfl⟩, fun _ => undef, fun _ => [], ⟨fun id r hr => by simp [rlk] at hr, fun i j r s b hne hi => by simp [rlk] at hi, fun k x hk => by simp [hlk] at hk, ⟨B.os, B.tape, B.output, B.size, fun b hlt _ => B.block b hlt⟩, fun b hb => ⟨hb, fun h => h⟩⟩, by rw [hv]; exact .v x⟩
theorem aP {st : aB} {fr : Bool} {xs ys : List (List FV)} (h : nW xs = ys) : Lend st (.lst fr xs) (.lst false ys) := h ▸ .lst fr xs
theorem qLf {st : aB} {id ty sz : Nat} {nw : Bool} {els ys : List (List FV)} (h : nW els = ys) (hr : rlk st id = some (.sl nw ty sz els)) : Lend st (.own id) (.lst false ys) := h ▸ .own hr
section
variable {S : HS} {Q : HV → aB → Prop}
theorem aL {a : Value} (q : Q (.v a) []) : qE9 S (.v a) Q := ⟨[], by simp, rfl, .v _, fun id h => by simp at h, by rw [HV.ren]; exact q⟩
theorem nD {a b : Value} (q : Q (.tup [.v a, .v b]) []) : qE9 S (.tup [.v a, .v b]) Q :=
 ⟨[], by simp, rfl, .tup fun x hx => by simp at hx; rcases hx with rfl | rfl <;> exact .v _, fun id h => by simp at h, by rw [HV.ren]; simp only [List.map_cons, List.map_nil, HV.ren]; exact q⟩
theorem jQ {a b c : Value} (q : Q (.tup [.v a, .v b, .v c]) []) : qE9 S (.tup [.v a, .v b, .v c]) Q :=
 ⟨[], by simp, rfl, .tup fun x hx => by simp at hx; rcases hx with rfl | rfl | rfl <;> exact .v _, fun id h => by simp at h, by rw [HV.ren]; simp only [List.map_cons, List.map_nil, HV.ren]; exact q⟩
theorem wE {id ty sz : Nat} {els : List (List FV)} (hr : rlk S.st id = some (.sl true ty sz els)) (hf : ∀ x ∈ els, ∀ f ∈ x, FreshF f) (q : Q (.own 0) [(0, .sl true ty sz els)]) : qE9 S (.own id) Q :=
 ⟨[id], by simp, by simp [dup], .own _, fun i h r hr' => by
  simp at h; subst h; rw [hr] at hr'; simp only [Option.some.injEq] at hr'; subst hr'; exact ⟨rfl, hf⟩, by
  rw [HV.ren]; simp only [pos, if_true, jM, hr, Row.ren]; exact q⟩
theorem qDm {id ty sz : Nat} {els : List (List FV)} {b : Value} (hr : rlk S.st id = some (.sl true ty sz els)) (hf : ∀ x ∈ els, ∀ f ∈ x, FreshF f) (q : Q (.tup [.own 0, .v b]) [(0, .sl true ty sz els)]) : qE9 S (.tup [.own id, .v b]) Q :=
 ⟨[id], by simp, by simp [dup], .tup fun x hx => by simp at hx; rcases hx with rfl | rfl <;> first | exact .v _ | exact .own _, fun i h r hr' => by
  simp at h; subst h; rw [hr] at hr'; simp only [Option.some.injEq] at hr'; subst hr'; exact ⟨rfl, hf⟩, by
  rw [HV.ren]; simp only [List.map_cons, List.map_nil, HV.ren, pos, if_true, jM, hr, Row.ren]; exact q⟩
end
theorem qXq {P : Program} {w w' : World} {ty sz : Nat} {els : List (List FV)} {v : Value} {l : List Value} (B : Below w.heap.size w w') (h : Own w' w.heap.size ty sz v els.length l) (hw : ∀ x ∈ els, x.length = sz)
  (hl : ∀ i k (hi : i < els.length) (hk : k < els[i].length), ∃ u, l[i * sz + k]? = some u ∧ u.oneCell' = true ∧ els[i][k] = .v u) :
  ∃ ρ xs, Good (cx w (fun _ => False) (fun b => b < w.heap.size)) ⟨[], [(0, .sl true ty sz els)]⟩ (fun _ => none) w' ρ xs ∧ ρ 0 = v := by
 refine ⟨fun _ => v, fun _ => l, ⟨fun id r hr => ?_, fun i j r s b hne hi hj => ?_, fun k x hk => by simp [hlk] at hk, ⟨B.os, B.tape, B.output, B.size, fun b hlt _ => B.block b hlt⟩, fun b hb => ⟨hb, fun h => h⟩⟩, rfl⟩
 ·simp only [rlk] at hr
  split at hr
  ·simp only [Option.some.injEq] at hr
   subst hr
   refine ⟨⟨h.1, h.2.imp _root_.id fun ⟨g, cap, cur, a, b, d⟩ => ⟨g, cap, cur, a, Nat.zero_le _, d⟩⟩, ⟨hw, fun i k hi hk => ?_⟩, fun b hb => ⟨.inl (h.lt b hb).1, fun _ => (h.lt b hb).1⟩⟩
   obtain ⟨u, a, b, e⟩ := hl i k hi hk
   exact ⟨u, a, b, by rw [e]; exact .v u⟩
  ·cases hr
 ·simp only [rlk] at hi hj
  split at hi
  ·split at hj
   ·omega
   ·cases hj
  ·cases hi
end Go.Eng
end

section
set_option linter.unusedSimpArgs false
set_option linter.unusedVariables false
namespace Go.Eng
open Go Go.RowKit
theorem zEg (j : Nat) : qEo [] j = none := nr rfl
theorem qZ6 (k : Nat) (r : List Nat) (j : Nat) : qEo (k :: r) j = if j = 0 then some k else qEo r (j - 1) := by cases j <;> simp [qEo]
theorem zMi (ids : List Nat) (n j : Nat) : sh2 ids n j = match qEo ids j with | some i => some i | none => bif decide (j < 8) then some (n + j) else none := by
 unfold sh2; split <;> rename_i h <;> rw [h]; congr 1; rw [Bool.eq_iff_iff]; simp [Nat.blt_eq]
theorem zJ3 (i : Nat) : inL [] i = false := nr rfl
theorem zE7 (k : Nat) (r : List Nat) (i : Nat) : inL (k :: r) i = (k == i || inL r i) := nr rfl
theorem zAp : qUs none = true := nr rfl
theorem zJy (nw : Bool) (t s : Nat) (xs : List (List FV)) : qUs (some (.sl nw t s xs)) = true := nr rfl
theorem zJ0 (nw : Bool) (t : Nat) (cs : List HV) : qUs (some (.bx nw t cs)) = false := nr rfl
theorem zJz (nw : Bool) (t s : Nat) (xs : List (List HV)) : qUs (some (.hl nw t s xs)) = true := nr rfl
theorem zJ2 (nw : Bool) (t s : Nat) (xs : List (List HV)) : sG (some (.hl nw t s xs)) = False := nr rfl
theorem zAq : sG none = False := nr rfl
theorem zJ1 (nw : Bool) (t s : Nat) (xs : List (List FV)) : sG (some (.sl nw t s xs)) = False := nr rfl
theorem zNh (t : Nat) (cs : List HV) : sG (some (.bx true t cs)) = False := nr rfl
theorem zNi (t : Nat) (cs : List HV) : sG (some (.bx false t cs)) = True := nr rfl
theorem qYw (ids : List Nat) (st : aB) (n i : Nat) : qCb ids st n i = (dV n i || (inL ids i && qUs (rlk st i))) := nr rfl
theorem zKr (ids : List Nat) (n i : Nat) : qDv ids n i = (dV n i || inL ids i) := nr rfl
theorem qZ4 (ids : List Nat) (st : aB) (j : Nat) : jJ ids st j = match qEo ids j with | some i => rlk st i | none => none := nr rfl
theorem zLa (nw : Bool) (t s : Nat) (xs : List (List FV)) : (Row.sl nw t s xs).dark = .sl nw t s xs := nr rfl
theorem zLc (nw : Bool) (t : Nat) (cs : List HV) : (Row.bx nw t cs).dark = .bx false t cs := nr rfl
theorem zLb (nw : Bool) (t s : Nat) (xs : List (List HV)) : (Row.hl nw t s xs).dark = .hl nw t s xs := nr rfl
theorem zK2 (o : Option Row) (nw : Bool) (t s : Nat) (xs : List (List HV)) : (Row.hl nw t s xs).flag o = .hl nw t s xs := by
 cases o with
 | none => rfl
 | some o => cases o <;> rfl
theorem zGq (r : Row) (nw : Bool) (t s : Nat) (xs : List (List HV)) : r.flag (some (.hl nw t s xs)) = r := by cases r <;> rfl
theorem zCc (r : Row) : r.flag none = r := nr rfl
theorem zK1 (o : Option Row) (nw : Bool) (t s : Nat) (xs : List (List FV)) : (Row.sl nw t s xs).flag o = .sl nw t s xs := by
 cases o with
 | none => rfl
 | some o => cases o <;> rfl
theorem zK3 (nw n2 : Bool) (t t2 : Nat) (cs c2 : List HV) : (Row.bx n2 t2 c2).flag (some (.bx nw t cs)) = .bx nw t2 c2 := nr rfl
theorem zGp (r : Row) (nw : Bool) (t s : Nat) (xs : List (List FV)) : r.flag (some (.sl nw t s xs)) = r := by cases r <;> rfl
theorem zCf (m : Nat → Option Nat) (st : aB) (k : Nat) : qA m st k [] = [] := nr rfl
theorem qW3 (m : Nat → Option Nat) (st : aB) (k id : Nat) (r : List Nat) : qA m st k (id :: r) = match rlk st id with | some row => (k, (row.ren m).dark) :: qA m st (k + 1) r | none => qA m st (k + 1) r := nr rfl
theorem zHt (S0 : aB) (ids : List Nat) (n : Nat) (b : aB) : swp S0 ids n [] b = b := nr rfl
theorem zC9 (S0 : aB) (ids : List Nat) (n j : Nat) (r : Row) (t b : aB) : swp S0 ids n ((j, r) :: t) b = ((sh2 ids n j).getD 0, (r.ren (sh2 ids n)).flag (jJ ids S0 j)) :: swp S0 ids n t b := nr rfl
theorem zHu (e : aH) (s : aB) (ids : List Nat) (n : Nat) (st : aB) : HS.swap ⟨e, s⟩ ids n st = ⟨iC (qCb ids s n) e, swp s ids n st (cD (qDv ids n) s)⟩ := nr rfl
theorem zCt (st : aB) (k : Nat) : qJr st k [] = True := nr rfl
theorem yL (st : aB) (k id : Nat) (r : List Nat) : qJr st k (id :: r) = ((sG (rlk st id) → k = id) ∧ qJr st (k + 1) r) := nr rfl
theorem zAn (ids : List Nat) (st : aB) : rF ids st [] = True := nr rfl
theorem zE1 (ids : List Nat) (st : aB) (j : Nat) (nw : Bool) (t s : Nat) (xs : List (List FV)) (r : aB) : rF ids st ((j, .sl nw t s xs) :: r) = rF ids st r := nr rfl
theorem zE2 (ids : List Nat) (st : aB) (j : Nat) (nw : Bool) (t s : Nat) (xs : List (List HV)) (r : aB) : rF ids st ((j, .hl nw t s xs) :: r) = rF ids st r := nr rfl
theorem zE3 (ids : List Nat) (st : aB) (j : Nat) (t : Nat) (cs : List HV) (r : aB) : rF ids st ((j, .bx true t cs) :: r) = rF ids st r := nr rfl
theorem zE4 (ids : List Nat) (st : aB) (j : Nat) (t : Nat) (cs : List HV) (r : aB) : rF ids st ((j, .bx false t cs) :: r) = ((qEo ids j = some j ∧ sG (rlk st j)) ∧ rF ids st r) := by
 rw [oL]; rfl
theorem aM (P : Program) (rs : List ResultVar) (st0 : aB) (Q : HV → aB → Prop) (S : HS) : qVb P rs st0 Q .normal S = sV P S rs fun hs => qJ4 st0 S (qDl hs) Q := rfl
theorem bM (P : Program) (rs : List ResultVar) (st0 : aB) (Q : HV → aB → Prop) (S : HS) : qVb P rs st0 Q .ret S = sV P S rs fun hs => qJ4 st0 S (qDl hs) Q := rfl
theorem jR (ids : List Nat) {st0 : aB} {S : HS} {h : HV} {Q : HV → aB → Prop} (h1 : ids.length ≤ 8) (h2 : dup ids = false) (h3 : qJr S.st 0 ids) (h4 : rF ids S.st st0) {h' : HV} {st' : aB} (h5 : h.ren (pos ids) = h') (h6 : jM (pos ids) S.st 0 ids = st') (q : Q h' st') : qJ4 st0 S h Q :=
 ⟨ids, h1, h2, h3, h4, by rw [h5, h6]; exact q⟩
theorem cJ : qDl [] = .tup [] := nr rfl
section
variable {P : Program} {N : Nat} {x : Code} {Q : eG} {S S' : HS}
theorem qYl (id k nid ty sz : Nat) {nw : Bool} {bt : Nat} {cells : List HV} (hne : id ≠ nid) (hr : rlk S.st id = some (.bx nw bt cells)) (hk : cells[k]? = some (.v (.slice none 0 0)))
  (hs : (⟨iC (only nid) S.env, (nid, .sl true ty sz []) :: gK id (.bx nw bt ((cells.map (HV.kill (only nid))).set k (.own nid))) (cD (only nid) S.st)⟩ : HS) = S') (h : HW P N x Q S') : HW P N x Q S := fun c l w I => by
 subst hs
 refine h c l w ?_
 obtain ⟨ρ, xs, G⟩ := I
 have G2 := G.new nid (.sl true ty sz []) [] (.slice none 0 0) (w' := w) (Below.refl _ _) (fun b hb => by cases hb) (fun _ _ =>
  ⟨by rw [aF]; exact World.ownsRow_nil w 0 ty sz, ⟨by simp, fun i k hi => absurd hi (by simp)⟩, fun b hb => by rw [aF] at hb; cases hb⟩)
 have hr2 : rlk (cD (only nid) S.st) id = some (.bx nw bt (cells.map (HV.kill (only nid)))) := by rw [eK, oK hne, cond_false, hr]; rfl
 have hl : ∀ i, rlk ((nid, Row.sl true ty sz []) :: gK id (.bx nw bt ((cells.map (HV.kill (only nid))).set k (.own nid))) (cD (only nid) S.st)) i =
   if i = id then some (.bx nw bt ((cells.map (HV.kill (only nid))).set k (.own nid))) else rlk ((nid, Row.sl true ty sz []) :: cD (only nid) S.st) i := fun i => by
  simp only [rlk]
  by_cases e : nid = i
  ·rw [if_pos e, if_neg (by omega), if_pos e]
  ·rw [if_neg e, gT id _ _ _ hr2]
   by_cases e2 : i = id
   ·rw [if_pos e2, if_pos e2]
   ·rw [if_neg e2, if_neg e2, if_neg e]
 have hid : rlk ((nid, Row.sl true ty sz []) :: cD (only nid) S.st) id = some (.bx nw bt (cells.map (HV.kill (only nid)))) := by simp only [rlk]; rw [if_neg (by omega)]; exact hr2
 have hA : ∀ b, c.A (dW ρ nid (.slice none 0 0)) ((nid, Row.sl true ty sz []) :: gK id (.bx nw bt ((cells.map (HV.kill (only nid))).set k (.own nid))) (cD (only nid) S.st)) b → c.A (dW ρ nid (.slice none 0 0)) ((nid, Row.sl true ty sz []) :: cD (only nid) S.st) b := by
  rintro b (h0 | ⟨i, s, hi, hb⟩)
  ·exact .inl h0
  ·right
   rw [hl] at hi
   by_cases e : i = id
   ·subst e; exact ⟨_, _, hid, hb⟩
   ·rw [if_neg e] at hi; exact ⟨i, s, hi, hb⟩
 refine ⟨dW ρ nid (.slice none 0 0), fun i => if i = nid then [] else xs i, ⟨fun i r hi => ?_, fun i j r s b hne hi hj hbi hbj => ?_, fun j y hj => ?_, G2.kept, G2.a0⟩⟩
 ·rw [hl] at hi
  by_cases e : i = id
  ·subst e
   rw [if_pos rfl] at hi
   simp only [Option.some.injEq] at hi
   subst hi
   have R := G2.rows i _ hid
   refine ⟨by simpa [Row.ty, Row.sz, Row.len] using R.own, ⟨R.rep.1, fun q hq => ?_⟩, R.new⟩
   have hq' : q < (cells.map (HV.kill (only nid))).length := by simpa using hq
   obtain ⟨u, u1, u2, u3⟩ := R.rep.2 q hq'
   by_cases eq : k = q
   ·subst eq
    refine ⟨u, u1, u2, ?_⟩
    rw [List.getElem_set_self]
    have hc : cells[k]'(by simpa using hq') = .v (.slice none 0 0) := by
     have := List.getElem?_eq_some_iff.1 hk
     exact this.2
    rw [List.getElem_map, hc, HV.kill] at u3
    have := aV u3
    subst this
    have := RepH.own (w := w) (A := c.A (dW ρ nid (.slice none 0 0)) ((nid, Row.sl true ty sz []) :: gK i (.bx nw bt ((cells.map (HV.kill (only nid))).set k (.own nid))) (cD (only nid) S.st))) (n0 := c.n0) (ρ := dW ρ nid (.slice none 0 0)) nid (by rw [aF]; rfl)
    rw [aF] at this
    exact this
   ·refine ⟨u, u1, u2, ?_⟩
    rw [List.getElem_set_ne eq]
    exact u3.up (Nat.le_refl _) (fun _ _ _ => rfl) (fun b _ => hA b) (Nat.le_refl _)
  ·rw [if_neg e] at hi
   exact (G2.rows i r hi).up (Nat.le_refl _) (fun _ _ _ => rfl) (fun b _ => hA b) (fun _ _ => rfl)
 ·have back : ∀ i s, rlk ((nid, Row.sl true ty sz []) :: gK id (.bx nw bt ((cells.map (HV.kill (only nid))).set k (.own nid))) (cD (only nid) S.st)) i = some s → ∃ s0, rlk ((nid, Row.sl true ty sz []) :: cD (only nid) S.st) i = some s0 := by
   intro i s hi
   rw [hl] at hi
   by_cases e : i = id
   ·subst e; exact ⟨_, hid⟩
   ·rw [if_neg e] at hi; exact ⟨s, hi⟩
  obtain ⟨r0, h1⟩ := back i r hi
  obtain ⟨s0, h2⟩ := back j s hj
  exact G2.apart i j r0 s0 b hne h1 h2 hbi hbj
 ·obtain ⟨v, h1, h2⟩ := G2.env j y hj
  exact ⟨v, h1, h2.up (Nat.le_refl _) (fun _ _ _ => rfl) (fun b _ => hA b) (Nat.le_refl _)⟩
end
section
variable {P : Program} {N : Nat} {x : Code} {Q : eG} {S : HS} {id : Nat} {R : HS → Prop}
end
end Go.Eng
end

section
set_option linter.unusedSimpArgs false
set_option linter.unusedVariables false
namespace Go.Eng
open Go Go.RowKit
def zNl (R : HS → Prop) (Q : eG) : eG
 | .normal, S => R S
 | e, S => Q e S
section
variable {P : Program} {N : Nat} {x : Code} {Q : eG} {S : HS} {R : HS → Prop}
theorem qPb {ι : Type} (E : ι → HS) (I : ι → Prop) (ks ids : List Nat) (hx : HW P N x (zNl (fun S' => ∃ j, S'.keep ks ids = E j ∧ I j) Q) S) (hy : ∀ S' j, S'.keep ks ids = E j → I j → Q .normal S') : HW P N x Q S :=
 hx.mono fun e S' h => by
  cases e with
  | normal => obtain ⟨j, hE, hI⟩ := h; exact hy S' j hE hI
  | _ => exact h
end
theorem qPa {P : Program} {N : Nat} {x : Code} {Q : eG} {S S' : HS} (k id ty sz : Nat) (hk : hlk S.env k = some (.v (.slice none 0 0))) (hs : ((S.kill (only id)).row id (.sl true ty sz [])).rep k (.own id) = S') (h : HW P N x Q S') : HW P N x Q S := zP7 k id ty sz hk (hs ▸ h)
end Go.Eng
end

section
set_option linter.unusedSimpArgs false
set_option linter.unusedVariables false
namespace Go.Eng
open Go Go.RowKit
theorem qE4 {P : Program} {N : Nat} {ds : List (Option Nat)} {K : Env → World → Prop} : ∀ {ops more : List Oper} {l : Env} {w : World}, VC P N ds (fun l w => VC P N ds K more l w) ops l w → VC P N ds K (ops ++ more) l w
 | [], more, l, w, h => by rw [VC] at h; exact h
 | o :: rest, more, l, w, h => by
  rw [List.cons_append]
  rw [VC] at h ⊢
  obtain ⟨b, hb, hd, h⟩ := qJa h
  have conv : ∀ {k : Bool → Prop}, k b → gd l ds o.guard k := by
   intro k hkb
   unfold gd at hb ⊢
   split
   ·rename_i hg; rw [hg] at hb; dsimp only at hb; rw [hb]; exact hkb
   ·rename_i j want hg
    rw [hg] at hb
    dsimp only at hb
    split
    ·rename_i d hd'
     rw [hd'] at hb
     dsimp only at hb
     split
     ·rename_i b' hb'; rw [hb'] at hb; dsimp only at hb; rw [hb]; exact hkb
     ·rename_i v hv hb'
      rw [hb'] at hb
      cases v <;> dsimp only at hb <;> first | (exact (hv _ rfl).elim) | (rw [hb]; exact hkb)
     ·rename_i hb'; rw [hb'] at hb; exact hb.elim
    ·rename_i hn
     split at hb
     ·rename_i d hd'; exact (hn d hd').elim
     ·exact hb.elim
  refine conv ⟨hd, ?_⟩
  cases b with
  | true => exact aS h fun v w' hv => qE4 hv
  | false => exact qE4 h
section
variable {P : Program} {N : Nat} {ds : List (Option Nat)} {K : HS → Prop} {S : HS} {Q : eG}
def qXe (P : Program) (N : Nat) (ds : List (Option Nat)) (K : HS → Prop) (ops : List Oper) (S : HS) : Prop :=
 ∀ (c : Ctx) (l : Env) (w : World), Inv c S (lk l) w → VC P N ds (fun l w => ∃ S', Inv c S' (lk l) w ∧ K S') ops l w
theorem zHi {ops : List Oper} (h : HV2 P N ds K ops S) : qXe P N ds K ops S := fun c l w I => sQ (c := c) ops S l w h I
theorem zHj {ops : List Oper} (n : Nat) (ks ids : List Nat) (h : HV2 P N ds (fun S' => jZ (qXe P N ds K (ops.drop n)) (S'.keep ks ids)) (ops.take n) S) : qXe P N ds K ops S := fun c l w I => by
 have := sQ (c := c) (ops.take n) S l w h I
 rw [← List.take_append_drop n ops]
 exact qE4 (zJ.V.mono this fun l' w' ⟨S', I', q⟩ => (show qXe P N ds K (ops.drop n) (S'.keep ks ids) from q) c l' w' (I'.keep ks ids))
theorem zLr {id : Nat} {ops : List Oper} (h : ∀ K : HS → Prop, (∀ S', Q .normal S' → K S') → qXe P N (bL ops) K ops S) : HW P N (.region id ops.toArray false) Q S := fun c l w I =>
 qSn fun K hK => by
  have := h (Q .normal) (fun _ h => h) c l w I
  exact (zJ.V.mono this fun l' w' h => hK l' w' h)
end
end Go.Eng
end

section
set_option linter.unusedSimpArgs false
set_option linter.unusedVariables false
namespace Go.Eng
open Go Go.RowKit
def nm (a b : Nat) : Nat → Option Nat := fun i => if i = a then some b else if i = b then none else some i
def qR0 (m : Nat → Option Nat) : aH → aH
 | [] => []
 | (k, h) :: r => (k, h.ren m) :: qR0 m r
def qMe (a b : Nat) : aB → aB
 | [] => []
 | (k, r) :: t => (if k = a then b else k, r.ren (nm a b)) :: qMe a b t
def HS.name (S : HS) (a b : Nat) : HS := ⟨qR0 (nm a b) S.env, qMe a b S.st⟩
theorem qQ9 (m : Nat → Option Nat) : ∀ (l : aH) (k : Nat), hlk (qR0 m l) k = (hlk l k).map (HV.ren m)
 | [], k => rfl
 | (j, h) :: r, k => by
  simp only [qR0, hlk]
  split
  ·rfl
  ·exact qQ9 m r k
theorem qP1 {a b : Nat} (hab : a ≠ b) : ∀ (l : aB) (_ : rlk l b = none) (k : Nat), rlk (qMe a b l) k = if k = b then (rlk l a).map (Row.ren (nm a b)) else if k = a then none else (rlk l k).map (Row.ren (nm a b))
 | [], _, k => by simp [qMe, rlk]
 | (j, r) :: t, h, k => by
  simp only [rlk] at h
  by_cases hj : j = b
  ·rw [if_pos hj] at h; cases h
  ·rw [if_neg hj] at h
   have ih := qP1 hab t h k
   simp only [qMe, rlk]
   by_cases e : j = a
   ·subst e
    rw [if_pos rfl, if_pos rfl]
    by_cases e2 : k = b
    ·subst e2; rw [if_pos rfl, if_pos rfl]; rfl
    ·rw [if_neg (by omega), ih, if_neg e2, if_neg e2]
     by_cases e3 : k = j
     ·rw [if_pos e3, if_pos e3]
     ·rw [if_neg e3, if_neg e3, if_neg (by omega)]
   ·rw [if_neg e, if_neg e]
    by_cases e2 : j = k
    ·subst e2; rw [if_pos rfl, if_neg hj, if_neg e, if_pos rfl]; rfl
    ·rw [if_neg e2, ih, if_neg e2]
section
variable {P : Program} {N : Nat} {x : Code} {Q : eG} {c : Ctx} {S S' : HS} {look : Nat → Option Value} {w : World}
theorem Inv.name (I : Inv c S look w) {a b ty sz : Nat} {nw : Bool} {els : List (List FV)} (hab : a ≠ b) (hb : rlk S.st b = none) (ha : rlk S.st a = some (.sl nw ty sz els)) : Inv c (S.name a b) look w := by
 obtain ⟨ρ, xs, G⟩ := I
 let ρ' : Nat → Value := fun i => if i = b then ρ a else ρ i
 let xs' : Nat → List Value := fun i => if i = b then xs a else xs i
 have hm : ∀ i j, nm a b i = some j → ρ' j = ρ i := fun i j h => by
  unfold nm at h
  by_cases e : i = a
  ·rw [if_pos e] at h; simp only [Option.some.injEq] at h; subst h; subst e; show (if b = b then _ else _) = _; rw [if_pos rfl]
  ·rw [if_neg e] at h
   by_cases e2 : i = b
   ·rw [if_pos e2] at h; cases h
   ·rw [if_neg e2] at h; simp only [Option.some.injEq] at h; subst h; show (if i = b then _ else _) = _; rw [if_neg e2]
 have back : ∀ i r, rlk (S.name a b).st i = some r → ∃ j r0, nm a b j = some i ∧ rlk S.st j = some r0 ∧ r = r0.ren (nm a b) ∧ xs' i = xs j := by
  intro i r hi
  simp only [HS.name, qP1 hab _ hb] at hi
  by_cases e : i = b
  ·subst e
   rw [if_pos rfl, ha] at hi
   simp only [Option.map_some, Option.some.injEq] at hi
   exact ⟨a, _, by simp [nm], ha, hi.symm, by show (if i = i then _ else _) = _; rw [if_pos rfl]⟩
  ·rw [if_neg e] at hi
   by_cases e2 : i = a
   ·rw [if_pos e2] at hi; cases hi
   ·rw [if_neg e2] at hi
    cases hs : rlk S.st i with
    | none => rw [hs] at hi; cases hi
    | some r0 =>
     rw [hs] at hi
     simp only [Option.map_some, Option.some.injEq] at hi
     exact ⟨i, r0, by simp [nm, e, e2], hs, hi.symm, by show (if i = b then _ else _) = _; rw [if_neg e]⟩
 have hA : ∀ g, c.A ρ' (S.name a b).st g → c.A ρ S.st g := by
  rintro g (h0 | ⟨i, r, hi, hg⟩)
  ·exact .inl h0
  ·obtain ⟨j, r0, h1, h2, -, -⟩ := back i r hi
   rw [hm j i h1] at hg
   exact .inr ⟨j, r0, h2, hg⟩
 have tr : ∀ v y, RepH w (c.A ρ S.st) c.n0 ρ v y → RepH w (c.A ρ' (S.name a b).st) c.n0 ρ' v (y.ren (nm a b)) := fun v y h => (h.up (Nat.le_refl _) (fun _ _ _ => rfl) (fun b _ => hA b) (Nat.le_refl _)).ren hm
 refine ⟨ρ', xs', fun i r hi => ?_, fun i j r s g hne hi hj hgi hgj => ?_, fun k y hk => ?_, G.kept, G.a0⟩
 ·obtain ⟨j, r0, h1, h2, rfl, h4⟩ := back i r hi
  have R := G.rows j r0 h2
  obtain ⟨f1, f2, f3, f4⟩ := Row.ren_facts (nm a b) r0
  rw [h4]
  refine ⟨by rw [f1, f2, f3, hm j i h1]; exact R.own, ?_, fun g hg => by rw [f4]; rw [hm j i h1] at hg; exact R.new g hg⟩
  have rp := R.rep
  cases r0 with
  | sl nw ty sz els =>
   refine ⟨rp.1, fun p k hp hk => ?_⟩
   obtain ⟨u, u1, u2, u3⟩ := rp.2 p k hp hk
   exact ⟨u, u1, u2, u3.up (Nat.le_refl _) (fun _ _ _ => rfl) (fun b _ => hA b) (Nat.le_refl _)⟩
  | bx nw ty cells =>
   refine ⟨?_, fun k hk => ?_⟩
   ·have hji : j = i := by
     unfold nm at h1
     by_cases e : j = a
     ·subst e; rw [ha] at h2; cases h2
     ·rw [if_neg e] at h1
      by_cases e2 : j = b
      ·rw [if_pos e2] at h1; cases h1
      ·rw [if_neg e2] at h1; exact Option.some.inj h1
    rw [hm j i h1]
    rw [← hji]
    exact rp.1
   ·rw [List.length_map] at hk
    obtain ⟨u, u1, u2, u3⟩ := rp.2 k hk
    refine ⟨u, u1, u2, ?_⟩
    rw [List.getElem_map]
    exact tr _ _ u3
  | hl nw ty sz els =>
   refine ⟨fun y hy => ?_, fun p k hp hk => ?_⟩
   ·obtain ⟨z, hz, rfl⟩ := List.mem_map.1 hy
    rw [List.length_map]; exact rp.1 z hz
   ·simp only [List.length_map] at hp
    simp only [List.getElem_map, List.length_map] at hk ⊢
    obtain ⟨u, u1, u2, u3⟩ := rp.2 p k hp hk
    exact ⟨u, u1, u2, tr _ _ u3⟩
 ·obtain ⟨i', r0, h1, h2, -, -⟩ := back i r hi
  obtain ⟨j', s0, h3, h4, -, -⟩ := back j s hj
  rw [hm i' i h1] at hgi
  rw [hm j' j h3] at hgj
  exact G.apart i' j' r0 s0 g (fun e => hne (by subst e; rw [h1] at h3; exact Option.some.inj h3)) h2 h4 hgi hgj
 ·simp only [HS.name, qQ9] at hk
  cases hx0 : hlk S.env k with
  | none => rw [hx0] at hk; cases hk
  | some x0 =>
   rw [hx0] at hk
   simp only [Option.map_some, Option.some.injEq] at hk
   subst hk
   obtain ⟨v, h1, h2⟩ := G.env k x0 hx0
   exact ⟨v, h1, tr v x0 h2⟩
theorem qBy (a b : Nat) {ty sz : Nat} {nw : Bool} {els : List (List FV)} (hab : a ≠ b) (hb : rlk S.st b = none) (ha : rlk S.st a = some (.sl nw ty sz els)) (hs : S.name a b = S') (h : HW P N x Q S') : HW P N x Q S := fun c l w I => h c l w (hs ▸ I.name hab hb ha)
theorem zR1 (id : Nat) {ty sz : Nat} {nw : Bool} {els : List (List FV)} (hr : rlk S.st id = some (.sl nw ty sz els)) (hs : (⟨S.env, gK id (.hl nw ty sz (els.map (List.map FV.h))) S.st⟩ : HS) = S') (h : HW P N x Q S') : HW P N x Q S := fun c l w I => by
 subst hs
 refine h c l w ?_
 obtain ⟨ρ, xs, G⟩ := I
 have hl := gT id (.hl nw ty sz (els.map (List.map FV.h))) S.st _ hr
 have hA : ∀ b, c.A ρ (gK id (.hl nw ty sz (els.map (List.map FV.h))) S.st) b → c.A ρ S.st b := by
  rintro b (h0 | ⟨i, s, hi, hb⟩)
  ·exact .inl h0
  ·rw [hl] at hi
   by_cases e : i = id
   ·subst e; exact .inr ⟨_, _, hr, hb⟩
   ·rw [if_neg e] at hi; exact .inr ⟨i, s, hi, hb⟩
 have back : ∀ i r, rlk (gK id (.hl nw ty sz (els.map (List.map FV.h))) S.st) i = some r → ∃ r0, rlk S.st i = some r0 := by
  intro i r hi
  rw [hl] at hi
  by_cases e : i = id
  ·subst e; exact ⟨_, hr⟩
  ·rw [if_neg e] at hi; exact ⟨r, hi⟩
 refine ⟨ρ, xs, fun i r hi => ?_, fun i j r s b hne hi hj => ?_, fun k y hk => ?_, G.kept, G.a0⟩
 ·dsimp only at hi
  rw [hl] at hi
  by_cases e : i = id
  ·subst e
   rw [if_pos rfl] at hi
   simp only [Option.some.injEq] at hi
   subst hi
   have R := G.rows i _ hr
   refine ⟨by simpa [Row.ty, Row.sz, Row.len] using R.own, ⟨fun y hy => ?_, fun p k hp hk => ?_⟩, R.new⟩
   ·obtain ⟨z, hz, rfl⟩ := List.mem_map.1 hy
    rw [List.length_map]; exact R.rep.1 z hz
   ·simp only [List.length_map] at hp
    simp only [List.getElem_map, List.length_map] at hk ⊢
    obtain ⟨u, u1, u2, u3⟩ := R.rep.2 p k hp hk
    exact ⟨u, u1, u2, (u3.up (Nat.le_refl _) (fun _ _ _ => rfl) (fun b _ => hA b) (Nat.le_refl _)).h⟩
  ·rw [if_neg e] at hi
   exact (G.rows i r hi).up (Nat.le_refl _) (fun _ _ _ => rfl) (fun b _ => hA b) (fun _ _ => rfl)
 ·obtain ⟨r0, h1⟩ := back i r hi
  obtain ⟨s0, h2⟩ := back j s hj
  exact G.apart i j r0 s0 b hne h1 h2
 ·obtain ⟨v, h1, h2⟩ := G.env k y hk
  exact ⟨v, h1, h2.up (Nat.le_refl _) (fun _ _ _ => rfl) (fun b _ => hA b) (Nat.le_refl _)⟩
end
theorem oM (e : aH) (s : aB) (a b : Nat) : HS.name ⟨e, s⟩ a b = ⟨qR0 (nm a b) e, qMe a b s⟩ := rfl
theorem qDb (a b i : Nat) : nm a b i = if i = a then some b else if i = b then none else some i := rfl
theorem lP (m : Nat → Option Nat) : qR0 m [] = [] := rfl
theorem jE (m : Nat → Option Nat) (k : Nat) (h : HV) (r : aH) : qR0 m ((k, h) :: r) = (k, h.ren m) :: qR0 m r := rfl
theorem kZ (a b : Nat) : qMe a b [] = [] := rfl
theorem iV (a b k : Nat) (r : Row) (t : aB) : qMe a b ((k, r) :: t) = (if k = a then b else k, r.ren (nm a b)) :: qMe a b t := rfl
end Go.Eng
end
