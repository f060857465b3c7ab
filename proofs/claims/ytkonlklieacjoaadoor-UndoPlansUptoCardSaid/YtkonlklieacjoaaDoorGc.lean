/-
  The engine of values: texts Rel, Hr, Hk, Hl, Hlo, He, Enc, Ste, Met, Spl, Nam, laid together.
-/
import Derived.Test.YtkonlklieacjoaaDoorEng
import Derived.Test.YtkonlklieacjoaaDoorGb
section
set_option linter.unusedSimpArgs false
set_option linter.unusedVariables false
namespace Go.Eng
open Go Go.RowKit
section
variable {P : Program} {N : Nat} {C : World → Prop} {ops : List Oper} {n : Nat} {l : Env} {R : Nat → Value → World → Prop}
def iG (l : Env) (ops : List Oper) (vs : Nat → Value) : Nat → Env
 | 0 => l
 | i + 1 => stp (aM ops i) (vs i) (iG l ops vs i)
def DLt (N : Nat) (ops : List Oper) (n : Nat) : Prop := ∀ i t, i < n → aM ops i = some t → t < N
variable {vs : Nat → Value}
theorem qEj (hl : DLt N ops n) (hk : cS N l = true) : ∀ i, i ≤ n → cS N (iG l ops vs i) = true
 | 0, _ => hk
 | i + 1, hi => uF (qEj hl hk i (by omega)) (fun k e => hl i k (by omega) e)
theorem nB (base : Array Value) (t : Nat) : ∀ i, (∀ j, j < i → aM ops j ≠ some t) →
  lk (iG l ops vs i) t = lk l t ∧ (jA base (iG l ops vs i))[t]? = (jA base l)[t]?
 | 0, _ => ⟨rfl, rfl⟩
 | i + 1, h => by
  obtain ⟨h1, h2⟩ := nB base t i (fun j hj => h j (by omega))
  have hne := h i (by omega)
  simp only [iG]
  cases hd : aM ops i with
  | none => exact ⟨h1, h2⟩
  | some d =>
   have : d ≠ t := fun e => hne (by rw [hd, e])
   simp only [stp, lk, jA, if_neg this]
   exact ⟨h1, by rw [Array.getElem?_setIfInBounds_ne this]; exact h2⟩
theorem lC (hl : DLt N ops n) {base : Array Value} (hbase : base.size = N) {t j : Nat} (hj : aM ops j = some t) (huniq : ∀ k, k < n → k ≠ j → aM ops k ≠ some t) : ∀ i, i ≤ n → j < i →
  lk (iG l ops vs i) t = some (vs j) ∧ (jA base (iG l ops vs i))[t]? = some (vs j)
 | 0, _, h => absurd h (Nat.not_lt_zero _)
 | i + 1, hi, h => by
  simp only [iG]
  by_cases e : j = i
  ·subst e
   rw [hj]
   simp only [stp, lk, jA, if_true, true_and]
   rw [Array.getElem?_setIfInBounds_self_of_lt (by rw [lN, hbase]; exact hl j t (by omega) hj)]
  ·obtain ⟨h1, h2⟩ := lC hl hbase hj huniq i (by omega) (by omega)
   have hne := huniq i (by omega) (Ne.symm e)
   cases hd : aM ops i with
   | none => exact ⟨h1, h2⟩
   | some d =>
    have : d ≠ t := fun e => hne (by rw [hd, e])
    simp only [stp, lk, jA, if_neg this]
    exact ⟨h1, by rw [Array.getElem?_setIfInBounds_ne this]; exact h2⟩
theorem zEy {keys : List Nat} (ok : RegOk keys ops n) (F : Fr N) (hk : cS N l = true) (cM : ∀ t ∈ keys, ∃ v, lk l t = some v) (hlt : DLt N ops n)
  {Le : Nat → World → World → Prop} (hLe : ∀ i w, Le i w w) (hS : ∀ j i u w w', j < n → i < n → j ≠ i → C w → R j u w → Le i w w' → R j u w')
  (H : ∀ i o, i < n → ops[i]? = some o → ∀ (vs : Nat → Value) (w : World), C w → (∀ j t, j < i → aM ops j = some t → t ∈ o.looksAt ops.toArray → R j (vs j) w) →
   ∃ b, gd (iG l ops vs i) (dB ops) o.guard (· = b) ∧ (b = true → Yields P (execOp (evD (iG l ops vs i)) o) w fun u w' => R i u w' ∧ C w' ∧ Le i w w') ∧ (b = false → R i undef w))
  {Q : Exit → Act → World → Prop} (hT : ∀ (vs : Nat → Value) (w : World), C w → (∀ j, j < n → R j (vs j) w) → wpList P ops.toArray Q (ops.drop n) (mk F (iG l ops vs n)) w) :
  ∀ (fuel : Nat) (listed : Array Bool) (a : Act) (w : World) (vs : Nat → Value), unl listed = fuel → Mid N C ops n (jA F.base l) vs listed a w → (∀ j, j < n → listed.getD j false = true → R j (vs j) w) → wpAny P .any ops.toArray Q fuel listed a w := by
 have uniq : ∀ i j t, i < n → j < n → aM ops i = some t → aM ops j = some t → i = j := by
  intro i j t hi hj h1 h2
  rcases Nat.lt_trichotomy i j with h | h | h
  ·rcases ok.uniq j i hj h with e | e
   ·rw [h2] at e; cases e
   ·exact absurd (h2.trans h1.symm) e
  ·exact h
  ·rcases ok.uniq i j hi h with e | e
   ·rw [h1] at e; cases e
   ·exact absurd (h1.trans h2.symm) e
 have final : ∀ (listed : Array Bool) (a : Act) (w : World) (vs : Nat → Value), Mid N C ops n (jA F.base l) vs listed a w → (∀ j, j < n → listed.getD j false = true) → a = mk F (iG l ops vs n) := by
  intro listed a w vs M hall
  obtain ⟨tm, df⟩ := a
  have hd : df = [] := M.defers
  subst hd
  show Act.mk _ _ = Act.mk _ _
  congr 1
  apply Array.ext_getElem?
  intro t
  by_cases h : ∃ j, j < n ∧ aM ops j = some t
  ·obtain ⟨j, hj, hd⟩ := h
   have h1 := M.new j t hj (hall j hj) hd
   have h2 := (lC (l := l) (vs := vs) hlt F.hN hd (fun k hk hne e => hne (uniq k j t hk hj e hd)) n (Nat.le_refl _) hj).2
   exact h1.trans h2.symm
  ·have h' : ∀ j, j < n → aM ops j ≠ some t := fun j hj e => h ⟨j, hj, e⟩
   have h1 := M.old t (fun j hj _ => h' j hj)
   have h2 := (nB (l := l) (vs := vs) F.base t n h').2
   exact h1.trans h2.symm
 have slot : ∀ (listed : Array Bool) (a : Act) (w : World) (vs : Nat → Value) (i : Nat) (o : Oper) (t : Nat), Mid N C ops n (jA F.base l) vs listed a w → i < n → ops[i]? = some o → i ∈ Region.ready .any ops.toArray listed → t ∈ o.looksAt ops.toArray →
   ∃ X, a.tmps[t]? = some X ∧ lk (iG l ops vs i) t = some X := by
  intro listed a w vs i o t M hi ho hr ht
  obtain ⟨l1, l2⟩ := ok.looks i o t hi ho ht
  by_cases h : ∃ j, j < n ∧ aM ops j = some t
  ·obtain ⟨j, hj, hd⟩ := h
   obtain ⟨hji, he⟩ := l1 j hj hd
   exact ⟨vs j, M.new j t hj (dS hr he) hd, (lC (l := l) (vs := vs) hlt F.hN hd (fun k hk hne e => hne (uniq k j t hk hj e hd)) i (by omega) hji).1⟩
  ·have h' : ∀ j, j < n → aM ops j ≠ some t := fun j hj e => h ⟨j, hj, e⟩
   rcases l2 with ⟨j, hj, hd⟩ | hkey
   ·exact absurd hd (h' j (by omega))
   ·obtain ⟨v, hv⟩ := cM t hkey
    refine ⟨v, ?_, ?_⟩
    ·rw [M.old t (fun j hj _ => h' j hj)]; exact jM F hk hv
    ·rw [(nB (l := l) (vs := vs) F.base t i (fun j hj => h' j (by omega))).1]; exact hv
 intro fuel
 induction fuel with
 | zero =>
  intro listed a w vs hu M MR
  have hall : ∀ j, j < ops.length → listed.getD j false = true := fun j hj => qGr hu (by rw [M.size]; exact hj)
  have hn : n = ops.length := by
   rcases Nat.lt_or_ge n ops.length with h | h
   ·have := M.heads n (hall n h); omega
   ·have := ok.hn; omega
  have ha := final listed a w vs M (fun j hj => hall j (by omega))
  subst ha
  exact qG ok 0 n listed _ w (by omega) (Nat.le_refl _) M.size (fun i hi => ⟨fun _ => by omega, fun _ => hall i hi⟩) (hT vs w M.cls fun j hj => MR j hj (hall j (by omega)))
 | succ fuel ih =>
  intro listed a w vs hu M MR
  by_cases hdone : ∀ j, j < n → listed.getD j false = true
  ·have ha := final listed a w vs M hdone
   subst ha
   have hcount : ∀ (m : Nat) (x : Array Bool), x.size = ops.length → (∀ i, i < ops.length → (x.getD i false = true ↔ i < m)) → m ≤ ops.length → m + unl x = ops.length := by
    intro m
    generalize hd : ops.length - m = d
    induction d generalizing m with
    | zero =>
     intro x hx hl hm
     have : unl x = 0 := by
      unfold unl
      rw [List.length_eq_zero_iff, List.filter_eq_nil_iff]
      intro b hb
      obtain ⟨i, hi, rfl⟩ := List.getElem_of_mem hb
      have hi' : i < x.size := by simpa using hi
      have := (hl i (by omega)).2 (by omega)
      simp only [Array.getD, hi', dite_true] at this
      simp [show x.toList[i] = true from this]
     omega
    | succ d ihd =>
     intro x hx hl hm
     have hmlt : m < ops.length := by omega
     have h0 : x.getD m true = false := by
      have : ¬ x.getD m false = true := fun e => by have := (hl m hmlt).1 e; omega
      have hm' : m < x.size := by omega
      simp only [Array.getD, hm', dite_true] at this ⊢
      simpa using this
     have := ihd (m + 1) (by omega) (x.setIfInBounds m true) (by simpa using hx) (fun i hi => by
      by_cases e : m = i
      ·subst e
       have : m < x.size := by omega
       simp [this]
      ·rw [getD_set_ne false e, hl i hi]; omega) (by omega)
     have := xN h0
     omega
   have hl : ∀ i, i < ops.length → (listed.getD i false = true ↔ i < n) := fun i hi => ⟨M.heads i, hdone i⟩
   have := hcount n listed M.size hl ok.hn
   exact qG ok (fuel + 1) n listed _ w (by omega) (Nat.le_refl _) M.size hl (hT vs w M.cls fun j hj => MR j hj (hdone j hj))
  ·have hex : ∃ j, j < n ∧ listed.getD j false ≠ true := by
    refine Classical.byContradiction fun hne => hdone fun j hj => ?_
    refine Classical.byContradiction fun h => hne ⟨j, hj, h⟩
   have hn := ok.hn
   have hready : ∃ j, j ∈ Region.ready .any ops.toArray listed := by
    obtain ⟨j, hj, hjl⟩ := hex
    have : ∀ d j, j = d → j < n → listed.getD j false ≠ true → ∃ j, j ∈ Region.ready .any ops.toArray listed := by
     intro d
     induction d using Nat.strongRecOn with
     | _ d ihd =>
      intro j hd hj hjl
      subst hd
      have ho : ops[j]? = some (ops[j]'(by omega)) := List.getElem?_eq_getElem _
      by_cases hall : ∀ e ∈ (ops[j]'(by omega)).after, Region.binds .any e = true → listed.getD e.on false = true
      ·refine ⟨j, mem_ready.2 ⟨?_, ops[j]'(by omega), by simp, hall⟩⟩
       have h2 : j < listed.size := by rw [M.size]; omega
       simp only [Array.getD, h2, dite_true] at hjl ⊢
       simpa using hjl
      ·have : ∃ e ∈ (ops[j]'(by omega)).after, Region.binds .any e = true ∧ listed.getD e.on false ≠ true := by
        refine Classical.byContradiction fun hne => hall fun e he hb => ?_
        refine Classical.byContradiction fun h => hne ⟨e, he, hb, h⟩
       obtain ⟨e, he, hb, hl⟩ := this
       have hlt := ok.down j _ e ho he hb
       exact ihd e.on hlt e.on rfl (by omega) hl
    exact this j j rfl hj hjl
   obtain ⟨j0, hj0⟩ := hready
   refine ⟨fun h0 => absurd hj0 (by rw [h0]; simp), fun i hi => ?_⟩
   obtain ⟨hun, o, ho, hall⟩ := mem_ready.1 hi
   have ho' : ops[i]? = some o := by simpa using ho
   have hilt : i < ops.length := (List.getElem?_eq_some_iff.1 ho').1
   have hin : i < n := by
    rcases Nat.lt_or_ge i n with h | h
    ·exact h
    ·exfalso
     apply hdone
     have key : ∀ d j, i - j = d → j < i → listed.getD j false = true := by
      intro d
      induction d using Nat.strongRecOn with
      | _ d ihd =>
       intro j hd hji
       obtain ⟨k, hk1, hk2, hk3⟩ := ok.tail i j hilt h hji
       rcases Nat.lt_or_ge k i with hki | hki
       ·exact M.clos k j (ihd (i - k) (by omega) k rfl hki) hk3
       ·have : k = i := by omega
        subst this
        exact dS hi hk3
     exact fun j hj => key _ j rfl (by omega)
   have hu' : unl (listed.setIfInBounds i true) = fuel := by have := xN hun; omega
   have hdi : aM ops i = o.dst := by unfold aM; rw [ho']; rfl
   have hlt' : iX N o.dst := by
    cases hd : o.dst with
    | none => trivial
    | some t => exact hlt i t hin (hdi.trans hd)
   let nxt : Value → Nat → Value := fun u j => if j = i then u else vs j
   have nxt_i : ∀ u, nxt u i = u := fun u => if_pos rfl
   have nxt_ne : ∀ u j, j ≠ i → nxt u j = vs j := fun u j h => if_neg h
   have rest : ∀ u w', R i u w' → Le i w w' → ∀ j, j < n → (listed.setIfInBounds i true).getD j false = true → R j (nxt u j) w' := by
    intro u w' hu hB j hj hl
    by_cases e : j = i
    ·subst e; rw [nxt_i]; exact hu
    ·rw [nxt_ne u j e]
     rw [getD_set_ne false (Ne.symm e)] at hl
     exact hS j i _ w w' hj hin e M.cls (MR j hj hl) hB
   have step : ∀ u w', C w' → Mid N C ops n (jA F.base l) (nxt u) (listed.setIfInBounds i true) (a.put o.dst u) w' := by
    intro u w' hC
    have hlt := hlt'
    have hset : ∀ j, (listed.setIfInBounds i true).getD j false = true → j = i ∨ listed.getD j false = true := by
     intro j h
     by_cases e : i = j
     ·exact .inl e.symm
     ·rw [getD_set_ne false e] at h; exact .inr h
    have hseti : (listed.setIfInBounds i true).getD i false = true := by
     have : i < listed.size := by rw [M.size]; exact hilt
     simp [this]
    refine ⟨by simpa using M.size, ?_, ?_, ?_, ?_, ?_, ?_, hC⟩
    ·intro k j hk he
     rcases hset k hk with rfl | hk
     ·exact getD_set_true (dS hi he)
     ·exact getD_set_true (M.clos k j hk he)
    ·intro k hk
     rcases hset k hk with rfl | hk
     ·exact hin
     ·exact M.heads k hk
    ·cases hd : o.dst <;> exact M.defers
    ·cases hd : o.dst with
     | none => exact M.tsize
     | some d => simp only [Act.put, Array.size_setIfInBounds]; exact M.tsize
    ·intro j t hj hjl hd
     rcases hset j hjl with rfl | hjl'
     ·rw [hdi] at hd
      rw [hd] at hlt ⊢
      simp only [Act.put]
      rw [Array.getElem?_setIfInBounds_self_of_lt (by rw [M.tsize]; exact hlt), nxt_i]
     ·by_cases e : j = i
      ·subst e
       rw [hdi] at hd
       rw [hd] at hlt ⊢
       simp only [Act.put]
       rw [Array.getElem?_setIfInBounds_self_of_lt (by rw [M.tsize]; exact hlt), nxt_i]
      ·rw [nxt_ne u j e]
       have h1 := M.new j t hj hjl' hd
       cases hdo : o.dst with
       | none => exact h1
       | some d =>
        have hne : d ≠ t := fun e' => e (uniq j i t hj hin hd (by rw [hdi, hdo, e']))
        simp only [Act.put]
        rw [Array.getElem?_setIfInBounds_ne hne]; exact h1
    ·intro t ht
     have h1 := M.old t (fun j hj hjl => ht j hj (getD_set_true hjl))
     have h2 := ht i hin hseti
     rw [hdi] at h2
     cases hdo : o.dst with
     | none => exact h1
     | some d =>
      have hne : d ≠ t := fun e' => h2 (by rw [hdo, e'])
      simp only [Act.put]
      rw [Array.getElem?_setIfInBounds_ne hne]; exact h1
   obtain ⟨b, hb, hbt, hbf⟩ := H i o hin ho' vs w M.cls fun j t hj hd ht => by
    obtain ⟨l1, -⟩ := ok.looks i o t hin ho' ht
    exact MR j (by omega) (dS hi (l1 j (by omega) hd).2)
   have hw : Region.wanted o (yielded ops.toArray a.tmps) = b := by
    unfold gd at hb
    split at hb
    ·rename_i hg; simp only [Region.wanted, hg]; exact hb
    ·rename_i g want hg
     split at hb
     ·rename_i d hd
      split at hb
      ·rename_i bb hbb
       have hdd : aM ops g = some d := by
        unfold aM
        simp only [dB, List.getElem?_map, Option.map_eq_some_iff] at hd
        obtain ⟨x, hx, hx'⟩ := hd
        simp [hx, hx']
       obtain ⟨X, hX1, hX2⟩ := slot listed a w vs i o d M hin ho' hi (iL hg hdd)
       rw [hbb] at hX2
       cases hX2
       have : yielded ops.toArray a.tmps g = some bb := by
        unfold yielded
        unfold aM at hdd
        simp only [List.getElem?_toArray, hdd, Option.bind_some, hX1]
       simp only [Region.wanted, hg, this]
       rw [← hb]
       cases bb <;> cases want <;> rfl
      ·rename_i bb hnb hbb
       have hdd : aM ops g = some d := by
        unfold aM
        simp only [dB, List.getElem?_map, Option.map_eq_some_iff] at hd
        obtain ⟨x, hx, hx'⟩ := hd
        simp [hx, hx']
       obtain ⟨X, hX1, hX2⟩ := slot listed a w vs i o d M hin ho' hi (iL hg hdd)
       rw [hbb] at hX2
       cases hX2
       have : yielded ops.toArray a.tmps g = none := by
        unfold yielded
        unfold aM at hdd
        simp only [List.getElem?_toArray, hdd, Option.bind_some, hX1]
        split
        ·rename_i b' e; cases e; exact (hnb b' rfl).elim
        ·rfl
       simp only [Region.wanted, hg, this]
       rw [← hb]
       rfl
      ·exact hb.elim
     ·exact hb.elim
   unfold wpOp
   simp only [ho, hw]
   cases b with
   | true =>
    simp only [if_true]
    refine .inl (kM ?_)
    have hcong : execOp a.eval o = execOp (evD (iG l ops vs i)) o := by
     refine execOp_congr o (ok.sel i o ho') (fun x hx => ?_)
     cases x with
     | tmp t =>
      obtain ⟨X, hX1, hX2⟩ := slot listed a w vs i o t M hin ho' hi (sS hx)
      simp [Act.eval, evD, ev, hX1, hX2]
     | const c => rfl
     | global g => rfl
     | func f => rfl
    rw [hcong]
    exact (hbt rfl).mono fun u w' ⟨hu, hC, hB⟩ => ih _ _ _ _ hu' (step u w' hC) (rest u w' hu hB)
   | false =>
    simp only [Bool.false_eq_true, if_false]
    exact ih _ _ _ _ hu' (step undef w M.cls) (rest undef w (hbf rfl) (hLe i w))
end
section
variable {P : Program} {N : Nat} {Q : qDr} {l : Env} {w : World}
theorem zJ5 {id : Nat} {ops : List Oper} (keys : List Nat) (n : Nat) (hm : P.follows .mixedOrders = true) (cM : uV l = keys) (hok : qCe keys ops n = true) (hlt : DLt N ops n)
  {C : World → Prop} {R : Nat → Value → World → Prop} (hC : C w.drew) {Le : Nat → World → World → Prop} (hLe : ∀ i w, Le i w w) (hS : ∀ j i u w w', j < n → i < n → j ≠ i → C w → R j u w → Le i w w' → R j u w')
  (H : ∀ i o, i < n → ops[i]? = some o → ∀ (vs : Nat → Value) (w : World), C w → (∀ j t, j < i → aM ops j = some t → t ∈ o.looksAt ops.toArray → R j (vs j) w) →
   ∃ b, gd (iG l ops vs i) (dB ops) o.guard (· = b) ∧ (b = true → Yields P (execOp (evD (iG l ops vs i)) o) w fun u w' => R i u w' ∧ C w' ∧ Le i w w') ∧ (b = false → R i undef w))
  (hT : ∀ (vs : Nat → Value) (w : World), C w → (∀ j, j < n → R j (vs j) w) → VC P N (dB ops) (fun l' w' => Q .normal l' w') (ops.drop n) (iG l ops vs n) w) : W P N (.region id ops.toArray true) Q l w := fun hk F => by
 have ok := qA8 hok
 refine wp_region_any hm ?_
 have := zEy ok F hk (fun t ht => xY (by rw [cM]; exact ht)) hlt hLe hS H (Q := zKw N Q)
  (fun vs w' hw' hR => tS F (K := fun l w => Q .normal l w) (fun l' w' hk' hK => ⟨F, l', rfl, hk', hK⟩) _ _ _ (qEj hlt hk n (Nat.le_refl _)) (hT vs w' hw' hR))
  ops.length (Array.replicate ops.length false) (mk F l) w.drew (fun _ => undef) (rP _)
  ⟨by simp, (fun i j hi => by rw [getD_replicate_false] at hi; cases hi), (fun i hi => by rw [getD_replicate_false] at hi; cases hi), rfl, by simp [mk, lN, F.hN], (fun j t _ hl => by rw [getD_replicate_false] at hl; cases hl), fun t _ => rfl, hC⟩
  (fun j _ hl => by rw [getD_replicate_false] at hl; cases hl)
 simpa using this
theorem zJ4 {id : Nat} {ops : List Oper} (keys : List Nat) (n : Nat) (hm : P.follows .mixedOrders = true) (cM : uV l = keys) (hok : qCe keys ops n = true) (hlt : DLt N ops n)
  {C : World → Prop} {R : Nat → Value → World → Prop} (hC : C w.drew) (hS : ∀ i u w w', C w → R i u w → Below w.heap.size w w' → R i u w')
  (H : ∀ i o, i < n → ops[i]? = some o → ∀ (vs : Nat → Value) (w : World), C w → (∀ j t, j < i → aM ops j = some t → t ∈ o.looksAt ops.toArray → R j (vs j) w) →
   ∃ b, gd (iG l ops vs i) (dB ops) o.guard (· = b) ∧ (b = true → Yields P (execOp (evD (iG l ops vs i)) o) w fun u w' => R i u w' ∧ C w' ∧ Below w.heap.size w w') ∧ (b = false → R i undef w))
  (hT : ∀ (vs : Nat → Value) (w : World), C w → (∀ j, j < n → R j (vs j) w) → VC P N (dB ops) (fun l' w' => Q .normal l' w') (ops.drop n) (iG l ops vs n) w) : W P N (.region id ops.toArray true) Q l w :=
 zJ5 keys n hm cM hok hlt hC (Le := fun _ w w' => Below w.heap.size w w') (fun _ w => Below.refl _ _) (fun j _ u w w' _ _ _ hc hr hb => hS j u w w' hc hr hb) H hT
end
end Go.Eng
end

section
set_option linter.unusedSimpArgs false
set_option linter.unusedVariables false
namespace Go.Eng
open Go Go.RowKit

def bX : Operand → List Nat
 | .tmp t => [t]
 | _ => []
def tX : List Operand → List Nat
 | [] => []
 | x :: r => bX x ++ tX r
def oT : List (Nat × Operand) → List Nat
 | [] => []
 | (_, x) :: r => bX x ++ oT r
def qE4 : Option Operand → List Nat
 | some x => bX x
 | none => []
def qHa : Callee → List Nat
 | .value x => bX x
 | _ => []
def bU : Op → List Nat
 | .move x => bX x
 | .assign x => bX x
 | .nilCheck x => bX x
 | .pick c a b => bX c ++ (bX a ++ bX b)
 | .extract x _ => bX x
 | .field _ x _ => bX x
 | .fieldAddr _ x _ => bX x
 | .load _ x => bX x
 | .unOp _ _ x => bX x
 | .convert _ _ x => bX x
 | .indexAddr _ x i => bX x ++ bX i
 | .index _ x i => bX x ++ bX i
 | .slice _ x l h none => bX x ++ (qE4 l ++ qE4 h)
 | .binOp _ _ x y _ => bX x ++ bX y
 | .build _ ps => oT ps.toList
 | .buildSlice _ _ ps => oT ps.toList
 | .makeSlice _ x y => bX x ++ bX y
 | .call ⟨k, args, _⟩ => qHa k ++ tX args.toList
 | _ => []
theorem gS {x : Operand} {t : Nat} (h : t ∈ bX x) : x = .tmp t := by
 cases x <;> simp [bX] at h
 subst h; rfl
theorem qG9 : ∀ {l : List Operand} {t : Nat}, t ∈ tX l → Operand.tmp t ∈ l
 | [], t, h => by simp [tX] at h
 | x :: r, t, h => by
  simp only [tX, List.mem_append] at h
  rcases h with h | h
  ·rw [gS h]; exact List.mem_cons_self ..
  ·exact List.mem_cons_of_mem _ (qG9 h)
theorem qA6 : ∀ {l : List (Nat × Operand)} {t : Nat}, t ∈ oT l → Operand.tmp t ∈ l.map (·.2)
 | [], t, h => by simp [oT] at h
 | (k, x) :: r, t, h => by
  simp only [oT, List.mem_append] at h
  rcases h with h | h
  ·rw [List.map_cons, gS h]; exact List.mem_cons_self ..
  ·rw [List.map_cons]; exact List.mem_cons_of_mem _ (qA6 h)
theorem qN1 {x : Option Operand} {t : Nat} (h : t ∈ qE4 x) : x = some (.tmp t) := by
 cases x with
 | none => simp [qE4] at h
 | some x => rw [gS h]
theorem qT5 {o : Op} {t : Nat} (h : t ∈ bU o) : Operand.tmp t ∈ o.operands := by
 unfold bU at h
 split at h
 all_goals try simp only [List.mem_append] at h
 case h_13 => 
  simp only [Op.operands]
  rcases h with h | h | h
  ·rw [gS h]; simp
  ·rw [qN1 h]; simp
  ·rw [qN1 h]; simp
 case h_15 => simpa [Op.operands] using qA6 h
 case h_16 => simpa [Op.operands] using qA6 h
 case h_18 =>
  simp only [Op.operands, Call.operands, Array.mem_append]
  rcases h with h | h
  ·refine .inl ?_
   unfold qHa at h
   split at h
   ·rw [gS h]; simp
   ·simp at h
  ·exact .inr (by simpa using qG9 h)
 case h_19 => simp at h
 all_goals
  simp only [Op.operands]
  first
  | (rw [gS h]; simp; done)
  | (rcases h with h | h <;> (rw [gS h]; simp))
  | (rcases h with h | h | h <;> (rw [gS h]; simp))
def gV (ds : List (Option Nat)) : Option (Nat × Bool) → List Nat
 | none => []
 | some (g, _) => match ds[g]? with
  | some (some d) => [d]
  | _ => []
def jG (e : aL) : List Nat → aL
 | [] => []
 | t :: r => match hlk e t with
  | some h => (t, h) :: jG e r
  | none => jG e r
theorem sK {e : aL} : ∀ {l : List Nat} {t : Nat} {h : HV}, hlk (jG e l) t = some h → t ∈ l ∧ hlk e t = some h
 | [], t, h, hh => by simp [jG, hlk] at hh
 | k :: r, t, h, hh => by
  simp only [jG] at hh
  split at hh
  ·rename_i x hx
   simp only [hlk] at hh
   by_cases ek : k = t
   ·subst ek; rw [if_pos rfl] at hh; exact ⟨List.mem_cons_self .., by rw [hx]; exact hh⟩
   ·rw [if_neg ek] at hh
    obtain ⟨a, b⟩ := sK hh
    exact ⟨List.mem_cons_of_mem _ a, b⟩
  ·obtain ⟨a, b⟩ := sK hh
   exact ⟨List.mem_cons_of_mem _ a, b⟩
def zFg (P : Program) (f : FuncId) (args : List HV) (T : HS) (K : HV → Prop) : Prop :=
 aF P f = true ∧ ∃ h, K h ∧ ∀ (c : Ctx) (look : Nat → Option Value) (w : World) (ρ : Nat → Value) (xs : Nat → List Value) (vs : List Value), Good c T look w ρ xs → tU w (c.A ρ T.st) c.n0 ρ vs args →
  Calls P f vs.toArray w (Ret fun u w' => RepH w' (c.A ρ T.st) c.n0 ρ u h ∧ Below w.heap.size w w')
def lR : aL → Bool
 | [] => true
 | (_, .v _) :: r => lR r
 | (_, .lst _ _) :: r => lR r
 | (_, .agg _) :: r => lR r
 | _ => false
def zC3 (d : Option Nat) (S : HS) (K : HS → Prop) : HOut → Prop
 | .go c (.own i) S' => match rlk S'.st i with
  | some (.sl _ _ _ els) => c ∧ K (S.set d (.lst true els))
  | _ => False
 | _ => False
def zG6 : Op → Bool
 | .buildSlice .. => true
 | .makeSlice .. => true
 | _ => false
def qAk (P : Program) (o : Oper) (S T : HS) (K : HS → Prop) : HOut → Prop
 | .go c h _ => match dL o.op with
  | true => c ∧ K (S.set o.dst h)
  | false => match zG6 o.op && lR T.env with
   | true => zC3 o.dst S K (hop P ⟨T.env, []⟩ (qR o.dst) o.op)
   | false => False
 | .call f args => zFg P f args T (fun x => kK K (S.set o.dst x))
 | .eqn t x y neg => ∃ r, EqR P t x.toArray y.toArray r ∧ kK K (S.set o.dst (.v (.bool (neg ^^ r))))
 | .bytes _ _ => False
 | .bad => False
def qZk (P : Program) (N : Nat) (o : Oper) (S T : HS) (K : HS → Prop) : Prop := match gG N o.dst with
 | true => qAk P o S T K (hop P T (qR o.dst) o.op)
 | false => False
def iQ (P : Program) (N : Nat) (o : Oper) (S T : HS) (K : HS → Prop) : GOut → Prop
 | .yes => qZk P N o S T K
 | .no => lG N o.dst S K
 | .ask d b want => match b == want with
  | true => qZk P N o (S.rep d (.v (.bool want))) (T.rep d (.v (.bool want))) K
  | false => lG N o.dst (S.rep d (.v (.bool (!want)))) K
 | .bad => False
def HVr (P : Program) (N : Nat) (ds : List (Option Nat)) (K : HS → Prop) : List Oper → HS → Prop
 | [], S => K S
 | o :: rest, S => iQ P N o S ⟨jG S.env (gV ds o.guard ++ bU o.op), S.st⟩ (HVr P N ds K rest) (hG (jG S.env (gV ds o.guard ++ bU o.op)) ds o.guard)
end Go.Eng
end

section
set_option linter.unusedSimpArgs false
set_option linter.unusedVariables false
namespace Go.Eng
open Go Go.RowKit
section
variable {P : Program} {N : Nat} {c : Ctx} {S T : HS} {Q : eY} {l : Env} {look : Nat → Option Value} {w w' : World} {ρ : Nat → Value} {xs : Nat → List Value} {K : HS → Prop}
theorem RepH.above {A : Nat → Prop} {n0 : Nat} {v : Value} {x : HV} (h : RepH w A n0 ρ v x) (B : Below w.heap.size w w') : RepH w' A n0 ρ v x := h.up B.size (fun b hlt _ => B.block b hlt) (fun b _ h => h) (Nat.le_refl _)
theorem lU {d : Nat} {h : HV} : ∀ {E : aL}, hlk E d = some h → ∀ k, hlk (uJ d h E) k = hlk E k
 | [], e, k => by simp [hlk] at e
 | (j, x) :: r, e, k => by
  simp only [hlk] at e
  simp only [uJ]
  by_cases ej : j = d
  ·rw [if_pos ej] at e ⊢
   simp only [Option.some.injEq] at e
   subst e; rfl
  ·rw [if_neg ej] at e ⊢
   simp only [hlk, lU e k]
theorem Good.sameEnv {E : aL} {st : aD} (G : Good c ⟨E, st⟩ look w ρ xs) {E' : aL} (h : ∀ k, hlk E' k = hlk E k) : Good c ⟨E', st⟩ look w ρ xs := ⟨G.rows, G.apart, fun k x hk => G.env k x (by rw [← h k]; exact hk), G.kept, G.a0⟩
theorem qX0 (G : Good c T (lk l) w ρ xs) {id i : Nat} {o : Op} {ty : TypeId} {cnd : Prop} {S' : HS} (hp : lR T.env = true) (h : hop P ⟨T.env, []⟩ id o = .go cnd (.own i) S') {nw : Bool} {t sz : Nat} {els : List (List FV)} (hr : rlk S'.st i = some (.sl nw t sz els)) (hc : cnd) :
  aW P l o ty w (fun u w' => RepH w' (c.A ρ T.st) c.n0 ρ u (.lst true els) ∧ Below w.heap.size w w') (fun u w' => RepH w' (c.A ρ T.st) c.n0 ρ u (.lst true els) ∧ Below w.heap.size w w') := by
 have hA : ∀ b, c.A ρ T.st b → b < w.heap.size := by
  rintro b (h0 | ⟨i, r, hi, hb⟩)
  ·have := (G.a0 b h0).1; have := G.kept.size; omega
  ·exact G.lt hi hb
 have G2 : Good ⟨w, fun _ => False, c.A ρ T.st, c.n0, Nat.le_trans c.hn G.kept.size, fun _ _ => False⟩ ⟨T.env, []⟩ (lk l) w ρ xs := by
  refine ⟨fun id r hr => by simp [rlk] at hr, fun i j r s b hne hi => by simp [rlk] at hi, fun k x hk => ?_, Kept.refl _ _, fun b hb => ⟨hA b hb, fun h => h⟩⟩
  obtain ⟨u, h1, h2⟩ := G.env k _ hk
  refine ⟨u, h1, h2.up (Nat.le_refl _) (fun _ _ _ => rfl) (fun b _ hb => ?_) (Nat.le_refl _)⟩
  rcases hb with hb | ⟨i, r, hi, -⟩
  ·exact hb
  ·simp [rlk] at hi
 refine aZ (qNw G2 (dC _ _) h hc) fun u w' ⟨ρ2, xs2, G3, r⟩ => ?_
 have B : Below w.heap.size w w' := G3.kept.below (fun _ _ h => h)
 refine ⟨?_, B⟩
 cases r
 obtain ⟨o1, o2, o3⟩ := cX G3 hr
 have R0 := G3.rows i _ hr
 refine .lst (qGg o1 o2 (fun p k hp hk => ?_) (fun b hb => ?_))
 ·obtain ⟨u, a, b, d⟩ := o3 p k hp hk
  exact ⟨u, a, b, d.up (Nat.le_refl _) (fun _ _ _ => rfl) (fun b _ h => .inl h) (Nat.le_refl _)⟩
 ·rcases (R0.new b hb).1 with h | h
  ·have h : w.heap.size ≤ b := h
   exact ⟨fun hA' => by have := hA b hA'; omega, fun _ => by have := c.hn; have := G.kept.size; omega⟩
  ·exact h.elim
theorem qAj {o : Oper} (h : qZk P N o S T K) : iX N o.dst ∧ ∃ x, K (S.set o.dst x) ∧ ∀ (c : Ctx) (l : Env) (w : World) (ρ : Nat → Value) (xs : Nat → List Value), Good c T (lk l) w ρ xs →
  aW P l o.op o.type w (fun u w' => RepH w' (c.A ρ T.st) c.n0 ρ u x ∧ Below w.heap.size w w') (fun u w' => RepH w' (c.A ρ T.st) c.n0 ρ u x ∧ Below w.heap.size w w') := by
 unfold qZk at h
 split at h
 ·rename_i hd
  refine ⟨lD hd, ?_⟩
  cases ho : hop P T (qR o.dst) o.op with
  | go c' hv S' =>
   rw [ho] at h
   unfold qAk at h
   dsimp only at h
   split at h
   ·rename_i hq
    obtain ⟨h0, h1⟩ := h
    refine ⟨hv, h1, fun c l w ρ xs G => ?_⟩
    obtain ⟨v, hK, hv'⟩ := zFl (ty := o.type) (qG2 (ty := 0) G (dC _ _) ho hq h0)
    exact aZ (hv' w (Below.refl _ _)) fun u w' ⟨e, B⟩ => by subst e; exact ⟨hK.2.2.above B, B⟩
   ·split at h
    ·rename_i hm
     simp only [Bool.and_eq_true] at hm
     unfold zC3 at h
     split at h
     ·rename_i c2 i S2 hm2
      split at h
      ·rename_i nw t sz els hr
       exact ⟨_, h.2, fun c l w ρ xs G => qX0 G hm.2 hm2 hr h.1⟩
      ·exact h.elim
     ·exact h.elim
    ·exact h.elim
  | call f args =>
   rw [ho] at h
   obtain ⟨hf, x, hK, hc⟩ := h
   refine ⟨x, hK, fun c l w ρ xs G => ?_⟩
   obtain ⟨y, as, ats, e, hfn, has⟩ := qC1 ho
   rw [e]
   obtain ⟨vs, e1, e2, e3⟩ := G.evs (dC _ _) has
   unfold aW
   simp only [aG, bY, e1, G.fn (dC _ _) hfn]
   exact ⟨hf, hc c (lk l) w ρ xs vs G ⟨e2, e3⟩⟩
  | eqn t x y neg =>
   rw [ho] at h
   obtain ⟨r, h1, h2⟩ := h
   refine ⟨_, h2, fun c l w ρ xs G => ?_⟩
   exact aZ (qG3 G (dC _ l) ho h1) fun v w' ⟨e, _, r⟩ => by subst e; exact ⟨r, Below.refl _ _⟩
  | bytes ok s => rw [ho] at h; exact h.elim
  | bad => rw [ho] at h; exact h.elim
 ·exact h.elim
def FrOk (ops : List Oper) (E0 : aL) (hs : Nat → HV) (i : Nat) (E : aL) : Prop := ∀ t h, hlk E t = some h → (∃ j, j < i ∧ aM ops j = some t ∧ hs j = h) ∨ ((∀ j, j < i → aM ops j ≠ some t) ∧ hlk E0 t = some h)
theorem FrOk.congr {ops : List Oper} {E0 E : aL} {hs hs' : Nat → HV} {i : Nat} (h : FrOk ops E0 hs i E) (he : ∀ j, j < i → hs' j = hs j) : FrOk ops E0 hs' i E := fun t x hx => by
 rcases h t x hx with ⟨j, a, b, d⟩ | r
 ·exact .inl ⟨j, a, b, by rw [he j a]; exact d⟩
 ·exact .inr r
theorem FrOk.env {ops : List Oper} {E0 E E' : aL} {hs : Nat → HV} {i : Nat} (h : FrOk ops E0 hs i E) (he : ∀ t x, hlk E' t = some x → hlk E t = some x) : FrOk ops E0 hs i E' := fun t x hx => h t x (he t x hx)
theorem FrOk.set {ops : List Oper} {E0 : aL} {hs : Nat → HV} {i : Nat} {S : HS} (h : FrOk ops E0 hs i S.env) {o : Oper} (ho : ops[i]? = some o) : FrOk ops E0 hs (i + 1) (S.set o.dst (hs i)).env := by
 have hd : aM ops i = o.dst := by unfold aM; rw [ho]; rfl
 intro t x hx
 cases e : o.dst with
 | none =>
  rw [e] at hx hd
  rcases h t x hx with ⟨j, a, b, d⟩ | ⟨a, b⟩
  ·exact .inl ⟨j, by omega, b, d⟩
  ·refine .inr ⟨fun j hj => ?_, b⟩
   by_cases ej : j = i
   ·subst ej; rw [hd]; simp
   ·exact a j (by omega)
 | some d =>
  rw [e] at hx hd
  simp only [HS.set, hlk] at hx
  by_cases et : d = t
  ·rw [if_pos et] at hx
   simp only [Option.some.injEq] at hx
   exact .inl ⟨i, by omega, by rw [hd, et], hx⟩
  ·rw [if_neg et] at hx
   rcases h t x hx with ⟨j, a, b, d'⟩ | ⟨a, b⟩
   ·exact .inl ⟨j, by omega, b, d'⟩
   ·refine .inr ⟨fun j hj => ?_, b⟩
    by_cases ej : j = i
    ·subst ej; rw [hd]; simpa using et
    ·exact a j (by omega)
structure HeadOk (P : Program) (N : Nat) (ops : List Oper) (E0 : aL) (st : aD) (hs : Nat → HV) (i : Nat) (o : Oper) : Prop where
 lt : iX N o.dst
 head : ∃ T : aL, FrOk ops E0 hs i T ∧ (∀ t h, hlk T t = some h → t ∈ gV (dB ops) o.guard ++ bU o.op) ∧ ∀ (c : Ctx) (l : Env) (w : World) (ρ : Nat → Value) (xs : Nat → List Value), Good c ⟨T, st⟩ (lk l) w ρ xs →
  ∃ b, gd l (dB ops) o.guard (· = b) ∧ (b = true → aW P l o.op o.type w (fun u w' => RepH w' (c.A ρ st) c.n0 ρ u (hs i) ∧ Below w.heap.size w w') (fun u w' => RepH w' (c.A ρ st) c.n0 ρ u (hs i) ∧ Below w.heap.size w w')) ∧ (b = false → hs i = .v undef)
theorem uS {d : Option Nat} (h : lG N d S K) : iX N d ∧ K (S.set d (.v undef)) := by
 unfold lG at h
 split at h
 ·rename_i hd; exact ⟨lD hd, h⟩
 ·exact h.elim
theorem qR9 {ops : List Oper} {E0 : aL} {st : aD} : ∀ (rest : List Oper) (i : Nat) (S : HS) (hs0 : Nat → HV), (∀ k o, rest[k]? = some o → ops[i + k]? = some o) → S.st = st → FrOk ops E0 hs0 i S.env → HVr P N (dB ops) K rest S →
  ∃ hs, (∀ j, j < i → hs j = hs0 j) ∧ (∀ k o, rest[k]? = some o → HeadOk P N ops E0 st hs (i + k) o) ∧ ∃ S', S'.st = st ∧ FrOk ops E0 hs (i + rest.length) S'.env ∧ K S'
 | [], i, S, hs0, hops, hst, F, h => ⟨hs0, fun _ _ => rfl, fun k o hk => by simp at hk, S, hst, F, h⟩
 | o :: rest, i, S, hs0, hops, hst, F, h => by
  have hoi : ops[i]? = some o := hops 0 o (by simp)
  rw [HVr] at h
  generalize hT : jG S.env (gV (dB ops) o.guard ++ bU o.op) = T at h
  have TF : ∀ t x, hlk T t = some x → t ∈ gV (dB ops) o.guard ++ bU o.op ∧ hlk S.env t = some x := fun t x hx => by subst hT; exact sK hx
  have key : ∀ (S1 : HS) (x : HV), S1.st = st → FrOk ops E0 hs0 i S1.env → HVr P N (dB ops) K rest (S1.set o.dst x) → iX N o.dst →
    (∀ (c : Ctx) (l : Env) (w : World) (ρ : Nat → Value) (xs : Nat → List Value), Good c ⟨T, st⟩ (lk l) w ρ xs →
     ∃ b, gd l (dB ops) o.guard (· = b) ∧ (b = true → aW P l o.op o.type w (fun u w' => RepH w' (c.A ρ st) c.n0 ρ u x ∧ Below w.heap.size w w') (fun u w' => RepH w' (c.A ρ st) c.n0 ρ u x ∧ Below w.heap.size w w')) ∧ (b = false → x = .v undef)) →
    ∃ hs, (∀ j, j < i → hs j = hs0 j) ∧ (∀ k o', (o :: rest)[k]? = some o' → HeadOk P N ops E0 st hs (i + k) o') ∧ ∃ S', S'.st = st ∧ FrOk ops E0 hs (i + (o :: rest).length) S'.env ∧ K S' := by
   intro S1 x hst1 F1 hK hlt hrun
   let hs1 : Nat → HV := fun j => if j = i then x else hs0 j
   have e1 : hs1 i = x := if_pos rfl
   have e2 : ∀ j, j < i → hs1 j = hs0 j := fun j hj => if_neg (by omega)
   have F2 : FrOk ops E0 hs1 (i + 1) (S1.set o.dst x).env := by
    have := (F1.congr e2).set hoi
    rw [e1] at this; exact this
   obtain ⟨hs, a, b, S', d, e, f⟩ := qR9 rest (i + 1) (S1.set o.dst x) hs1 (fun k o' hk => by
    have := hops (k + 1) o' (by simpa using hk)
    rw [show i + 1 + k = i + (k + 1) by omega]; exact this) (by cases o.dst <;> exact hst1) F2 hK
   have ei : hs i = x := by rw [a i (by omega), e1]
   have ej : ∀ j, j < i → hs j = hs0 j := fun j hj => by rw [a j (by omega), e2 j hj]
   refine ⟨hs, ej, fun k o' hk => ?_, S', d, ?_, f⟩
   ·cases k with
    | zero =>
     simp only [List.getElem?_cons_zero, Option.some.injEq] at hk
     subst hk
     exact ⟨hlt, T, (F.congr ej).env (fun t x hx => (TF t x hx).2), fun t x hx => (TF t x hx).1, by rw [Nat.add_zero, ei]; exact hrun⟩
    | succ k =>
     have := b k o' (by simpa using hk)
     rw [show i + 1 + k = i + (k + 1) by omega] at this; exact this
   ·rw [List.length_cons, show i + (rest.length + 1) = i + 1 + rest.length by omega]; exact e
  cases hg : hG T (dB ops) o.guard with
  | yes =>
   rw [hg] at h
   obtain ⟨hlt, x, hK, hv⟩ := qAj h
   refine key S x hst F hK hlt fun c l w ρ xs G => ⟨true, qS8 (S := ⟨T, st⟩) hg rfl, fun _ => ?_, fun e => by cases e⟩
   have := hv c l w ρ xs (by rw [hst]; exact G)
   rw [hst] at this; exact this
  | no =>
   rw [hg] at h
   obtain ⟨hlt, hK⟩ := uS h
   exact key S _ hst F hK hlt fun c l w ρ xs G => ⟨false, zBt (S := ⟨T, st⟩) ⟨ρ, xs, G⟩ hg rfl, fun e => (by cases e), fun _ => rfl⟩
  | ask d b want =>
   rw [hg] at h
   obtain ⟨j, hj, hd, hb⟩ := qY3 (S := ⟨T, st⟩) hg
   have hbS := (TF d _ hb).2
   simp only [iQ] at h
   split at h
   ·rename_i e
    have e' : b = want := by simpa using e
    subst e'
    obtain ⟨hlt, x, hK, hv⟩ := qAj h
    refine key (S.rep d (.v (.bool b))) x hst (F.env fun t x hx => by rw [← lU hbS t]; exact hx) hK hlt fun c l w ρ xs G => ⟨true, (wS (S := ⟨T, st⟩) ⟨ρ, xs, G⟩ hg (k := (· = true)) e).1, fun _ => ?_, fun e => by cases e⟩
    have := hv c l w ρ xs (by rw [hst]; exact G.sameEnv (lU hb))
    simp only [HS.rep] at this
    rw [hst] at this; exact this
   ·rename_i e
    have e' : b = !want := by cases b <;> cases want <;> simp_all
    subst e'
    obtain ⟨hlt, hK⟩ := uS h
    exact key (S.rep d (.v (.bool (!want)))) _ hst (F.env fun t x hx => by rw [← lU hbS t]; exact hx) hK hlt fun c l w ρ xs G => ⟨false, (wS (S := ⟨T, st⟩) ⟨ρ, xs, G⟩ hg (k := (· = false)) e).1, fun e => (by cases e), fun _ => rfl⟩
  | bad => rw [hg] at h; exact h.elim
end
end Go.Eng
end

section
set_option linter.unusedSimpArgs false
set_option linter.unusedVariables false
namespace Go.Eng
open Go Go.RowKit
section
variable {P : Program} {N : Nat} {c : Ctx} {S T : HS} {Q : eY} {l : Env} {look : Nat → Option Value} {w w' : World} {ρ : Nat → Value} {xs : Nat → List Value} {K : HS → Prop}
theorem wF {ops : List Oper} {o : Oper} {t : Nat} (h : t ∈ gV (dB ops) o.guard ++ bU o.op) : t ∈ o.looksAt ops.toArray := by
 rcases List.mem_append.1 h with h | h
 ·cases hg : o.guard with
  | none => rw [hg] at h; simp [gV] at h
  | some p =>
   obtain ⟨g, b⟩ := p
   rw [hg] at h
   simp only [gV] at h
   split at h
   ·rename_i d hd
    simp only [List.mem_singleton] at h
    subst h
    refine iL hg ?_
    unfold aM
    simp only [dB, List.getElem?_map, Option.map_eq_some_iff] at hd
    obtain ⟨x, hx, hx'⟩ := hd
    simp [hx, hx']
   ·simp at h
 ·exact sS (qT5 h)
theorem yY {x : HV} {k : Nat} : ∀ {e : aL}, hlk e k = some x → k ∈ cM e
 | [], h => by simp [hlk] at h
 | (j, y) :: r, h => by
  simp only [hlk] at h
  by_cases ej : j = k
  ·simp [cM, ej]
  ·rw [if_neg ej] at h
   have := yY h
   simp only [cM, List.map_cons, List.mem_cons]
   exact .inr this
theorem zL0 {id : Nat} {ops : List Oper} (n : Nat) (hm : P.follows .mixedOrders = true) (hok : qCe (cM S.env) ops n = true)
  (h : ∀ K : HS → Prop, (∀ S', Q .normal S' → K S') → HVr P N (dB ops) (fun S' => kK (HV2 P N (dB ops) K (ops.drop n)) S') (ops.take n) S) : HW P N (.region id ops.toArray true) Q S := fun c l w I => by
 have hks : ∀ k ∈ cM S.env, ∃ v, lk l k = some v := fun k hk => by
  obtain ⟨x, hx⟩ := tC hk
  obtain ⟨ρ, xs, G⟩ := I
  obtain ⟨v, h1, -⟩ := G.env k x hx
  exact ⟨v, h1⟩
 refine qEm (cM S.env) ?_
 have I' : Inv c S (lk (keep (cM S.env) l)) w := I.agree fun k x hk => xZ (yY hk)
 have hkk : uV (keep (cM S.env) l) = cM S.env := uG hks
 generalize keep (cM S.env) l = l' at I' hkk
 obtain ⟨ρ, xs, G⟩ := I'
 have ok := qA8 hok
 have hlen : (ops.take n).length = n := by rw [List.length_take]; have := ok.hn; omega
 have get_take : ∀ {i : Nat} {o : Oper}, (ops.take n)[i]? = some o → i < n ∧ ops[i]? = some o := fun {i o} h => by
  have hi := (List.getElem?_eq_some_iff.1 h).1
  rw [hlen] at hi
  rw [List.getElem?_take_of_lt hi] at h
  exact ⟨hi, h⟩
 obtain ⟨hs, -, heads, S1, e1, F1, h1⟩ := qR9 (E0 := S.env) (st := S.st) (ops.take n) 0 S (fun _ => .junk) (fun k o hk => by rw [Nat.zero_add]; exact (get_take hk).2) rfl (fun t x hx => .inr ⟨fun j hj => absurd hj (Nat.not_lt_zero _), hx⟩) (h (Q .normal) fun _ h => h)
 rw [hlen, Nat.zero_add] at F1
 have head : ∀ i o, i < n → ops[i]? = some o → HeadOk P N ops S.env S.st hs i o := fun i o hi ho => by
  have := heads i o (by rw [List.getElem?_take_of_lt hi]; exact ho)
  rw [Nat.zero_add] at this; exact this
 have uniq : ∀ i j t, i < n → j < n → aM ops i = some t → aM ops j = some t → i = j := by
  intro i j t hi hj h1 h2
  rcases Nat.lt_trichotomy i j with h | h | h
  ·rcases ok.uniq j i hj h with e | e
   ·rw [h2] at e; cases e
   ·exact absurd (h2.trans h1.symm) e
  ·exact h
  ·rcases ok.uniq i j hi h with e | e
   ·rw [h1] at e; cases e
   ·exact absurd (h1.trans h2.symm) e
 have hlt : DLt N ops n := fun i t hi hd => by
  obtain ⟨o, ho, hod⟩ := uM hd
  have := (head i o hi ho).lt
  rw [hod] at this; exact this
 -- what a frame of the heads' names reads
 have frame : ∀ (vs : Nat → Value) (w' : World) (i : Nat) (E : aL), i ≤ n → Below w.heap.size w w' → FrOk ops S.env hs i E →
   (∀ j t x, j < i → aM ops j = some t → hlk E t = some x → RepH w' (c.A ρ S.st) c.n0 ρ (vs j) (hs j)) → Good c ⟨E, S.st⟩ (lk (iG l' ops vs i)) w' ρ xs := fun vs w' i E hi hB F hv => by
  have GB := G.below hB
  refine ⟨GB.rows, GB.apart, fun k x hk => ?_, GB.kept, GB.a0⟩
  rcases F k x hk with ⟨j, a, b, d⟩ | ⟨a, b⟩
  ·refine ⟨vs j, (lC (l := l') (vs := vs) hlt (base := Array.replicate N undef) (by simp) b (fun q hq hne e => hne (uniq q j k hq (by omega) e b)) i hi a).1, ?_⟩
   rw [← d]; exact hv j k x a b hk
  ·obtain ⟨v, v1, v2⟩ := GB.env k x b
   exact ⟨v, by rw [(nB (l := l') (vs := vs) #[] k i a).1]; exact v1, v2⟩
 refine zJ4 (cM S.env) n hm hkk hok hlt (C := fun w' => Below w.heap.size w w') (R := fun j u w' => RepH w' (c.A ρ S.st) c.n0 ρ u (hs j)) (Below.refl _ _).drew (fun i u w1 w2 _ hr hB => hr.above hB) ?_ ?_
 ·intro i o hi ho vs w1 hC hR
  obtain ⟨T, TF, TS, run⟩ := (head i o hi ho).head
  have GT : Good c ⟨T, S.st⟩ (lk (iG l' ops vs i)) w1 ρ xs := frame vs w1 i T (by omega) hC TF fun j t x hj hd hx => hR j t hj hd (wF (TS t x hx))
  obtain ⟨b, b1, b2, b3⟩ := run c _ w1 ρ xs GT
  refine ⟨b, b1, fun hb => ?_, fun hb => ?_⟩
  ·exact (qS (fun x X hx => by simp [evD, hx]) (b2 hb)).mono fun u w2 ⟨hu, hB⟩ => ⟨hu, hC.trans (hB.mono hC.size), hB⟩
  ·rw [b3 hb]; exact .v _
 ·intro vs w1 hC hR
  obtain ⟨E1, st1⟩ := S1
  have e1 : st1 = S.st := e1
  subst e1
  have G1 := frame vs w1 n E1 (Nat.le_refl _) hC F1 fun j t x hj _ _ => hR j hj
  exact HW_drw.V2.mono' (xJ _ _ _ _ h1 ⟨ρ, xs, G1⟩) fun l2 w2 h2 => h2
theorem zRl {f : FuncId} {args args' : List HV} {x : HV} {K : HV → Prop} (hc : aF P f = true) (H : HFun P f args' (fun h st => h = x ∧ st = [])) (hf : FreshH x) (hn : ∀ ρ ρ' : Nat → Value, ∀ (w : World) (A : Nat → Prop) (n : Nat) (v : Value), RepH w A n ρ v x → RepH w A n ρ' v x) (hl : Lends T.st args args') (hK : K x) : zFg P f args T K :=
 ⟨hc, x, hK, fun c look w ρ xs vs G R => Ret.mono (H w vs (kB G R hl)) fun v w' ⟨B, h, st, h8, ⟨e1, e2⟩, ρ', xs', G', hr⟩ => ⟨by
  subst e1; subst e2
  have hw : c.n0 ≤ w.heap.size := Nat.le_trans c.hn G.kept.size
  refine hn ρ' ρ _ _ _ _ (hr.up (Nat.le_refl _) (fun _ _ _ => rfl) (fun b _ hA => ?_) hw)
  left
  show b < w.heap.size
  rcases hA with h0 | ⟨i, r, hi, hb⟩
  ·have := (G.a0 b h0).1; have := G.kept.size; omega
  ·exact G.lt hi hb, B⟩⟩
theorem qQ2 {f : FuncId} {args args' : List HV} {x : Value} {K : HV → Prop} (hc : aF P f = true) (H : HFun P f args' (fun h st => h = .v x)) (hl : Lends T.st args args') (hK : K (.v x)) : zFg P f args T K :=
 ⟨hc, .v x, hK, fun c look w ρ xs vs G R => Ret.mono (H w vs (kB G R hl)) fun v w' ⟨B, h, st, h8, q, ρ', xs', G', hr⟩ => ⟨by subst q; have := cC hr; subst this; exact .v _, B⟩⟩
end
end Go.Eng
end

section
set_option linter.unusedSimpArgs false
set_option linter.unusedVariables false
namespace Go.Eng
open Go Go.RowKit
section
variable {P : Program} {T : HS}
end
end Go.Eng
end

section
set_option linter.unusedSimpArgs false
set_option linter.unusedVariables false
namespace Go.Eng
open Go Go.RowKit
theorem zS (t : Nat) : hlk [] t = none := nr rfl
theorem zM (k : Nat) (v : HV) (r : aL) (t : Nat) : hlk ((k, v) :: r) t = if k = t then some v else hlk r t := nr rfl
theorem zX (t : Nat) : rlk [] t = none := nr rfl
theorem zU (k : Nat) (v : Row) (r : aD) (t : Nat) : rlk ((k, v) :: r) t = if k = t then some v else rlk r t := nr rfl
theorem zBi (l : aL) (t : Nat) : hev l (.tmp t) = hlk l t := nr rfl
theorem qQu (l : aL) (v : Value) : hev l (.const v) = some (.v v) := nr rfl
theorem qKm (l : aL) (g : Nat) : hev l (.global g) = some (.v (.pointer (some ⟨g, 0, none⟩))) := nr rfl
theorem qV4 (l : aL) (f : FuncId) : hev l (.func f) = some (.v (.func (.func f) #[] #[])) := nr rfl
theorem qV3 (l : aL) : jK l [] = some [] := nr rfl
theorem qQt (l : aL) (x : Operand) (r : List Operand) : jK l (x :: r) = match hev l x with | some v => (match jK l r with | some vs => some (v :: vs) | none => none) | none => none := nr rfl
theorem zG8 (x : Value) : qD6 (some (.v x)) = some x := nr rfl
theorem qP2  : qD6 none = none := nr rfl
theorem qU1 (fr : Bool) (xs : List (List FV)) : qD6 (some (.lst fr xs)) = none := nr rfl
theorem qU0 (i : Nat) : qD6 (some (.own i)) = none := nr rfl
theorem qUz (i s j k : Nat) : qD6 (some (.ptr i s j k)) = none := nr rfl
theorem qU2 (fr : Bool) (xs : List (List FV)) (s j k : Nat) : qD6 (some (.elt fr xs s j k)) = none := nr rfl
theorem qU3 (cs : List HV) : qD6 (some (.agg cs)) = none := nr rfl
theorem qUy (cs : List HV) : qD6 (some (.tup cs)) = none := nr rfl
theorem zAx (i s o n : Nat) : qD6 (some (.vw i s o n)) = none := nr rfl
theorem qP3  : qD6 (some .junk) = none := nr rfl
theorem qLd (S : HS) (id : Nat) (P : Program) (o : Op) (c : Prop) (v : Value) : nM S id P o (some (c, v)) = .go c (.v v) S := nr rfl
theorem qLe (S : HS) (id : Nat) (P : Program) (o : Op) : nM S id P o none = gD P S id o := nr rfl
theorem zHk (P : Program) (S : HS) (id : Nat) (o : Op) : hop P S id o = nM S id P o (aG P (lo S.env) o) := nr rfl
theorem qQx (P : Program) (S : HS) (id : Nat) (x : Operand) : gD P S id (.move x) = uW S (hev S.env x) := nr rfl
theorem qFm (P : Program) (S : HS) (id : Nat) (x : Operand) : gD P S id (.assign x) = uW S (hev S.env x) := nr rfl
theorem qQv (P : Program) (S : HS) (id : Nat) (c a b : Operand) : gD P S id (.pick c a b) = qC8 S (hev S.env c) (hev S.env a) (hev S.env b) := nr rfl
theorem qC6 (P : Program) (S : HS) (id : Nat) (x : Operand) (i : Nat) : gD P S id (.extract x i) = kZ S i (hev S.env x) := nr rfl
theorem qKs (P : Program) (S : HS) (id : Nat) (t : TypeId) (x : Operand) (f : Nat) : gD P S id (.field t x f) = rT S (wT P t f) (hev S.env x) := nr rfl
theorem qKt (P : Program) (S : HS) (id : Nat) (t : TypeId) (x : Operand) (f : Nat) : gD P S id (.fieldAddr t x f) = rU S (iF P t f) (hev S.env x) := nr rfl
theorem qQw (P : Program) (S : HS) (id : Nat) (x : Operand) : gD P S id (.nilCheck x) = qNg S (hev S.env x) := nr rfl
theorem qKr (P : Program) (S : HS) (id : Nat) (t : TypeId) (x i : Operand) : gD P S id (.indexAddr t x i) = lV S (cG P t) (qGt P t) (hev S.env x) (hev S.env i) := nr rfl
theorem qKo (P : Program) (S : HS) (id : Nat) (t : TypeId) (x : Operand) (l h : Option Operand) : gD P S id (.slice t x l h none) = qA S (cG P t) l h (hev S.env x) := nr rfl
theorem qQy (P : Program) (S : HS) (id : Nat) (t : TypeId) (x : Operand) : gD P S id (.load t x) = rD S (cE P t) (hev S.env x) := nr rfl
theorem qKn (P : Program) (S : HS) (id : Nat) (t : TypeId) (x y : Operand) : gD P S id (.store t x y) = rR S (cE P t) (hev S.env x) (hev S.env y) := nr rfl
theorem qKx (P : Program) (S : HS) (id : Nat) (t : TypeId) : gD P S id (.alloc t) = nG S id t (eG P t) := nr rfl
theorem qV8 (P : Program) (S : HS) (id : Nat) (t : TypeId) (x : Operand) : gD P S id (.box t x) = qWp S id t (hev S.env x) := nr rfl
theorem qKw (P : Program) (S : HS) (id : Nat) (t : TypeId) (ps : Array (Nat × Operand)) : gD P S id (.build t ps) = uK S (cW P t) (cZ P t) (eG P t) (iK S.env ps.toList) := nr rfl
theorem qFl (P : Program) (S : HS) (id : Nat) (t n : TypeId) (ps : Array (Nat × Operand)) : gD P S id (.buildSlice t n ps) = jQ S id n (mF P t) (iK S.env ps.toList) := nr rfl
theorem qKp (P : Program) (S : HS) (id : Nat) (t : TypeId) (x y : Operand) : gD P S id (.makeSlice t x y) = qFv S id (mF P t) (hev S.env x) (hev S.env y) := nr rfl
theorem qV6 (P : Program) (S : HS) (id : Nat) (args : Array Operand) (ats : Array TypeId) : gD P S id (.call ⟨.builtin .len, args, ats⟩) = match jK S.env args.toList with | some [h] => qLk S (bS ((cG P (dJ ats)).isSome = true ∧ ats.size = 1)) (some h) | _ => .bad := nr rfl
theorem qV9 (P : Program) (S : HS) (id : Nat) (args : Array Operand) (ats : Array TypeId) : gD P S id (.call ⟨.builtin .append, args, ats⟩) = iV S id (ats == #[dJ ats, dJ ats]) (qXx P ats) (mF P (dJ ats)) (jK S.env args.toList) := nr rfl
theorem qKv (P : Program) (S : HS) (id : Nat) (f : FuncId) (args : Array Operand) (ats : Array TypeId) : gD P S id (.call ⟨.value (.func f), args, ats⟩) = qF0 f (jK S.env args.toList) := nr rfl
theorem qV7 (P : Program) (S : HS) (id : Nat) (t : TypeId) (x y : Operand) (u : TypeId) : gD P S id (.binOp .eql t x y u) = hEq S (qGc P t) t false (hev S.env x) (hev S.env y) := nr rfl
theorem qV5 (P : Program) (S : HS) (id : Nat) (t : TypeId) (x y : Operand) (u : TypeId) : gD P S id (.binOp .neq t x y u) = hEq S (qGc P t) t true (hev S.env x) (hev S.env y) := nr rfl
theorem qQ0 (P : Program) (S : HS) (id : Nat) (s d : TypeId) (x : Operand) : gD P S id (.convert s d x) = rJ S (qBq P s d) (qRx P s d) (hev S.env x) := nr rfl
theorem qWf (S : HS) (h : HV) : uW S (some h) = .go True h S := nr rfl
theorem qWc (S : HS) (t : Bool) (a b : HV) : qC8 S (some (.v (.bool t))) (some a) (some b) = .go True (bif t then a else b) S := nr rfl
theorem qFx (S : HS) (i : Nat) (hs : List HV) : kZ S i (some (.tup hs)) = match hs[i]? with | some h => .go True h S | none => .bad := nr rfl
theorem qKq (P : Program) (S : HS) (id : Nat) (t : TypeId) (x i : Operand) : gD P S id (.index t x i) = nX S (qM0 P t) (hev S.env x) (hev S.env i) := nr rfl
theorem qFw (S : HS) (m : Nat) (hs : List HV) (k : IntKind) (n : Int) : nX S (some m) (some (.agg hs)) (some (.v (.int k n))) = match hs[n.toNat]? with | some h => .go (bS (0 ≤ n ∧ n < m)) h S | none => .bad := nr rfl
theorem qLw (S : HS) (off : Nat) (hs : List HV) : rT S (some (off, none)) (some (.agg hs)) = match hs[off]? with | some h => .go True h S | none => .bad := nr rfl
theorem qLv (S : HS) (off n : Nat) (hs : List HV) : rT S (some (off, some n)) (some (.agg hs)) = .go (bS (off + n ≤ hs.length)) (.agg ((hs.drop off).take n)) S := nr rfl
theorem qLx (S : HS) (off id sz i k : Nat) : rU S (some off) (some (.ptr id sz i k)) = .go True (.ptr id sz i (k + off)) S := nr rfl
theorem qLy (S : HS) (off : Nat) (fr : Bool) (xs : List (List FV)) (sz i k : Nat) : rU S (some off) (some (.elt fr xs sz i k)) = .go True (.elt fr xs sz i (k + off)) S := nr rfl
theorem qWd (S : HS) (id sz i k : Nat) : qNg S (some (.ptr id sz i k)) = .go True (.ptr id sz i k) S := nr rfl
theorem qWe (S : HS) (fr : Bool) (xs : List (List FV)) (sz i k : Nat) : qNg S (some (.elt fr xs sz i k)) = .go True (.elt fr xs sz i k) S := nr rfl
theorem qLm (S : HS) (id : Nat) (us ua : Option (Nat × Nat)) (kk : IntKind) (n : Int) : lV S us ua (some (.own id)) (some (.v (.int kk n))) = nY S id n us (rlk S.st id) := nr rfl
theorem qLn (S : HS) (fr : Bool) (xs : List (List FV)) (us ua : Option (Nat × Nat)) (kk : IntKind) (n : Int) : lV S us ua (some (.lst fr xs)) (some (.v (.int kk n))) = rG S fr xs n us := nr rfl
theorem qLl (S : HS) (id sz i k : Nat) (us ua : Option (Nat × Nat)) (kk : IntKind) (n : Int) : lV S us ua (some (.ptr id sz i k)) (some (.v (.int kk n))) = rF S id sz i k n ua := nr rfl
theorem qLo (S : HS) (fr : Bool) (xs : List (List FV)) (sz i k : Nat) (us ua : Option (Nat × Nat)) (kk : IntKind) (n : Int) : lV S us ua (some (.elt fr xs sz i k)) (some (.v (.int kk n))) = rH S fr xs sz i k n ua := nr rfl
theorem qLr (S : HS) (id : Nat) (n : Int) (e sz : Nat) (nw : Bool) (ty s : Nat) (els : List (List FV)) : nY S id n (some (e, sz)) (some (.sl nw ty s els)) = .go (bS (sz = s ∧ 0 ≤ n ∧ n < els.length)) (.ptr id s n.toNat 0) S := nr rfl
theorem qLt (S : HS) (fr : Bool) (xs : List (List FV)) (n : Int) (e sz : Nat) : rG S fr xs n (some (e, sz)) = .go (bS (0 ≤ n ∧ n < xs.length) ∧ Wid sz xs) (.elt fr xs sz n.toNat 0) S := nr rfl
theorem qLs (S : HS) (id sz i k : Nat) (n : Int) (len size : Nat) : rF S id sz i k n (some (len, size)) = .go (bS (0 ≤ n ∧ n < len)) (.ptr id sz i (k + n.toNat * size)) S := nr rfl
theorem qLu (S : HS) (fr : Bool) (xs : List (List FV)) (sz i k : Nat) (n : Int) (len size : Nat) : rH S fr xs sz i k n (some (len, size)) = .go (bS (0 ≤ n ∧ n < len)) (.elt fr xs sz i (k + n.toNat * size)) S := nr rfl
theorem zBj (S : HS) (c : Prop) (i s o n : Nat) : qLk S c (some (.vw i s o n)) = .go c (.v (.int .i64 n)) S := nr rfl
theorem qK9 (S : HS) (us : Option (Nat × Nat)) (l h : Option Operand) (id : Nat) : qA S us l h (some (.own id)) = rB S id (jU (lo S.env) l 0) (jU (lo S.env) h (zKq (rlk S.st id))) us (rlk S.st id) := nr rfl
theorem qQ4 (S : HS) (us : Option (Nat × Nat)) (l h : Option Operand) (id sz off n : Nat) : qA S us l h (some (.vw id sz off n)) = rA S id sz off (jU (lo S.env) l 0) (jU (lo S.env) h n) us (rlk S.st id) := nr rfl
theorem qLb (S : HS) (id : Nat) (a b : Int) (e sz : Nat) (nw : Bool) (ty s : Nat) (els : List (List FV)) : rB S id (some a) (some b) (some (e, sz)) (some (.sl nw ty s els)) = .go (bS (sz = s ∧ 0 ≤ a ∧ a ≤ b ∧ b ≤ els.length)) (.vw id s a.toNat (b.toNat - a.toNat)) S := nr rfl
theorem qLa (S : HS) (id sz off : Nat) (a b : Int) (e sz' : Nat) (nw : Bool) (ty s : Nat) (els : List (List FV)) : rA S id sz off (some a) (some b) (some (e, sz')) (some (.sl nw ty s els)) = .go (bS (sz' = sz ∧ s = sz ∧ 0 ≤ a ∧ a ≤ b ∧ off + b ≤ els.length)) (.vw id sz (off + a.toNat) (b.toNat - a.toNat)) S := nr rfl
theorem qZw (nw : Bool) (ty s : Nat) (els : List (List FV)) : zKq (some (.sl nw ty s els)) = els.length := nr rfl
theorem qRb (S : HS) (id s off m : Nat) (us ua : Option (Nat × Nat)) (kk : IntKind) (n : Int) : lV S us ua (some (.vw id s off m)) (some (.v (.int kk n))) = rE S id s off m n us (rlk S.st id) := nr rfl
theorem qLp (S : HS) (id s off m : Nat) (n : Int) (e sz : Nat) (nw : Bool) (ty s' : Nat) (els : List (List FV)) : rE S id s off m n (some (e, sz)) (some (.sl nw ty s' els)) = .go (bS (sz = s ∧ s' = s ∧ 0 ≤ n ∧ n < m)) (.ptr id s (off + n.toNat) 0) S := nr rfl
theorem qPu (st : aD) (sz id s off n : Nat) : jV st sz (.vw id s off n) = match rlk st id with | some (.sl _ _ s' els) => some (bS (s = sz ∧ s' = sz), (els.drop off).take n) | _ => none := nr rfl
theorem qQ1 (i s o n : Nat) : dP (.vw i s o n) = some [.vw i s o n] := nr rfl
theorem zBa (i s o n : Nat) : (HV.vw i s o n).one = true := nr rfl
theorem cJ (p : Nat → Bool) (i s o n : Nat) : HV.kill p (.vw i s o n) = bif p i then .junk else .vw i s o n := by rw [HV.kill]
theorem fV (m : Nat → Option Nat) (i s o n : Nat) : HV.ren m (.vw i s o n) = match m i with | some j => .vw j s o n | none => .junk := by rw [HV.ren]; cases m i <;> rfl
theorem hD (id : Nat) (x0 : HV) (i s o n : Nat) : HV.sub id x0 (.vw i s o n) = if i = id then zFk x0 s o n else .vw i s o n := by rw [HV.sub]
theorem qPl (i s o n : Nat) : uC (.vw i s o n) = [] := nr rfl
theorem qJi (i s o n : Nat) : xU (.vw i s o n) = [] := nr rfl
theorem qWh (S : HS) (c : Prop) (id : Nat) : qLk S c (some (.own id)) = qC9 S c (rlk S.st id) := nr rfl
theorem qWi (S : HS) (c : Prop) (fr : Bool) (xs : List (List FV)) : qLk S c (some (.lst fr xs)) = .go c (.v (.int .i64 xs.length)) S := nr rfl
theorem qWj (S : HS) (c : Prop) (nw : Bool) (ty s : Nat) (els : List (List HV)) : qC9 S c (some (.hl nw ty s els)) = .go c (.v (.int .i64 els.length)) S := nr rfl
theorem qLq (S : HS) (id : Nat) (n : Int) (e sz : Nat) (nw : Bool) (ty s : Nat) (els : List (List HV)) : nY S id n (some (e, sz)) (some (.hl nw ty s els)) = .go (bS (sz = s ∧ 0 ≤ n ∧ n < els.length)) (.ptr id s n.toNat 0) S := nr rfl
theorem qWk (S : HS) (c : Prop) (nw : Bool) (ty s : Nat) (els : List (List FV)) : qC9 S c (some (.sl nw ty s els)) = .go c (.v (.int .i64 els.length)) S := nr rfl
theorem qQ5 (S : HS) (us : Option (Nat × Nat)) (l h : Option Operand) (fr : Bool) (xs : List (List FV)) : qA S us l h (some (.lst fr xs)) = rC S fr xs (jU (lo S.env) l 0) (jU (lo S.env) h xs.length) us := nr rfl
theorem qLc (S : HS) (fr : Bool) (xs : List (List FV)) (a b : Int) (e sz : Nat) : rC S fr xs (some a) (some b) (some (e, sz)) = .go (bS (0 ≤ a ∧ a ≤ b ∧ b ≤ xs.length) ∧ Wid sz xs) (.lst fr ((xs.take b.toNat).drop a.toNat)) S := nr rfl
theorem qQ6 (S : HS) (kt : Option (Option Nat)) (id sz i k : Nat) : rD S kt (some (.ptr id sz i k)) = kY S sz i k kt (rlk S.st id) := nr rfl
theorem qQ7 (S : HS) (kt : Option (Option Nat)) (fr : Bool) (xs : List (List FV)) (sz i k : Nat) : rD S kt (some (.elt fr xs sz i k)) = rS S xs i k kt := nr rfl
theorem qQ8 (S : HS) (sz i k : Nat) (nw : Bool) (ty s : Nat) (els : List (List FV)) : kY S sz i k (some none) (some (.sl nw ty s els)) = .go (bS (sz = s ∧ i < els.length ∧ k < (els.getD i []).length)) ((els.getD i []).getD k default).h S := nr rfl
theorem qLf (S : HS) (sz i k n : Nat) (nw : Bool) (ty s : Nat) (els : List (List FV)) : kY S sz i k (some (some n)) (some (.sl nw ty s els)) = .go (bS (sz = s ∧ i < els.length ∧ k + n ≤ (els.getD i []).length)) (.agg ((((els.getD i []).drop k).take n).map FV.h)) S := nr rfl
theorem qRa (S : HS) (sz i k : Nat) (nw : Bool) (ty : Nat) (cells : List HV) : kY S sz i k (some none) (some (.bx nw ty cells)) = .go (bS (i = 0 ∧ k < cells.length)) (cells.getD k .junk) S := nr rfl
theorem qLh (S : HS) (sz i k n : Nat) (nw : Bool) (ty : Nat) (cells : List HV) : kY S sz i k (some (some n)) (some (.bx nw ty cells)) = .go (bS (i = 0 ∧ k + n ≤ cells.length)) (.agg ((cells.drop k).take n)) S := nr rfl
theorem qQ9 (S : HS) (sz i k : Nat) (nw : Bool) (ty s : Nat) (els : List (List HV)) : kY S sz i k (some none) (some (.hl nw ty s els)) = .go (bS (sz = s ∧ i < els.length ∧ k < (els.getD i []).length)) ((els.getD i []).getD k .junk) S := nr rfl
theorem qLg (S : HS) (sz i k n : Nat) (nw : Bool) (ty s : Nat) (els : List (List HV)) : kY S sz i k (some (some n)) (some (.hl nw ty s els)) = .go (bS (sz = s ∧ i < els.length ∧ k + n ≤ (els.getD i []).length)) (.agg (((els.getD i []).drop k).take n)) S := nr rfl
theorem qK7 (S : HS) (id sz i k : Nat) (kt : Option (Option Nat)) (h : HV) (nw : Bool) (ty s : Nat) (els : List (List HV)) : mD S id sz i k kt h (some (.hl nw ty s els)) = nV S id sz i k nw ty s els kt h := nr rfl
theorem qFr (S : HS) (id sz i k : Nat) (nw : Bool) (ty s : Nat) (els : List (List HV)) (h : HV) : nV S id sz i k nw ty s els (some none) h = .go (bS (sz = s ∧ i < els.length ∧ k < (els.getD i []).length ∧ h.one = true)) (.v undef) ⟨S.env, iD id (.hl nw ty s (els.set i ((els.getD i []).set k h))) S.st⟩ := nr (by cases h <;> rfl)
theorem qFs (S : HS) (id sz i k n : Nat) (nw : Bool) (ty s : Nat) (els : List (List HV)) (hs : List HV) : nV S id sz i k nw ty s els (some (some n)) (.agg hs) = .go (bS (sz = s ∧ i < els.length ∧ hs.length = n ∧ k + n ≤ (els.getD i []).length)) (.v undef) ⟨S.env, iD id (.hl nw ty s (els.set i (splice (els.getD i []) k hs))) S.st⟩ := nr rfl
theorem qLi (S : HS) (xs : List (List FV)) (i k : Nat) : rS S xs i k (some none) = .go (bS (i < xs.length ∧ k < (xs.getD i []).length)) ((xs.getD i []).getD k default).h S := nr rfl
theorem qLj (S : HS) (xs : List (List FV)) (i k n : Nat) : rS S xs i k (some (some n)) = .go (bS (i < xs.length ∧ k + n ≤ (xs.getD i []).length)) (.agg ((((xs.getD i []).drop k).take n).map FV.h)) S := nr rfl
theorem qQ3 (S : HS) (kt : Option (Option Nat)) (id sz i k : Nat) (h : HV) : rR S kt (some (.ptr id sz i k)) (some h) = mD S id sz i k kt h (rlk S.st id) := nr rfl
theorem qK6 (S : HS) (id sz i k : Nat) (kt : Option (Option Nat)) (h : HV) (nw : Bool) (ty s : Nat) (els : List (List FV)) : mD S id sz i k kt h (some (.sl nw ty s els)) = nU S id sz i k nw ty s els kt h := nr rfl
theorem qK8 (S : HS) (id sz i k : Nat) (kt : Option (Option Nat)) (h : HV) (nw : Bool) (ty : Nat) (cells : List HV) : mD S id sz i k kt h (some (.bx nw ty cells)) = nW S id i k nw ty cells kt h := nr rfl
theorem qFp (S : HS) (id sz i k : Nat) (nw : Bool) (ty s : Nat) (els : List (List FV)) (h : HV) : nU S id sz i k nw ty s els (some none) h = match h.f with | some f => .go (bS (sz = s ∧ i < els.length ∧ k < (els.getD i []).length ∧ f.one = true)) (.v undef) ⟨S.env, iD id (.sl nw ty s (els.set i ((els.getD i []).set k f))) S.st⟩ | none => .bad := nr rfl
theorem qFq (S : HS) (id sz i k n : Nat) (nw : Bool) (ty s : Nat) (els : List (List FV)) (hs : List HV) : nU S id sz i k nw ty s els (some (some n)) (.agg hs) = match HV.fs hs with | some fs => .go (bS (sz = s ∧ i < els.length ∧ fs.length = n ∧ k + n ≤ (els.getD i []).length)) (.v undef) ⟨S.env, iD id (.sl nw ty s (els.set i (splice (els.getD i []) k fs))) S.st⟩ | none => .bad := nr rfl
theorem qFt (S : HS) (id i k : Nat) (nw : Bool) (ty : Nat) (cells : List HV) (h : HV) : nW S id i k nw ty cells (some none) h = .go (bS (i = 0 ∧ k < cells.length ∧ h.one = true)) (.v undef) ⟨S.env, iD id (.bx nw ty (cells.set k h)) S.st⟩ := nr (by cases h <;> rfl)
theorem qFu (S : HS) (id i k n : Nat) (nw : Bool) (ty : Nat) (cells : List HV) (hs : List HV) : nW S id i k nw ty cells (some (some n)) (.agg hs) = .go (bS (i = 0 ∧ hs.length = n ∧ k + n ≤ cells.length)) (.v undef) ⟨S.env, iD id (.bx nw ty (splice cells k hs)) S.st⟩ := nr rfl
theorem qRk (S : HS) (id : Nat) (t : TypeId) (z : Array Value) : nG S id t (some z) = .go (bS (rQ z = true)) (.ptr id z.size 0 0) ((S.kill (only id)).row id (.bx true t (z.toList.map .v))) := nr rfl
theorem zBq (S : HS) (id : Nat) (t : TypeId) (h : HV) : qWp S id t (some h) = qL4 S id t (dP h) := nr rfl
theorem qWo (S : HS) (id : Nat) (t : TypeId) (cs : List HV) : qL4 S id t (some cs) = .go True (.ptr id cs.length 0 0) ((S.kill (only id)).row id (.bx true t (cs.map (HV.kill (only id))))) := nr rfl
theorem qJd (l : aL) : iK l [] = some [] := nr rfl
theorem qFe (l : aL) (i : Nat) (x : Operand) (r : List (Nat × Operand)) : iK l ((i, x) :: r) = match hev l x with | some v => (match iK l r with | some vs => some ((i, v) :: vs) | none => none) | none => none := nr rfl
theorem qQs (aQ : Nat → Option (Nat × Nat)) (cells : List HV) : qC5 aQ cells [] = some (True, cells) := nr rfl
theorem qKl (aQ : Nat → Option (Nat × Nat)) (cells : List HV) (i : Nat) (h : HV) (r : List (Nat × HV)) : qC5 aQ cells ((i, h) :: r) = match aQ i with | some (off, n) => (match dP h with | some cs => (match qC5 aQ (splice cells off cs) r with | some (c, out) => some (bS (cs.length = n ∧ off + n ≤ cells.length) ∧ c, out) | none => none) | none => none) | none => none := nr rfl
theorem qRj (S : HS) (ok : Bool) (aQ : Nat → Option (Nat × Nat)) (z : Array Value) (ps : List (Nat × HV)) : uK S ok aQ (some z) (some ps) = rK S (ok && rQ z) (qC5 aQ (z.toList.map .v) ps) := nr rfl
theorem qL3 (S : HS) (ok : Bool) (c : Prop) (cs : List HV) : rK S ok (some (c, cs)) = .go (bS (ok = true) ∧ c) (.agg cs) S := nr rfl
theorem qVy (sz : Nat) (els : List (List FV)) : qS5 sz els [] = some (True, els) := nr rfl
theorem qQm (sz : Nat) (els : List (List FV)) (i : Nat) (h : HV) (r : List (Nat × HV)) : qS5 sz els ((i, h) :: r) = match dP h with | some cs => (match HV.fs cs with | some fs => (match qS5 sz (els.set i fs) r with | some (c, out) => some (bS (fs.length = sz ∧ i < els.length) ∧ c, out) | none => none) | none => none) | none => none := nr rfl
theorem qL0 (S : HS) (id n e sz by' : Nat) (z : Array Value) (ps : List (Nat × HV)) : jQ S id n (some (e, sz, by', z)) (some ps) = match rQ z && z.size == sz with | true => jL S id e sz n z ps (qXo ps) | false => .bad := nr rfl
theorem qXn  : qXo [] = true := nr rfl
theorem qR8 (i : Nat) (h : HV) (r : List (Nat × HV)) : qXo ((i, h) :: r) = match dP h with | some cs => ((HV.fs cs).isSome && qXo r) | none => qXo r := nr rfl
theorem qQn (sz : Nat) (els : List (List HV)) : qC3 sz els [] = some (True, els) := nr rfl
theorem qKj (sz : Nat) (els : List (List HV)) (i : Nat) (h : HV) (r : List (Nat × HV)) : qC3 sz els ((i, h) :: r) = match dP h with | some cs => (match qC3 sz (els.set i cs) r with | some (c, out) => some (bS (cs.length = sz ∧ i < els.length) ∧ c, out) | none => none) | none => none := nr rfl
theorem zHm (id : Nat) (els : List (List HV)) : hkl id els = els.map (List.map (HV.kill (only id))) := nr rfl
theorem qL1 (S : HS) (id e sz n : Nat) (z : Array Value) (ps : List (Nat × HV)) : jL S id e sz n z ps true = lB S id e sz n (qS5 sz (List.replicate n (z.toList.map .v)) ps) := nr rfl
theorem qL2 (S : HS) (id e sz n : Nat) (z : Array Value) (ps : List (Nat × HV)) : jL S id e sz n z ps false = lA S id e sz n (qC3 sz (List.replicate n (z.toList.map .v)) ps) := nr rfl
theorem qF1 (S : HS) (id e sz n : Nat) (c : Prop) (els : List (List HV)) : lA S id e sz n (some (c, els)) = .go (bS (n * sz ≤ 16777216 ∧ n ≤ 16777216) ∧ c) (.own id) ((S.kill (only id)).row id (.hl true e sz (hkl id els))) := nr rfl
theorem qF2 (S : HS) (id e sz n : Nat) (c : Prop) (els : List (List FV)) : lB S id e sz n (some (c, els)) = .go (bS (n * sz ≤ 16777216 ∧ n ≤ 16777216) ∧ c) (.own id) ((S.kill (only id)).row id (.sl true e sz els)) := nr rfl
theorem qWg (S : HS) (id e sz by' : Nat) (z : Array Value) (n m : Int) : qFv S id (some (e, sz, by', z)) (some (.v (.int .i64 n))) (some (.v (.int .i64 m))) = match rQ z && z.size == sz with | true => .go (bS (n = m ∧ 0 ≤ n ∧ by' * n.toNat ≤ 281474976710656 ∧ n.toNat ≤ maxLen)) (.own id) ((S.kill (only id)).row id (.sl true e sz (List.replicate n.toNat (z.toList.map .v)))) | false => .bad := nr rfl
theorem qJp (st : aD) (sz id : Nat) : jV st sz (.own id) = match rlk st id with | some (.sl _ _ s els) => some (bS (s = sz), els) | _ => none := nr rfl
theorem qJr (st : aD) (sz : Nat) (fr : Bool) (xs : List (List FV)) : jV st sz (.lst fr xs) = some (Wid sz xs, xs) := nr rfl
theorem qJq (st : aD) (sz : Nat) : jV st sz (.v (.slice none 0 0)) = some (True, []) := nr rfl
theorem qKu (P : Program) (S : HS) (id : Nat) (t : Nat) (args : Array Operand) (ats : Array TypeId) : gD P S id (.call ⟨.value (.tmp t), args, ats⟩) = qBh (fnH (hlk S.env t)) (jK S.env args.toList) := nr rfl
theorem zM6 (f : FuncId) : fnH (some (.v (.func (.func f) #[] #[]))) = some f := nr rfl
theorem qFz (f : FuncId) (a : Option (List HV)) : qBh (some f) a = qF0 f a := nr rfl
theorem qQz (P : Program) (S : HS) (id : Nat) (args : Array Operand) (ats : Array TypeId) : gD P S id (.call ⟨.builtin .copy, args, ats⟩) = tD S (ats == #[dJ ats, dJ ats]) (cG P (dJ ats)) (jK S.env args.toList) := nr rfl
theorem qRc (S : HS) (us : Option (Nat × Nat)) (id : Nat) (x : HV) : tD S true us (some [.own id, x]) = qB S id 0 none none x us (rlk S.st id) := nr rfl
theorem qWm (S : HS) (us : Option (Nat × Nat)) (id s off n : Nat) (x : HV) : tD S true us (some [.vw id s off n, x]) = qB S id off (some s) (some n) x us (rlk S.st id) := nr rfl
theorem qLz (S : HS) (id off : Nat) (x : HV) (e sz : Nat) (nw : Bool) (ty s : Nat) (els : List (List FV)) : qB S id off none none x (some (e, sz)) (some (.sl nw ty s els)) = match decide (sz = s) with | true => wQ S id s off els.length (s = s) nw ty els (jV S.st s x) | false => .bad := nr rfl
theorem qRd (S : HS) (id off s0 n : Nat) (x : HV) (e sz : Nat) (nw : Bool) (ty s : Nat) (els : List (List FV)) : qB S id off (some s0) (some n) x (some (e, sz)) (some (.sl nw ty s els)) = match decide (sz = s) with | true => wQ S id s off n (s0 = s) nw ty els (jV S.st s x) | false => .bad := nr rfl
def cpy (els : List (List FV)) (off : Nat) (news : List (List FV)) (n : Nat) : List (List FV) := splice els off (news.take n)
def cpn (news : List (List FV)) (n : Nat) : Nat := min news.length n
theorem qFy (S : HS) (id sz off n : Nat) (ok : Prop) (nw : Bool) (ty : Nat) (els : List (List FV)) (c : Prop) (news : List (List FV)) : wQ S id sz off n ok nw ty els (some (c, news)) = .go (c ∧ bS (off + n ≤ els.length ∧ 0 < sz ∧ ok)) (.v (.int .i64 (cpn news n : Nat))) ⟨S.env, iD id (.sl nw ty sz (cpy els off news n)) S.st⟩ := nr rfl
theorem qF3 (S : HS) (nid : Nat) (same str : Bool) (e sz by' : Nat) (z : Array Value) (id : Nat) (x : HV) : iV S nid same str (some (e, sz, by', z)) (some [.own id, x]) = match (same || str) && z.size == sz with | true => qDa S id e sz by' same x (qPy same str S.st sz x) (rlk S.st id) | false => .bad := nr rfl
theorem qPv (st : aD) (sz id : Nat) : qJs st sz (.own id) = match rlk st id with | some (.sl _ _ s els) => some (bS (s = sz), els.map (List.map FV.h)) | some (.hl _ _ s els) => some (bS (s = sz), els) | _ => none := nr rfl
theorem qPx (st : aD) (sz : Nat) (fr : Bool) (xs : List (List FV)) : qJs st sz (.lst fr xs) = some (Wid sz xs, xs.map (List.map FV.h)) := nr rfl
theorem qPw (st : aD) (sz : Nat) : qJs st sz (.v (.slice none 0 0)) = some (True, []) := nr rfl
theorem zCz (a b c d : Nat) : (#[a, b] == #[c, d]) = (a == c && b == d) := by rw [Bool.eq_iff_iff]; simp
theorem zAt (str : Bool) (st : aD) (sz : Nat) (x : HV) : qPy true str st sz x = jV st sz x := nr rfl
theorem zAu (st : aD) (sz : Nat) (x : HV) : qPy false true st sz x = qUt x := nr rfl
theorem qPt (s : ByteArray) : qUt (.v (.string s)) = some (True, iY s) := nr rfl
theorem qF4 (S : HS) (nid : Nat) (same str : Bool) (e sz by' : Nat) (z : Array Value) (x : HV) : iV S nid same str (some (e, sz, by', z)) (some [.v (.slice none 0 0), x]) = match same && z.size == sz with | true => wR S nid e sz by' true [] (jV S.st sz x) | false => .bad := nr rfl
theorem qWq (S : HS) (id e sz by' : Nat) (same : Bool) (x : HV) (news : Option (Prop × List (List FV))) (nw : Bool) (ty s : Nat) (els : List (List HV)) : qDa S id e sz by' same x news (some (.hl nw ty s els)) = match same && (decide (ty = e) && decide (s = sz)) with | true => qF5 S id e sz by' nw els (qJs S.st sz x) | false => .bad := nr rfl
theorem qWt (S : HS) (id e sz by' : Nat) (nw : Bool) (els news : List (List HV)) (c : Prop) : qF5 S id e sz by' nw els (some (c, news)) = .go (c ∧ bS ((els.length + news.length) * by' ≤ 140737488355328 ∧ 0 < by' ∧ 0 < sz)) (.own id) ((S.kill (only id)).row id (.hl nw e sz (hkl id (els ++ news)))) := nr rfl
theorem qWr (S : HS) (id e sz by' : Nat) (same : Bool) (x : HV) (news : Option (Prop × List (List FV))) (nw : Bool) (ty s : Nat) (els : List (List FV)) : qDa S id e sz by' same x news (some (.sl nw ty s els)) = match decide (ty = e) && decide (s = sz) with | true => wR S id e sz by' nw els news | false => .bad := nr rfl
theorem qWs (S : HS) (id e sz by' : Nat) (nw : Bool) (els : List (List FV)) (c : Prop) (news : List (List FV)) : wR S id e sz by' nw els (some (c, news)) = .go (c ∧ bS ((els.length + news.length) * by' ≤ 140737488355328 ∧ 0 < by' ∧ 0 < sz)) (.own id) ((S.kill (only id)).row id (.sl nw e sz (els ++ news))) := nr rfl
theorem qP1  : sT [] = some [] := nr rfl
theorem qJ2 (x : Value) (r : List HV) : sT (.v x :: r) = match sT r with | some vs => some (x :: vs) | none => none := nr rfl
theorem zHy (S : HS) (up : Bool) (t : TypeId) (neg : Bool) (xs ys : List HV) : hEq S up t neg (some (.agg xs)) (some (.agg ys)) = qS7 t neg (sT xs) (sT ys) := nr rfl
theorem zBn (S : HS) (up : Bool) (t : TypeId) (neg : Bool) (a b c d : Nat) : hEq S up t neg (some (.ptr a b c d)) (some (.v (.pointer none))) = .go (bS (up = true)) (.v (.bool neg)) S := nr rfl
theorem zBo (S : HS) (up : Bool) (t : TypeId) (neg fr : Bool) (xs : List (List FV)) (a b c : Nat) : hEq S up t neg (some (.elt fr xs a b c)) (some (.v (.pointer none))) = .go (bS (up = true)) (.v (.bool neg)) S := nr rfl
theorem qRe (S : HS) (ok okB : Bool) (s : ByteArray) : rJ S ok okB (some (.v (.string s))) = .bytes okB s := nr rfl
theorem qRf (S : HS) (ok okB : Bool) (id : Nat) : rJ S ok okB (some (.own id)) = qBg S ok (rlk S.st id) := nr rfl
theorem qRg (S : HS) (ok okB fr : Bool) (xs : List (List FV)) : rJ S ok okB (some (.lst fr xs)) = qC S ok (qK xs) := nr rfl
theorem qRh (S : HS) (ok nw : Bool) (t s : Nat) (els : List (List FV)) : qBg S ok (some (.sl nw t s els)) = qC S ok (qK els) := nr rfl
theorem qRi (S : HS) (ok : Bool) (ns : List Int) : qC S ok (some ns) = .go (bS (ok = true)) (.v (.string (strOfNums ns))) S := nr rfl
theorem qMp  : qK [] = some [] := nr rfl
theorem qF9 (n : Int) (r : List (List FV)) : qK ([.v (.int .u8 n)] :: r) = match qK r with | some ns => some (n :: ns) | none => none := nr rfl
theorem zBp (t : TypeId) (neg : Bool) (xs ys : List Value) : qS7 t neg (some xs) (some ys) = .eqn t xs ys neg := nr rfl
theorem qWn (f : FuncId) (hs : List HV) : qF0 f (some hs) = .call f hs := nr rfl
theorem zCy (ats : Array TypeId) : dJ ats = ats.getD 0 0 := nr rfl
theorem qPp (z : Array Value) : rQ z = z.toList.all (fun v => v.oneCell') := nr rfl
theorem zQn (x : Value) : (HV.v x).f = some (.v x) := nr rfl
theorem zHr (i : Nat) : (HV.own i).f = none := nr rfl
theorem zM2 (i s o n : Nat) : (HV.vw i s o n).f = none := nr rfl
theorem zHq (i s j k : Nat) : (HV.ptr i s j k).f = none := nr rfl
theorem zHs (fr : Bool) (xs : List (List FV)) : (HV.lst fr xs).f = some (.lst fr xs) := nr rfl
theorem zBh  : HV.fs [] = some [] := nr rfl
theorem qV2 (h : HV) (r : List HV) : HV.fs (h :: r) = match h.f, HV.fs r with | some f, some fs => some (f :: fs) | _, _ => none := nr rfl
theorem zH4 (x : Value) : (FV.v x).one = x.oneCell' := nr rfl
theorem qWw (fr : Bool) (xs : List (List FV)) : (FV.lst fr xs).one = true := nr rfl
theorem zHl (x : Value) : (HV.v x).one = x.oneCell' := nr rfl
theorem qVu (fr : Bool) (xs : List (List FV)) : (HV.lst fr xs).one = true := nr rfl
theorem qVt (i : Nat) : (HV.own i).one = true := nr rfl
theorem qVs (i s j k : Nat) : (HV.ptr i s j k).one = true := nr rfl
theorem zQq (x : Value) : (FV.v x).h = .v x := nr rfl
theorem zJd (fr : Bool) (xs : List (List FV)) : (FV.lst fr xs).h = .lst fr xs := nr rfl
theorem zAq (k : IntKind) (n : Int) : Value.oneCell' (.int k n) = true := nr rfl
theorem qK1 (k : IntKind) (n : Int) : dP (.v (.int k n)) = some [.v (.int k n)] := nr rfl
theorem qUp (b : Bool) : Value.oneCell' (.bool b) = true := nr rfl
theorem qFn (b : Bool) : dP (.v (.bool b)) = some [.v (.bool b)] := nr rfl
theorem zAo (s : ByteArray) : Value.oneCell' (.string s) = true := nr rfl
theorem qKz (s : ByteArray) : dP (.v (.string s)) = some [.v (.string s)] := nr rfl
theorem qPo (a : Option Addr) (n c : Nat) : Value.oneCell' (.slice a n c) = true := nr rfl
theorem qC7 (a : Option Addr) (n c : Nat) : dP (.v (.slice a n c)) = some [.v (.slice a n c)] := nr rfl
theorem zAp (a : Option Addr) : Value.oneCell' (.pointer a) = true := nr rfl
theorem qK0 (a : Option Addr) : dP (.v (.pointer a)) = some [.v (.pointer a)] := nr rfl
theorem qK5 (cs : List HV) : dP (.agg cs) = some cs := nr rfl
theorem qK4 (fr : Bool) (xs : List (List FV)) : dP (.lst fr xs) = some [.lst fr xs] := nr rfl
theorem qK3 (i : Nat) : dP (.own i) = some [.own i] := nr rfl
theorem qK2 (i s j k : Nat) : dP (.ptr i s j k) = some [.ptr i s j k] := nr rfl
theorem qNt {α : Type} (l : List α) (k : Nat) (cs : List α) : splice l k cs = l.take k ++ cs ++ l.drop (k + cs.length) := nr rfl
theorem dR (e : aL) (s : aD) (p : Nat → Bool) : HS.kill ⟨e, s⟩ p = ⟨iB p e, cU p s⟩ := nr rfl
theorem eZ (e : aL) (s : aD) (id : Nat) (r : Row) : HS.row ⟨e, s⟩ id r = ⟨e, (id, r) :: s⟩ := nr rfl
theorem qT6 (e : aL) (s : aD) (k : Nat) (h : HV) : HS.set ⟨e, s⟩ (some k) h = ⟨(k, h) :: e, s⟩ := nr rfl
theorem qT7 (S : HS) (h : HV) : HS.set S none h = S := nr rfl
theorem fA (e : aL) (s : aD) (d : Nat) (h : HV) : HS.rep ⟨e, s⟩ d h = ⟨uJ d h e, s⟩ := nr rfl
theorem dA (d : Nat) (h : HV) : uJ d h [] = [] := nr rfl
theorem cP (d : Nat) (h : HV) (k : Nat) (x : HV) (r : aL) : uJ d h ((k, x) :: r) = if k = d then (k, h) :: r else (k, x) :: uJ d h r := nr rfl
theorem cB (p : Nat → Bool) : iB p [] = [] := nr rfl
theorem bH (p : Nat → Bool) (k : Nat) (h : HV) (r : aL) : iB p ((k, h) :: r) = (k, h.kill p) :: iB p r := nr rfl
theorem aR (p : Nat → Bool) : cU p [] = [] := nr rfl
theorem aP (p : Nat → Bool) (k : Nat) (h : Row) (r : aD) : cU p ((k, h) :: r) = bif p k then cU p r else (k, h.kill p) :: cU p r := nr rfl
theorem bC (p : Nat → Bool) (nw : Bool) (t s : Nat) (xs : List (List FV)) : (Row.sl nw t s xs).kill p = .sl nw t s xs := nr rfl
theorem cQ (p : Nat → Bool) (nw : Bool) (t s : Nat) (xs : List (List HV)) : (Row.hl nw t s xs).kill p = .hl nw t s (xs.map (List.map (HV.kill p))) := nr rfl
theorem bD (p : Nat → Bool) (nw : Bool) (t : Nat) (cs : List HV) : (Row.bx nw t cs).kill p = .bx nw t (cs.map (HV.kill p)) := nr rfl
theorem cF (p : Nat → Bool) (x : Value) : HV.kill p (.v x) = .v x := by rw [HV.kill]
theorem dG (m : Nat → Option Nat) (x : Value) : HV.ren m (.v x) = .v x := by rw [HV.ren]
theorem kX (id : Nat) (x0 : HV) (x : Value) : HV.sub id x0 (.v x) = .v x := by rw [HV.sub]
theorem aU (p : Nat → Bool) (fr : Bool) (xs : List (List FV)) : HV.kill p (.lst fr xs) = .lst fr xs := by rw [HV.kill]
theorem bQ (m : Nat → Option Nat) (fr : Bool) (xs : List (List FV)) : HV.ren m (.lst fr xs) = .lst fr xs := by rw [HV.ren]
theorem fL (id : Nat) (x0 : HV) (fr : Bool) (xs : List (List FV)) : HV.sub id x0 (.lst fr xs) = .lst fr xs := by rw [HV.sub]
theorem qQo (p : Nat → Bool) (fr : Bool) (xs : List (List FV)) (s j k : Nat) : HV.kill p (.elt fr xs s j k) = .elt fr xs s j k := by rw [HV.kill]
theorem qVp (m : Nat → Option Nat) (fr : Bool) (xs : List (List FV)) (s j k : Nat) : HV.ren m (.elt fr xs s j k) = .elt fr xs s j k := by rw [HV.ren]
theorem fM (id : Nat) (x0 : HV) (fr : Bool) (xs : List (List FV)) (s j k : Nat) : HV.sub id x0 (.elt fr xs s j k) = .elt fr xs s j k := by rw [HV.sub]
theorem bG (p : Nat → Bool) : HV.kill p .junk = .junk := by rw [HV.kill]
theorem eV (m : Nat → Option Nat) : HV.ren m .junk = .junk := by rw [HV.ren]
theorem dZ (id : Nat) (x0 : HV) : HV.sub id x0 .junk = .junk := by rw [HV.sub]
theorem aT (p : Nat → Bool) (i : Nat) : HV.kill p (.own i) = bif p i then .junk else .own i := by rw [HV.kill]
theorem aS (p : Nat → Bool) (i s j k : Nat) : HV.kill p (.ptr i s j k) = bif p i then .junk else .ptr i s j k := by rw [HV.kill]
theorem cA (p : Nat → Bool) (cs : List HV) : HV.kill p (.agg cs) = .agg (cs.map (HV.kill p)) := by rw [HV.kill]
theorem bZ (p : Nat → Bool) (cs : List HV) : HV.kill p (.tup cs) = .tup (cs.map (HV.kill p)) := by rw [HV.kill]
theorem bP (m : Nat → Option Nat) (i : Nat) : HV.ren m (.own i) = match m i with | some j => .own j | none => .junk := by rw [HV.ren]; cases m i <;> rfl
theorem fZ (m : Nat → Option Nat) (i s j k : Nat) : HV.ren m (.ptr i s j k) = match m i with | some i' => .ptr i' s j k | none => .junk := by rw [HV.ren]; cases m i <;> rfl
theorem bR (m : Nat → Option Nat) (cs : List HV) : HV.ren m (.agg cs) = .agg (cs.map (HV.ren m)) := by rw [HV.ren]
theorem bN (m : Nat → Option Nat) (cs : List HV) : HV.ren m (.tup cs) = .tup (cs.map (HV.ren m)) := by rw [HV.ren]
theorem fK (id : Nat) (x0 : HV) (i : Nat) : HV.sub id x0 (.own i) = if i = id then x0 else .own i := by rw [HV.sub]
theorem fJ (id : Nat) (x0 : HV) (i s j k : Nat) : HV.sub id x0 (.ptr i s j k) = if i = id then .junk else .ptr i s j k := by rw [HV.sub]
theorem fN (id : Nat) (x0 : HV) (cs : List HV) : HV.sub id x0 (.agg cs) = .agg (cs.map (HV.sub id x0)) := by rw [HV.sub]
theorem fH (id : Nat) (x0 : HV) (cs : List HV) : HV.sub id x0 (.tup cs) = .tup (cs.map (HV.sub id x0)) := by rw [HV.sub]
theorem dT (m : Nat → Option Nat) (nw : Bool) (t s : Nat) (xs : List (List FV)) : (Row.sl nw t s xs).ren m = .sl nw t s xs := nr rfl
theorem dU (m : Nat → Option Nat) (nw : Bool) (t s : Nat) (xs : List (List HV)) : (Row.hl nw t s xs).ren m = .hl nw t s (xs.map (List.map (HV.ren m))) := nr rfl
theorem dV (m : Nat → Option Nat) (nw : Bool) (t : Nat) (cs : List HV) : (Row.bx nw t cs).ren m = .bx nw t (cs.map (HV.ren m)) := nr rfl
theorem gW (id : Nat) (x0 : HV) (nw : Bool) (t s : Nat) (xs : List (List FV)) : (Row.sl nw t s xs).sub id x0 = .sl nw t s xs := nr rfl
theorem gX (id : Nat) (x0 : HV) (nw : Bool) (t s : Nat) (xs : List (List HV)) : (Row.hl nw t s xs).sub id x0 = .hl nw t s (xs.map (List.map (HV.sub id x0))) := nr rfl
theorem gY (id : Nat) (x0 : HV) (nw : Bool) (t : Nat) (cs : List HV) : (Row.bx nw t cs).sub id x0 = .bx nw t (cs.map (HV.sub id x0)) := nr rfl
theorem cD (id i : Nat) : only id i = (i == id) := nr rfl
theorem qW5 (n i : Nat) : eC n i = (decide (n ≤ i) && decide (i < n + 8)) := by rw [Bool.eq_iff_iff]; simp [eC]
theorem zMl (n i : Nat) : sh n i = bif decide (i < 8) then some (n + i) else none := by unfold sh; congr 1; rw [Bool.eq_iff_iff]; simp
theorem zC0 (e : aL) (s : aD) (n : Nat) (st : aD) : HS.adds ⟨e, s⟩ n st = ⟨iB (eC n) e, qCf n st (cU (eC n) s)⟩ := nr rfl
theorem qN8 (n : Nat) (b : aD) : qCf n [] b = b := nr rfl
theorem qHw (n k : Nat) (r : Row) (t b : aD) : qCf n ((k, r) :: t) b = (n + k, r.ren (sh n)) :: qCf n t b := nr rfl
theorem gZ (e : aL) (s : aD) (id : Nat) (x : HV) : HS.rest ⟨e, s⟩ id x = ⟨qW3 id x e, qGz id x s⟩ := nr rfl
theorem fQ (id : Nat) (x : HV) : qW3 id x [] = [] := nr rfl
theorem eB (id : Nat) (x : HV) (k : Nat) (h : HV) (r : aL) : qW3 id x ((k, h) :: r) = (k, HV.sub id x h) :: qW3 id x r := nr rfl
theorem fE (id : Nat) (x : HV) : qGz id x [] = [] := nr rfl
theorem dX (id : Nat) (x : HV) (k : Nat) (h : Row) (r : aD) : qGz id x ((k, h) :: r) = if k = id then qGz id x r else (k, h.sub id x) :: qGz id x r := nr rfl
theorem qTw (id : Nat) (r : Row) : iD id r [] = [] := nr rfl
theorem qNs (id : Nat) (r : Row) (k : Nat) (s : Row) (t : aD) : iD id r ((k, s) :: t) = if k = id then (k, r) :: t else (k, s) :: iD id r t := nr rfl
theorem zBm (l : aL) (ds : List (Option Nat)) : hG l ds none = .yes := nr rfl
theorem zBl (l : aL) (ds : List (Option Nat)) (j : Nat) (want : Bool) : hG l ds (some (j, want)) = match ds[j]? with | some (some d) => hGv d want (hlk l d) | _ => .bad := nr rfl
theorem qWl (d : Nat) (want b : Bool) : hGv d want (some (.v (.bool b))) = .ask d b want := nr rfl
theorem zBk (d : Nat) (want : Bool) (vs : Array Value) : hGv d want (some (.v (.tuple vs))) = .no := nr rfl
theorem zHn (P : Program) (d : Option Nat) (S : HS) (K : HS → Prop) (c : Prop) (h : HV) (S' : HS) : qEr P d S K (.go c h S') = (c ∧ K (S'.set d h)) := nr rfl
theorem qV1 (P : Program) (d : Option Nat) (S : HS) (K : HS → Prop) (f : FuncId) (args : List HV) : qEr P d S K (.call f args) = HAt P f args S (fun h S' => kK K (S'.set d h)) := nr rfl
theorem zBf (P : Program) (d : Option Nat) (S : HS) (K : HS → Prop) (t : TypeId) (x y : List Value) (neg : Bool) : qEr P d S K (.eqn t x y neg) = ∃ r, EqR P t x.toArray y.toArray r ∧ kK K (S.set d (.v (.bool (neg ^^ r)))) := nr rfl
theorem qQr (P : Program) (d : Option Nat) (S : HS) (K : HS → Prop) (ok : Bool) (s : ByteArray) : qEr P d S K (.bytes ok s) = (bS (ok = true ∧ s.size ≤ 9223372036854775807) ∧ K (S.set d (.lst true (iY s)))) := nr rfl
theorem zHo (P : Program) (N : Nat) (o : Oper) (S : HS) (K : HS → Prop) : HGo P N o S K = zL5 P N o (nA S o.op) K := nr rfl
theorem zBg (P : Program) (N : Nat) (o : Oper) (S : HS) (K : HS → Prop) : zL5 P N o S K = match gG N o.dst with | true => qEr P o.dst S K (hop P S (qR o.dst) o.op) | false => False := nr rfl
theorem qQg (S : HS) (x : Operand) : nA S (.move x) = S := nr rfl
theorem qFk (S : HS) (x : Operand) : nA S (.assign x) = S := nr rfl
theorem qQe (S : HS) (c a b : Operand) : nA S (.pick c a b) = S := nr rfl
theorem qC0 (S : HS) (x : Operand) (i : Nat) : nA S (.extract x i) = S := nr rfl
theorem qKe (S : HS) (t : TypeId) (x : Operand) (f : Nat) : nA S (.field t x f) = S := nr rfl
theorem qKf (S : HS) (t : TypeId) (x : Operand) (f : Nat) : nA S (.fieldAddr t x f) = S := nr rfl
theorem qQf (S : HS) (x : Operand) : nA S (.nilCheck x) = S := nr rfl
theorem qKd (S : HS) (t : TypeId) (x i : Operand) : nA S (.indexAddr t x i) = S := nr rfl
theorem qKb (S : HS) (t : TypeId) (x : Operand) (l h m : Option Operand) : nA S (.slice t x l h m) = S := nr rfl
theorem qQi (S : HS) (t : TypeId) (x : Operand) : nA S (.load t x) = S := nr rfl
theorem qKg (S : HS) (t : TypeId) (ps : Array (Nat × Operand)) : nA S (.build t ps) = S := nr rfl
theorem qVr (S : HS) (b : BinOp) (t : TypeId) (x y : Operand) (u : TypeId) : nA S (.binOp b t x y u) = S := nr rfl
theorem zA8 (S : HS) (u : UnOp) (t : TypeId) (x : Operand) : nA S (.unOp u t x) = S := nr rfl
theorem qQj (S : HS) (s d : TypeId) (x : Operand) : nA S (.convert s d x) = S := nr rfl
theorem qKc (S : HS) (t : TypeId) (x i : Operand) : nA S (.index t x i) = S := nr rfl
theorem qQk (S : HS) (c : Call) : nA S (.call c) = S := nr rfl
theorem qKh (S : HS) (t : TypeId) : nA S (.alloc t) = S := nr rfl
theorem qVq (S : HS) (t : TypeId) (x : Operand) : nA S (.box t x) = S := nr rfl
theorem qQh (S : HS) (t : TypeId) (x y : Operand) : nA S (.makeSlice t x y) = S := nr rfl
theorem qKa (S : HS) (t : TypeId) (x y : Operand) : nA S (.store t x y) = restAll S (zGs S (hev S.env x) (hev S.env y)) := nr rfl
theorem qFj (S : HS) (t n : TypeId) (ps : Array (Nat × Operand)) : nA S (.buildSlice t n ps) = restAll S (zGt (iK S.env ps.toList)) := nr rfl
theorem qUh (S : HS) (id sz i k : Nat) (h : HV) : zGs S (some (.ptr id sz i k)) (some h) = qUl S h (rlk S.st id) := nr rfl
theorem qUi (S : HS) (h : HV) (nw : Bool) (ty s : Nat) (els : List (List FV)) : qUl S h (some (.sl nw ty s els)) = uC h := nr rfl
theorem qUk (S : HS) (h : HV) (nw : Bool) (ty : Nat) (cs : List HV) : qUl S h (some (.bx nw ty cs)) = [] := nr rfl
theorem qUm (ps : List (Nat × HV)) : zGt (some ps) = ps.flatMap fun p => uC p.2 := nr rfl
theorem qJf (i : Nat) : uC (.own i) = [i] := nr rfl
theorem qUn (x : Value) : uC (.v x) = [] := nr rfl
theorem qJg (fr : Bool) (xs : List (List FV)) : uC (.lst fr xs) = [] := nr rfl
theorem qJh (cs : List HV) : uC (.agg cs) = cs.flatMap xU := nr rfl
theorem qFf (i : Nat) : xU (.own i) = [i] := nr rfl
theorem qPm (x : Value) : xU (.v x) = [] := nr rfl
theorem qFg (fr : Bool) (xs : List (List FV)) : xU (.lst fr xs) = [] := nr rfl
theorem qE5 (S : HS) : restAll S [] = S := nr rfl
theorem qCb (S : HS) (i : Nat) (r : List Nat) : restAll S (i :: r) = restAll (qCa S i) r := nr rfl
theorem qHr (e : aL) (s : aD) (i : Nat) : qCa ⟨e, s⟩ i = match decide (i < 1000000) with | true => (match rlk s i with | some (.sl nw _ _ els) => HS.rest ⟨e, s⟩ i (.lst nw els) | _ => ⟨e, s⟩) | false => ⟨e, s⟩ := by unfold qCa; rw [show Nat.blt i held = decide (i < 1000000) by rw [Bool.eq_iff_iff]; simp [Nat.blt_eq, held]]; rfl
theorem qUj (S : HS) (h : HV) (nw : Bool) (ty s : Nat) (els : List (List HV)) : qUl S h (some (.hl nw ty s els)) = [] := nr rfl
theorem qVl (N : Nat) (d : Option Nat) (S : HS) (K : HS → Prop) : lG N d S K = match gG N d with | true => K (S.set d (.v undef)) | false => False := nr rfl
theorem qQc (P : Program) (N : Nat) (o : Oper) (S : HS) (K : HS → Prop) : qSa P N o S K .yes = HGo P N o S K := nr rfl
theorem qVk (P : Program) (N : Nat) (o : Oper) (S : HS) (K : HS → Prop) : qSa P N o S K .no = lG N o.dst S K := nr rfl
theorem qQd (P : Program) (N : Nat) (o : Oper) (S : HS) (K : HS → Prop) (d : Nat) (b want : Bool) : qSa P N o S K (.ask d b want) = match b == want with | true => HGo P N o (S.rep d (.v (.bool want))) K | false => lG N o.dst (S.rep d (.v (.bool (!want)))) K := nr rfl
theorem zA7 (P : Program) (N : Nat) (ds : List (Option Nat)) (K : HS → Prop) (S : HS) : HV2 P N ds K [] S = K S := nr rfl
theorem qVh (P : Program) (N : Nat) (ds : List (Option Nat)) (K : HS → Prop) (o : Oper) (rest : List Oper) (S : HS) : HV2 P N ds K (o :: rest) S = qSa P N o S (HV2 P N ds K rest) (hG S.env ds o.guard) := nr rfl
theorem zBd (P : Program) (o : Oper) (S : HS) (K : HS → Prop) (c : Prop) (h : HV) (S' : HS) : qDt P o S K (.go c h S') = (dL o.op = true ∧ c ∧ K (S.set o.dst h)) := nr rfl
theorem qQq (P : Program) (o : Oper) (S : HS) (K : HS → Prop) (f : FuncId) (args : List HV) : qDt P o S K (.call f args) = zRg P f args S (fun x => kK K (S.set o.dst (.v x))) := nr rfl
theorem qV0 (P : Program) (o : Oper) (S : HS) (K : HS → Prop) (t : TypeId) (x y : List Value) (neg : Bool) : qDt P o S K (.eqn t x y neg) = ∃ r, EqR P t x.toArray y.toArray r ∧ kK K (S.set o.dst (.v (.bool (neg ^^ r)))) := nr rfl
theorem zBe (P : Program) (N : Nat) (o : Oper) (S : HS) (K : HS → Prop) : qXs P N o S K = match gG N o.dst with | true => qDt P o S K (hop P S (qR o.dst) o.op) | false => False := nr rfl
theorem qJ8 (P : Program) (N : Nat) (o : Oper) (S : HS) (K : HS → Prop) : qEq P N o S K .yes = qXs P N o S K := nr rfl
theorem qQb (P : Program) (N : Nat) (o : Oper) (S : HS) (K : HS → Prop) : qEq P N o S K .no = lG N o.dst S K := nr rfl
theorem qJ9 (P : Program) (N : Nat) (o : Oper) (S : HS) (K : HS → Prop) (d : Nat) (b want : Bool) : qEq P N o S K (.ask d b want) = match b == want with | true => qXs P N o (S.rep d (.v (.bool want))) K | false => lG N o.dst (S.rep d (.v (.bool (!want)))) K := nr rfl
theorem zA6 (P : Program) (N : Nat) (ds : List (Option Nat)) (K : HS → Prop) (S : HS) : HVq P N ds K [] S = K S := nr rfl
theorem qVg (P : Program) (N : Nat) (ds : List (Option Nat)) (K : HS → Prop) (o : Oper) (rest : List Oper) (S : HS) : HVq P N ds K (o :: rest) S = qEq P N o S (HVq P N ds K rest) (hG S.env ds o.guard) := nr rfl
theorem qN0 (t : Nat) : bX (.tmp t) = [t] := nr rfl
theorem qE3 (v : Value) : bX (.const v) = [] := nr rfl
theorem qB8 (g : Nat) : bX (.global g) = [] := nr rfl
theorem qHb (f : FuncId) : bX (.func f) = [] := nr rfl
theorem qG8  : tX [] = [] := nr rfl
theorem qE2 (x : Operand) (r : List Operand) : tX (x :: r) = bX x ++ tX r := nr rfl
theorem qG6  : oT [] = [] := nr rfl
theorem qE0 (k : Nat) (x : Operand) (r : List (Nat × Operand)) : oT ((k, x) :: r) = bX x ++ oT r := nr rfl
theorem qHc (x : Operand) : qE4 (some x) = bX x := nr rfl
theorem qHd  : qE4 none = [] := nr rfl
theorem qB3 (x : Operand) : bU (.move x) = bX x := nr rfl
theorem vK (x : Operand) : bU (.assign x) = bX x := nr rfl
theorem qB2 (x : Operand) : bU (.nilCheck x) = bX x := nr rfl
theorem qB1 (c a b : Operand) : bU (.pick c a b) = bX c ++ (bX a ++ bX b) := nr rfl
theorem uU (x : Operand) (i : Nat) : bU (.extract x i) = bX x := nr rfl
theorem qAt (t : TypeId) (x : Operand) (f : Nat) : bU (.field t x f) = bX x := nr rfl
theorem qAu (t : TypeId) (x : Operand) (f : Nat) : bU (.fieldAddr t x f) = bX x := nr rfl
theorem qB4 (t : TypeId) (x : Operand) : bU (.load t x) = bX x := nr rfl
theorem qG7 (u : UnOp) (t : TypeId) (x : Operand) : bU (.unOp u t x) = bX x := nr rfl
theorem qB5 (s d : TypeId) (x : Operand) : bU (.convert s d x) = bX x := nr rfl
theorem qAs (t : TypeId) (x i : Operand) : bU (.indexAddr t x i) = bX x ++ bX i := nr rfl
theorem qAr (t : TypeId) (x i : Operand) : bU (.index t x i) = bX x ++ bX i := nr rfl
theorem qAp (t : TypeId) (x : Operand) (l h : Option Operand) : bU (.slice t x l h none) = bX x ++ (qE4 l ++ qE4 h) := nr rfl
theorem qE1 (b : BinOp) (t : TypeId) (x y : Operand) (u : TypeId) : bU (.binOp b t x y u) = bX x ++ bX y := nr rfl
theorem qAv (t : TypeId) (ps : Array (Nat × Operand)) : bU (.build t ps) = oT ps.toList := nr rfl
theorem vJ (t : TypeId) (n : Nat) (ps : Array (Nat × Operand)) : bU (.buildSlice t n ps) = oT ps.toList := nr rfl
theorem qAq (t : TypeId) (x y : Operand) : bU (.makeSlice t x y) = bX x ++ bX y := nr rfl
theorem qB6 (k : Callee) (args : Array Operand) (ats : Array TypeId) : bU (.call ⟨k, args, ats⟩) = qHa k ++ tX args.toList := nr rfl
theorem qB7 (x : Operand) : qHa (.value x) = bX x := nr rfl
theorem vL (b : Builtin) : qHa (.builtin b) = [] := nr rfl
theorem qHf (ds : List (Option Nat)) : gV ds none = [] := nr rfl
theorem qHe (ds : List (Option Nat)) (g : Nat) (b : Bool) : gV ds (some (g, b)) = match ds[g]? with | some (some d) => [d] | _ => [] := nr rfl
theorem qPg (e : aL) : jG e [] = [] := nr rfl
theorem qJb (e : aL) (t : Nat) (r : List Nat) : jG e (t :: r) = match hlk e t with | some h => (t, h) :: jG e r | none => jG e r := nr rfl
theorem qH8  : lR [] = true := nr rfl
theorem qUf (k : Nat) (v : Value) (r : aL) : lR ((k, .v v) :: r) = lR r := nr rfl
theorem qH9 (k : Nat) (b : Bool) (xs : List (List FV)) (r : aL) : lR ((k, .lst b xs) :: r) = lR r := nr rfl
theorem qJa (k : Nat) (hs : List HV) (r : aL) : lR ((k, .agg hs) :: r) = lR r := nr rfl
theorem qVv (d : Option Nat) (S : HS) (K : HS → Prop) (c : Prop) (i : Nat) (S' : HS) : zC3 d S K (.go c (.own i) S') = match rlk S'.st i with | some (.sl _ _ _ els) => c ∧ K (S.set d (.lst true els)) | _ => False := nr rfl
theorem qFi (t : TypeId) (n : Nat) (ps : Array (Nat × Operand)) : zG6 (.buildSlice t n ps) = true := nr rfl
theorem qJw (t : TypeId) (x y : Operand) : zG6 (.makeSlice t x y) = true := nr rfl
theorem qCg (t : TypeId) (n : Nat) (ps : Array (Nat × Operand)) : dL (.buildSlice t n ps) = false := nr rfl
theorem qE7 (t : TypeId) (x y : Operand) : dL (.makeSlice t x y) = false := nr rfl
theorem zBb (P : Program) (o : Oper) (S T : HS) (K : HS → Prop) (c : Prop) (h : HV) (S' : HS) : qAk P o S T K (.go c h S') = match dL o.op with | true => c ∧ K (S.set o.dst h) | false => (match zG6 o.op && lR T.env with | true => zC3 o.dst S K (hop P ⟨T.env, []⟩ (qR o.dst) o.op) | false => False) := nr rfl
theorem qQp (P : Program) (o : Oper) (S T : HS) (K : HS → Prop) (f : FuncId) (args : List HV) : qAk P o S T K (.call f args) = zFg P f args T (fun x => kK K (S.set o.dst x)) := nr rfl
theorem qVz (P : Program) (o : Oper) (S T : HS) (K : HS → Prop) (t : TypeId) (x y : List Value) (neg : Bool) : qAk P o S T K (.eqn t x y neg) = ∃ r, EqR P t x.toArray y.toArray r ∧ kK K (S.set o.dst (.v (.bool (neg ^^ r)))) := nr rfl
theorem zBc (P : Program) (N : Nat) (o : Oper) (S T : HS) (K : HS → Prop) : qZk P N o S T K = match gG N o.dst with | true => qAk P o S T K (hop P T (qR o.dst) o.op) | false => False := nr rfl
theorem qJ6 (P : Program) (N : Nat) (o : Oper) (S T : HS) (K : HS → Prop) : iQ P N o S T K .yes = qZk P N o S T K := nr rfl
theorem qQa (P : Program) (N : Nat) (o : Oper) (S T : HS) (K : HS → Prop) : iQ P N o S T K .no = lG N o.dst S K := nr rfl
theorem qJ7 (P : Program) (N : Nat) (o : Oper) (S T : HS) (K : HS → Prop) (d : Nat) (b want : Bool) : iQ P N o S T K (.ask d b want) = match b == want with | true => qZk P N o (S.rep d (.v (.bool want))) (T.rep d (.v (.bool want))) K | false => lG N o.dst (S.rep d (.v (.bool (!want)))) K := nr rfl
theorem zA5 (P : Program) (N : Nat) (ds : List (Option Nat)) (K : HS → Prop) (S : HS) : HVr P N ds K [] S = K S := nr rfl
theorem qVf (P : Program) (N : Nat) (ds : List (Option Nat)) (K : HS → Prop) (o : Oper) (rest : List Oper) (S : HS) : HVr P N ds K (o :: rest) S = iQ P N o S ⟨jG S.env (gV ds o.guard ++ bU o.op), S.st⟩ (HVr P N ds K rest) (hG (jG S.env (gV ds o.guard ++ bU o.op)) ds o.guard) := nr rfl
theorem qP7 (k : Nat) : qR (some k) = 8 * k := nr rfl
theorem qP8  : qR none = 0 := nr rfl
theorem qHz (x : Operand) : dL (.move x) = true := nr rfl
theorem qCh (x : Operand) : dL (.assign x) = true := nr rfl
theorem qHx (c a b : Operand) : dL (.pick c a b) = true := nr rfl
theorem qAw (x : Operand) (i : Nat) : dL (.extract x i) = true := nr rfl
theorem qFa (t : TypeId) (x : Operand) (f : Nat) : dL (.field t x f) = true := nr rfl
theorem qFb (t : TypeId) (x : Operand) (f : Nat) : dL (.fieldAddr t x f) = true := nr rfl
theorem qHy (x : Operand) : dL (.nilCheck x) = true := nr rfl
theorem qE9 (t : TypeId) (x i : Operand) : dL (.indexAddr t x i) = true := nr rfl
theorem qE6 (t : TypeId) (x : Operand) (l h m : Option Operand) : dL (.slice t x l h m) = true := nr rfl
theorem qH0 (t : TypeId) (x : Operand) : dL (.load t x) = true := nr rfl
theorem qFc (t : TypeId) (ps : Array (Nat × Operand)) : dL (.build t ps) = true := nr rfl
theorem qPb (b : BinOp) (t : TypeId) (x y : Operand) (u : TypeId) : dL (.binOp b t x y u) = true := nr rfl
theorem qUc (u : UnOp) (t : TypeId) (x : Operand) : dL (.unOp u t x) = true := nr rfl
theorem qH1 (s d : TypeId) (x : Operand) : dL (.convert s d x) = true := nr rfl
theorem qE8 (t : TypeId) (x i : Operand) : dL (.index t x i) = true := nr rfl
theorem qPa (args : Array Operand) (ats : Array TypeId) : dL (.call ⟨.builtin .len, args, ats⟩) = true := nr rfl
theorem qN9 (args : Array Operand) (ats : Array TypeId) : dL (.call ⟨.builtin .min, args, ats⟩) = true := nr rfl
theorem qR6 (k : Nat) : xF k [] = [] := nr rfl
theorem qMt (k : Nat) (v : HV) (r : List HV) : xF k (v :: r) = (k, v) :: xF (k + 1) r := nr rfl
theorem zZ (e : aL) (s : aD) (ks ids : List Nat) : HS.keep ⟨e, s⟩ ks ids = ⟨wP ks e, vQ ids s⟩ := nr rfl
theorem zR (l : aL) : wP [] l = [] := nr rfl
theorem zP (k : Nat) (r : List Nat) (l : aL) : wP (k :: r) l = match hlk l k with | some v => (k, v) :: wP r l | none => wP r l := nr rfl
theorem zQ (l : aD) : vQ [] l = [] := nr rfl
theorem zN (k : Nat) (r : List Nat) (l : aD) : vQ (k :: r) l = match rlk l k with | some v => (k, v) :: vQ r l | none => vQ r l := nr rfl
theorem yA (P : Program) (rs : List ResultVar) (Q : HV → aD → Prop) (S : HS) : zHp P rs Q .normal S = rZ P S rs fun hs => qAn S (qCz hs) Q := nr rfl
theorem yM (P : Program) (rs : List ResultVar) (Q : HV → aD → Prop) (S : HS) : zHp P rs Q .ret S = rZ P S rs fun hs => qAn S (qCz hs) Q := nr rfl
theorem yH (P : Program) (S : HS) (K : List HV → Prop) : rZ P S [] K = K [] := nr rfl
theorem aA (P : Program) (S : HS) (p ty : Nat) (r : List ResultVar) (K : List HV → Prop) : rZ P S (.cell p ty :: r) K = zNk (rD S (cE P ty) (hlk S.env p)) fun h => rZ P S r fun hs => K (h :: hs) := nr rfl
theorem aC (c : Prop) (h : HV) (S : HS) (K : HV → Prop) : zNk (.go c h S) K = (c ∧ K h) := nr rfl
theorem yE (P : Program) (S : HS) (t : Nat) (r : List ResultVar) (K : List HV → Prop) : rZ P S (.tmp t :: r) K = match hlk S.env t with | some h => rZ P S r fun hs => K (h :: hs) | none => False := nr rfl
theorem yK (h : HV) : qCz [h] = h := nr rfl
theorem yJ (a b : HV) (r : List HV) : qCz (a :: b :: r) = .tup (a :: b :: r) := nr rfl
theorem dM (i : Nat) : pos [] i = none := nr rfl
theorem yF (k : Nat) (r : List Nat) (i : Nat) : pos (k :: r) i = if k = i then some 0 else (pos r i).map (· + 1) := nr rfl
theorem jZ (m : Nat → Option Nat) (st : aD) (k : Nat) : gE m st k [] = [] := nr rfl
theorem yG (m : Nat → Option Nat) (st : aD) (k id : Nat) (r : List Nat) : gE m st k (id :: r) = match rlk st id with | some row => (k, row.ren m) :: gE m st (k + 1) r | none => gE m st (k + 1) r := nr rfl
theorem qMk {p : Prop} (h : p) : bS p = True := eq_true h
theorem qRy : bS True = True := rfl
theorem ltT {a b : Int} (h : a < b) : decide (a < b) = true := decide_eq_true h
theorem ltF {a b : Int} (h : b ≤ a) : decide (a < b) = false := decide_eq_false (by omega)
theorem leT {a b : Int} (h : a ≤ b) : decide (a ≤ b) = true := decide_eq_true h
theorem leF {a b : Int} (h : b < a) : decide (a ≤ b) = false := decide_eq_false (by omega)
theorem eqT {a b : Int} (h : a = b) : decide (a = b) = true := decide_eq_true h
theorem eqF {a b : Int} (h : a < b ∨ b < a) : decide (a = b) = false := decide_eq_false (by omega)
theorem zLd {α : Type} {l : List α} {i : Nat} {d : α} (h : i < l.length) : l.getD i d = l[i] := eP h
theorem tE {α β : Type} {f : α → β} {l : List α} {i : Nat} {d : β} (h : i < l.length) : (l.map f).getD i d = f (l[i]) := by rw [zLd (by simpa using h), List.getElem_map]
theorem qL6 : (default : FV) = .v (.bool false) := rfl
theorem qA1 {x : Int} (h1 : -9223372036854775808 ≤ x) (h2 : x ≤ 9223372036854775807) : IntKind.i64.wrap x = x := zPw ⟨by unfold zQb; exact h1, by unfold zQm; exact h2⟩
theorem qGv (n : Nat) : ((n : Int) + 1).toNat = n + 1 := by omega
theorem qNp (n m : Nat) : ((n : Int) + (m : Int)).toNat = n + m := by omega
theorem qGe {α : Type} {f : α → List FV} {sz : Nat} (l : List α) (h : ∀ a, (f a).length = sz) : Wid sz (l.map f) := fun x hx => by
 obtain ⟨a, -, rfl⟩ := List.mem_map.1 hx; exact h a
end Go.Eng
end

section
set_option linter.unusedSimpArgs false
set_option linter.unusedVariables false
namespace Go.Eng
open Go Go.RowKit
def qTv (s : ByteArray) : List FV := [.v (.string s)]
def dH (a : List ByteArray) : List (List FV) := a.map qTv
theorem aX (a : List ByteArray) : (dH a).length = a.length := by simp [dH]
theorem eH (a : List ByteArray) : Wid 1 (dH a) = True := eq_true (qGe a fun _ => rfl)
theorem fD {a : List ByteArray} {i : Nat} {d : List FV} (h : i < a.length) : (dH a).getD i d = [.v (.string a[i])] := by unfold dH; rw [tE h]; rfl
theorem vC (a : List ByteArray) : mT (dH a) = dH a := by
 unfold mT dH; rw [List.map_map]; apply List.map_congr_left; intro s _; simp [qTv, FV.old]
theorem oH (a : List ByteArray) : ∀ x ∈ dH a, ∀ f ∈ x, FreshF f := fun x hx f hf => by
 obtain ⟨s, -, rfl⟩ := List.mem_map.1 hx; simp [qTv] at hf; subst hf; exact .v _
theorem iS (a : List ByteArray) (s : ByteArray) : dH a ++ [[.v (.string s)]] = dH (a ++ [s]) := by simp [dH, qTv]
theorem qTs (a b : List ByteArray) : dH a ++ dH b = dH (a ++ b) := by simp [dH]
theorem qDw (a : List ByteArray) (n : Nat) : (dH a).take n = dH (a.take n) := by simp [dH, List.map_take]
theorem xP (a : List ByteArray) (n : Nat) : (dH a).drop n = dH (a.drop n) := by simp [dH, List.map_drop]
theorem zPj {P : Program} {N : Nat} {x : Code} {Q : eY} {S : HS} (k id ty sz : Nat) (hk : hlk S.env k = some (.v (.slice none 0 0))) (h : HW P N x Q (((S.kill (only id)).row id (.sl true ty sz [])).rep k (.own id))) : HW P N x Q S := fun c l w I => by
 refine h c l w ?_
 obtain ⟨ρ, xs, G⟩ := I
 have G2 := G.new id (.sl true ty sz []) [] (.slice none 0 0) (w' := w) (Below.refl _ _) (fun b hb => by cases hb) (fun _ _ =>
  ⟨by rw [aE]; exact World.ownsRow_nil w 0 ty sz, ⟨by simp, fun i k hi => absurd hi (by simp)⟩, fun b hb => by rw [aE] at hb; cases hb⟩)
 refine ⟨_, _, G2.rows, G2.apart, fun j y hj => ?_, G2.kept, G2.a0⟩
 simp only [HS.rep, qKi] at hj
 by_cases e : j = k
 ·subst e
  rw [if_pos rfl] at hj
  have h1 : hlk ((S.kill (only id)).row id (.sl true ty sz [])).env j = some (.v (.slice none 0 0)) := by
   show hlk (iB (only id) S.env) j = _
   rw [kD, hk]; simp [HV.kill]
  rw [h1] at hj
  simp only [Option.map_some, Option.some.injEq] at hj
  subst hj
  obtain ⟨v, a, b⟩ := G2.env j _ h1
  have := cC b
  subst this
  refine ⟨_, a, ?_⟩
  have := RepH.own (w := w) (A := c.A (eE ρ id (.slice none 0 0)) (((S.kill (only id)).row id (.sl true ty sz [])).rep j (.own id)).st) (n0 := c.n0) (ρ := eE ρ id (.slice none 0 0)) id (by rw [aE]; rfl)
  rw [aE] at this
  exact this
 ·rw [if_neg e] at hj
  exact G2.env j y hj
theorem qC4 {P : Program} {f : FuncId} {args : List HV} {x : Value} (h : ∀ (w : World) (vs : List Value), tU w (fun _ => False) w.heap.size (fun _ => undef) vs args → Calls P f vs.toArray w (Ret fun r w' => r = x ∧ Below w.heap.size w w')) : HFun P f args (fun h st => h = .v x ∧ st = []) := fun w vs R =>
 Ret.mono (h w vs R) fun v w' ⟨hv, B⟩ => ⟨B, .v x, [], fun i r hi => by simp [rlk] at hi, ⟨rfl, rfl⟩, fun _ => undef, fun _ => [], ⟨fun id r hr => by simp [rlk] at hr, fun i j r s b hne hi => by simp [rlk] at hi, fun k x hk => by simp [hlk] at hk, ⟨B.os, B.tape, B.output, B.size, fun b hlt _ => B.block b hlt⟩, fun b hb => ⟨hb, fun h => h⟩⟩, by rw [hv]; exact .v x⟩
theorem aN {st : aD} {fr : Bool} {xs ys : List (List FV)} (h : mT xs = ys) : Lend st (.lst fr xs) (.lst false ys) := h ▸ .lst fr xs
theorem mU {st : aD} {id ty sz : Nat} {nw : Bool} {els ys : List (List FV)} (h : mT els = ys) (hr : rlk st id = some (.sl nw ty sz els)) : Lend st (.own id) (.lst false ys) := h ▸ .own hr
theorem qCt {st : aD} {id ty sz off n : Nat} {nw : Bool} {els ys : List (List FV)} (h : mT ((els.drop off).take n) = ys) (hr : rlk st id = some (.sl nw ty sz els)) : Lend st (.vw id sz off n) (.lst false ys) := h ▸ .vw hr
section
variable {S : HS} {Q : HV → aD → Prop}
theorem aK {a : Value} (q : Q (.v a) []) : qAn S (.v a) Q := ⟨[], by simp, rfl, .v _, fun id h => by simp at h, by rw [HV.ren]; exact q⟩
theorem uH {a b : Value} (q : Q (.tup [.v a, .v b]) []) : qAn S (.tup [.v a, .v b]) Q :=
 ⟨[], by simp, rfl, .tup fun x hx => by simp at hx; rcases hx with rfl | rfl <;> exact .v _, fun id h => by simp at h, by rw [HV.ren]; simp only [List.map_cons, List.map_nil, HV.ren]; exact q⟩
theorem qBf {id ty sz : Nat} {els : List (List FV)} (hr : rlk S.st id = some (.sl true ty sz els)) (hf : ∀ x ∈ els, ∀ f ∈ x, FreshF f) (q : Q (.own 0) [(0, .sl true ty sz els)]) : qAn S (.own id) Q :=
 ⟨[id], by simp, by simp [dup], .own _, fun i h r hr' => by
  simp at h; subst h; rw [hr] at hr'; simp only [Option.some.injEq] at hr'; subst hr'; exact ⟨rfl, hf⟩, by
  rw [HV.ren]; simp only [pos, if_true, gE, hr, Row.ren]; exact q⟩
theorem fP {id ty sz : Nat} {els : List (List FV)} {b : Value} (hr : rlk S.st id = some (.sl true ty sz els)) (hf : ∀ x ∈ els, ∀ f ∈ x, FreshF f) (q : Q (.tup [.own 0, .v b]) [(0, .sl true ty sz els)]) : qAn S (.tup [.own id, .v b]) Q :=
 ⟨[id], by simp, by simp [dup], .tup fun x hx => by simp at hx; rcases hx with rfl | rfl <;> first | exact .v _ | exact .own _, fun i h r hr' => by
  simp at h; subst h; rw [hr] at hr'; simp only [Option.some.injEq] at hr'; subst hr'; exact ⟨rfl, hf⟩, by
  rw [HV.ren]; simp only [List.map_cons, List.map_nil, HV.ren, pos, if_true, gE, hr, Row.ren]; exact q⟩
end
end Go.Eng
end

section
set_option linter.unusedSimpArgs false
set_option linter.unusedVariables false
namespace Go.Eng
open Go Go.RowKit
theorem qUs (j : Nat) : qD3 [] j = none := nr rfl
theorem qPr (k : Nat) (r : List Nat) (j : Nat) : qD3 (k :: r) j = if j = 0 then some k else qD3 r (j - 1) := by cases j <;> simp [qD3]
theorem zFv (ids : List Nat) (n j : Nat) : sh2 ids n j = match qD3 ids j with | some i => some i | none => bif decide (j < 8) then some (n + j) else none := by
 unfold sh2; split <;> rename_i h <;> rw [h]; congr 1; rw [Bool.eq_iff_iff]; simp [Nat.blt_eq]
theorem zA3 (i : Nat) : inL [] i = false := nr rfl
theorem qVc (k : Nat) (r : List Nat) (i : Nat) : inL (k :: r) i = (k == i || inL r i) := nr rfl
theorem qP5 : qYx none = true := nr rfl
theorem zAy (nw : Bool) (t s : Nat) (xs : List (List FV)) : qYx (some (.sl nw t s xs)) = true := nr rfl
theorem zA0 (nw : Bool) (t : Nat) (cs : List HV) : qYx (some (.bx nw t cs)) = false := nr rfl
theorem zAz (nw : Bool) (t s : Nat) (xs : List (List HV)) : qYx (some (.hl nw t s xs)) = true := nr rfl
theorem zA2 (nw : Bool) (t s : Nat) (xs : List (List HV)) : nT (some (.hl nw t s xs)) = False := nr rfl
theorem qP6 : nT none = False := nr rfl
theorem zA1 (nw : Bool) (t s : Nat) (xs : List (List FV)) : nT (some (.sl nw t s xs)) = False := nr rfl
theorem zHd (t : Nat) (cs : List HV) : nT (some (.bx true t cs)) = False := nr rfl
theorem zHe (t : Nat) (cs : List HV) : nT (some (.bx false t cs)) = True := nr rfl
theorem qNo (ids : List Nat) (st : aD) (n i : Nat) : qA2 ids st n i = (eC n i || (inL ids i && qYx (rlk st i))) := nr rfl
theorem zBr (ids : List Nat) (n i : Nat) : qDb ids n i = (eC n i || inL ids i) := nr rfl
theorem qPq (ids : List Nat) (st : aD) (j : Nat) : jD ids st j = match qD3 ids j with | some i => rlk st i | none => none := nr rfl
theorem zCo (nw : Bool) (t s : Nat) (xs : List (List FV)) : (Row.sl nw t s xs).dark = .sl nw t s xs := nr rfl
theorem zCq (nw : Bool) (t : Nat) (cs : List HV) : (Row.bx nw t cs).dark = .bx false t cs := nr rfl
theorem zCp (nw : Bool) (t s : Nat) (xs : List (List HV)) : (Row.hl nw t s xs).dark = .hl nw t s xs := nr rfl
theorem zCj (o : Option Row) (nw : Bool) (t s : Nat) (xs : List (List HV)) : (Row.hl nw t s xs).flag o = .hl nw t s xs := by
 cases o with
 | none => rfl
 | some o => cases o <;> rfl
theorem qWz (r : Row) (nw : Bool) (t s : Nat) (xs : List (List HV)) : r.flag (some (.hl nw t s xs)) = r := by cases r <;> rfl
theorem qRo (r : Row) : r.flag none = r := nr rfl
theorem zCi (o : Option Row) (nw : Bool) (t s : Nat) (xs : List (List FV)) : (Row.sl nw t s xs).flag o = .sl nw t s xs := by
 cases o with
 | none => rfl
 | some o => cases o <;> rfl
theorem zCk (nw n2 : Bool) (t t2 : Nat) (cs c2 : List HV) : (Row.bx n2 t2 c2).flag (some (.bx nw t cs)) = .bx nw t2 c2 := nr rfl
theorem qWy (r : Row) (nw : Bool) (t s : Nat) (xs : List (List FV)) : r.flag (some (.sl nw t s xs)) = r := by cases r <;> rfl
theorem qRv (m : Nat → Option Nat) (st : aD) (k : Nat) : qH m st k [] = [] := nr rfl
theorem qMh (m : Nat → Option Nat) (st : aD) (k id : Nat) (r : List Nat) : qH m st k (id :: r) = match rlk st id with | some row => (k, (row.ren m).dark) :: qH m st (k + 1) r | none => qH m st (k + 1) r := nr rfl
theorem qZr (S0 : aD) (ids : List Nat) (n : Nat) (b : aD) : swp S0 ids n [] b = b := nr rfl
theorem qTr (S0 : aD) (ids : List Nat) (n j : Nat) (r : Row) (t b : aD) : swp S0 ids n ((j, r) :: t) b = ((sh2 ids n j).getD 0, (r.ren (sh2 ids n)).flag (jD ids S0 j)) :: swp S0 ids n t b := nr rfl
theorem qZs (e : aL) (s : aD) (ids : List Nat) (n : Nat) (st : aD) : HS.swap ⟨e, s⟩ ids n st = ⟨iB (qA2 ids s n) e, swp s ids n st (cU (qDb ids n) s)⟩ := nr rfl
theorem kH (st : aD) (k : Nat) : qMr st k [] = True := nr rfl
theorem yL (st : aD) (k id : Nat) (r : List Nat) : qMr st k (id :: r) = ((nT (rlk st id) → k = id) ∧ qMr st (k + 1) r) := nr rfl
theorem kC (ids : List Nat) (st : aD) : qZ ids st [] = True := nr rfl
theorem mW (ids : List Nat) (st : aD) (j : Nat) (nw : Bool) (t s : Nat) (xs : List (List FV)) (r : aD) : qZ ids st ((j, .sl nw t s xs) :: r) = qZ ids st r := nr rfl
theorem mX (ids : List Nat) (st : aD) (j : Nat) (nw : Bool) (t s : Nat) (xs : List (List HV)) (r : aD) : qZ ids st ((j, .hl nw t s xs) :: r) = qZ ids st r := nr rfl
theorem mY (ids : List Nat) (st : aD) (j : Nat) (t : Nat) (cs : List HV) (r : aD) : qZ ids st ((j, .bx true t cs) :: r) = qZ ids st r := nr rfl
theorem mZ (ids : List Nat) (st : aD) (j : Nat) (t : Nat) (cs : List HV) (r : aD) : qZ ids st ((j, .bx false t cs) :: r) = ((qD3 ids j = some j ∧ nT (rlk st j)) ∧ qZ ids st r) := by
 rw [nS]; rfl
theorem qAy (P : Program) (rs : List ResultVar) (st0 : aD) (Q : HV → aD → Prop) (S : HS) : qY0 P rs st0 Q .normal S = rZ P S rs fun hs => qM2 st0 S (qCz hs) Q := rfl
theorem qKk (P : Program) (rs : List ResultVar) (st0 : aD) (Q : HV → aD → Prop) (S : HS) : qY0 P rs st0 Q .ret S = rZ P S rs fun hs => qM2 st0 S (qCz hs) Q := rfl
theorem zMz (ids : List Nat) {st0 : aD} {S : HS} {h : HV} {Q : HV → aD → Prop} (h1 : ids.length ≤ 8) (h2 : dup ids = false) (h3 : qMr S.st 0 ids) (h4 : qZ ids S.st st0) {h' : HV} {st' : aD} (h5 : h.ren (pos ids) = h') (h6 : gE (pos ids) S.st 0 ids = st') (q : Q h' st') : qM2 st0 S h Q :=
 ⟨ids, h1, h2, h3, h4, by rw [h5, h6]; exact q⟩
theorem qVj : qCz [] = .tup [] := nr rfl
section
variable {P : Program} {N : Nat} {x : Code} {Q : eY} {S S' : HS}
theorem qTk (id k nid ty sz : Nat) {nw : Bool} {bt : Nat} {cells : List HV} (hne : id ≠ nid) (hr : rlk S.st id = some (.bx nw bt cells)) (hk : cells[k]? = some (.v (.slice none 0 0)))
  (hs : (⟨iB (only nid) S.env, (nid, .sl true ty sz []) :: iD id (.bx nw bt ((cells.map (HV.kill (only nid))).set k (.own nid))) (cU (only nid) S.st)⟩ : HS) = S') (h : HW P N x Q S') : HW P N x Q S := fun c l w I => by
 subst hs
 refine h c l w ?_
 obtain ⟨ρ, xs, G⟩ := I
 have G2 := G.new nid (.sl true ty sz []) [] (.slice none 0 0) (w' := w) (Below.refl _ _) (fun b hb => by cases hb) (fun _ _ =>
  ⟨by rw [aE]; exact World.ownsRow_nil w 0 ty sz, ⟨by simp, fun i k hi => absurd hi (by simp)⟩, fun b hb => by rw [aE] at hb; cases hb⟩)
 have hr2 : rlk (cU (only nid) S.st) id = some (.bx nw bt (cells.map (HV.kill (only nid)))) := by rw [dY, mC hne, cond_false, hr]; rfl
 have hl : ∀ i, rlk ((nid, Row.sl true ty sz []) :: iD id (.bx nw bt ((cells.map (HV.kill (only nid))).set k (.own nid))) (cU (only nid) S.st)) i =
   if i = id then some (.bx nw bt ((cells.map (HV.kill (only nid))).set k (.own nid))) else rlk ((nid, Row.sl true ty sz []) :: cU (only nid) S.st) i := fun i => by
  simp only [rlk]
  by_cases e : nid = i
  ·rw [if_pos e, if_neg (by omega), if_pos e]
  ·rw [if_neg e, iJ id _ _ _ hr2]
   by_cases e2 : i = id
   ·rw [if_pos e2, if_pos e2]
   ·rw [if_neg e2, if_neg e2, if_neg e]
 have hid : rlk ((nid, Row.sl true ty sz []) :: cU (only nid) S.st) id = some (.bx nw bt (cells.map (HV.kill (only nid)))) := by simp only [rlk]; rw [if_neg (by omega)]; exact hr2
 have hA : ∀ b, c.A (eE ρ nid (.slice none 0 0)) ((nid, Row.sl true ty sz []) :: iD id (.bx nw bt ((cells.map (HV.kill (only nid))).set k (.own nid))) (cU (only nid) S.st)) b → c.A (eE ρ nid (.slice none 0 0)) ((nid, Row.sl true ty sz []) :: cU (only nid) S.st) b := by
  rintro b (h0 | ⟨i, s, hi, hb⟩)
  ·exact .inl h0
  ·right
   rw [hl] at hi
   by_cases e : i = id
   ·subst e; exact ⟨_, _, hid, hb⟩
   ·rw [if_neg e] at hi; exact ⟨i, s, hi, hb⟩
 refine ⟨eE ρ nid (.slice none 0 0), fun i => if i = nid then [] else xs i, ⟨fun i r hi => ?_, fun i j r s b hne hi hj hbi hbj => ?_, fun j y hj => ?_, G2.kept, G2.a0⟩⟩
 ·rw [hl] at hi
  by_cases e : i = id
  ·subst e
   rw [if_pos rfl] at hi
   simp only [Option.some.injEq] at hi
   subst hi
   have R := G2.rows i _ hid
   refine ⟨by simpa [Row.ty, Row.sz, Row.len] using R.own, ⟨R.rep.1, fun q hq => ?_⟩, R.new⟩
   have hq' : q < (cells.map (HV.kill (only nid))).length := by simpa using hq
   obtain ⟨u, u1, u2, u3⟩ := R.rep.2 q hq'
   by_cases eq : k = q
   ·subst eq
    refine ⟨u, u1, u2, ?_⟩
    rw [List.getElem_set_self]
    have hc : cells[k]'(by simpa using hq') = .v (.slice none 0 0) := by
     have := List.getElem?_eq_some_iff.1 hk
     exact this.2
    rw [List.getElem_map, hc, HV.kill] at u3
    have := cC u3
    subst this
    have := RepH.own (w := w) (A := c.A (eE ρ nid (.slice none 0 0)) ((nid, Row.sl true ty sz []) :: iD i (.bx nw bt ((cells.map (HV.kill (only nid))).set k (.own nid))) (cU (only nid) S.st))) (n0 := c.n0) (ρ := eE ρ nid (.slice none 0 0)) nid (by rw [aE]; rfl)
    rw [aE] at this
    exact this
   ·refine ⟨u, u1, u2, ?_⟩
    rw [List.getElem_set_ne eq]
    exact u3.up (Nat.le_refl _) (fun _ _ _ => rfl) (fun b _ => hA b) (Nat.le_refl _)
  ·rw [if_neg e] at hi
   exact (G2.rows i r hi).up (Nat.le_refl _) (fun _ _ _ => rfl) (fun b _ => hA b) (fun _ _ => rfl)
 ·have back : ∀ i s, rlk ((nid, Row.sl true ty sz []) :: iD id (.bx nw bt ((cells.map (HV.kill (only nid))).set k (.own nid))) (cU (only nid) S.st)) i = some s → ∃ s0, rlk ((nid, Row.sl true ty sz []) :: cU (only nid) S.st) i = some s0 := by
   intro i s hi
   rw [hl] at hi
   by_cases e : i = id
   ·subst e; exact ⟨_, hid⟩
   ·rw [if_neg e] at hi; exact ⟨s, hi⟩
  obtain ⟨r0, h1⟩ := back i r hi
  obtain ⟨s0, h2⟩ := back j s hj
  exact G2.apart i j r0 s0 b hne h1 h2 hbi hbj
 ·obtain ⟨v, h1, h2⟩ := G2.env j y hj
  exact ⟨v, h1, h2.up (Nat.le_refl _) (fun _ _ _ => rfl) (fun b _ => hA b) (Nat.le_refl _)⟩
end
def qWb (id : Nat) (R : HS → Prop) (Q : eY) : eY
 | .exit i, S => if i = id then R S else Q (.exit i) S
 | e, S => Q e S
section
variable {P : Program} {N : Nat} {x : Code} {Q : eY} {S : HS} {id : Nat} {R : HS → Prop}
theorem zNw (h : R S) : qWb id R Q (.exit id) S := by simp only [qWb, if_true]; exact h
theorem zPo (h : Q .ret S) : qWb id R Q .ret S := h
theorem zM3 {i : Nat} (hne : (i == id) = false) (h : Q (.exit i) S) : qWb id R Q (.exit i) S := by simp only [qWb]; rw [if_neg (by simpa using hne)]; exact h
end
end Go.Eng
end

section
set_option linter.unusedSimpArgs false
set_option linter.unusedVariables false
namespace Go.Eng
open Go Go.RowKit
def qS4 (R : HS → Prop) (Q : eY) : eY
 | .normal, S => R S
 | e, S => Q e S
section
variable {P : Program} {N : Nat} {x : Code} {Q : eY} {S : HS} {R : HS → Prop}
theorem jJ (h : R S) : qS4 R Q .normal S := h
theorem zNu (h : Q .ret S) : qS4 R Q .ret S := h
theorem zM0 {i : Nat} (h : Q (.exit i) S) : qS4 R Q (.exit i) S := h
theorem jR {ι : Type} (E : ι → HS) (I : ι → Prop) (ks ids : List Nat) (hx : HW P N x (qS4 (fun S' => ∃ j, S'.keep ks ids = E j ∧ I j) Q) S) (hy : ∀ S' j, S'.keep ks ids = E j → I j → Q .normal S') : HW P N x Q S :=
 hx.mono fun e S' h => by
  cases e with
  | normal => obtain ⟨j, hE, hI⟩ := h; exact hy S' j hE hI
  | _ => exact h
end
theorem eD {P : Program} {N : Nat} {x : Code} {Q : eY} {S S' : HS} (k id ty sz : Nat) (hk : hlk S.env k = some (.v (.slice none 0 0))) (hs : ((S.kill (only id)).row id (.sl true ty sz [])).rep k (.own id) = S') (h : HW P N x Q S') : HW P N x Q S := zPj k id ty sz hk (hs ▸ h)
end Go.Eng
end

section
set_option linter.unusedSimpArgs false
set_option linter.unusedVariables false
namespace Go.Eng
open Go Go.RowKit
theorem qEn {P : Program} {N : Nat} {ds : List (Option Nat)} {K : Env → World → Prop} : ∀ {ops more : List Oper} {l : Env} {w : World}, VC P N ds (fun l w => VC P N ds K more l w) ops l w → VC P N ds K (ops ++ more) l w
 | [], more, l, w, h => by rw [VC] at h; exact h
 | o :: rest, more, l, w, h => by
  rw [List.cons_append]
  rw [VC] at h ⊢
  obtain ⟨b, hb, hd, h⟩ := qS9 h
  have conv : ∀ {k : Bool → Prop}, k b → gd l ds o.guard k := by
   intro k hkb
   unfold gd at hb ⊢
   split
   ·rename_i hg; rw [hg] at hb; dsimp only at hb; rw [hb]; exact hkb
   ·rename_i j want hg
    rw [hg] at hb
    dsimp only at hb
    split
    ·rename_i d hd'
     rw [hd'] at hb
     dsimp only at hb
     split
     ·rename_i b' hb'; rw [hb'] at hb; dsimp only at hb; rw [hb]; exact hkb
     ·rename_i v hv hb'
      rw [hb'] at hb
      cases v <;> dsimp only at hb <;> first | (exact (hv _ rfl).elim) | (rw [hb]; exact hkb)
     ·rename_i hb'; rw [hb'] at hb; exact hb.elim
    ·rename_i hn
     split at hb
     ·rename_i d hd'; exact (hn d hd').elim
     ·exact hb.elim
  refine conv ⟨hd, ?_⟩
  cases b with
  | true => exact aZ h fun v w' hv => qEn hv
  | false => exact qEn h
section
variable {P : Program} {N : Nat} {ds : List (Option Nat)} {K : HS → Prop} {S : HS} {Q : eY}
def qZj (P : Program) (N : Nat) (ds : List (Option Nat)) (K : HS → Prop) (ops : List Oper) (S : HS) : Prop :=
 ∀ (c : Ctx) (l : Env) (w : World), Inv c S (lk l) w → VC P N ds (fun l w => ∃ S', Inv c S' (lk l) w ∧ K S') ops l w
theorem zJ8 {ops : List Oper} (h : HV2 P N ds K ops S) : qZj P N ds K ops S := fun c l w I => xJ (c := c) ops S l w h I
theorem zJ9 {ops : List Oper} (n : Nat) (ks ids : List Nat) (h : HV2 P N ds (fun S' => kK (qZj P N ds K (ops.drop n)) (S'.keep ks ids)) (ops.take n) S) : qZj P N ds K ops S := fun c l w I => by
 have := xJ (c := c) (ops.take n) S l w h I
 rw [← List.take_append_drop n ops]
 exact qEn (zJ.V.mono this fun l' w' ⟨S', I', q⟩ => (show qZj P N ds K (ops.drop n) (S'.keep ks ids) from q) c l' w' (I'.keep ks ids))
theorem zLy {id : Nat} {ops : List Oper} (h : ∀ K : HS → Prop, (∀ S', Q .normal S' → K S') → qZj P N (dB ops) K ops S) : HW P N (.region id ops.toArray false) Q S := fun c l w I =>
 qM1 fun K hK => by
  have := h (Q .normal) (fun _ h => h) c l w I
  exact (zJ.V.mono this fun l' w' h => hK l' w' h)
end
end Go.Eng
end

section
set_option linter.unusedSimpArgs false
set_option linter.unusedVariables false
namespace Go.Eng
open Go Go.RowKit
def nm (a b : Nat) : Nat → Option Nat := fun i => if i = a then some b else if i = b then none else some i
def qW4 (m : Nat → Option Nat) : aL → aL
 | [] => []
 | (k, h) :: r => (k, h.ren m) :: qW4 m r
def qSj (a b : Nat) : aD → aD
 | [] => []
 | (k, r) :: t => (if k = a then b else k, r.ren (nm a b)) :: qSj a b t
def HS.name (S : HS) (a b : Nat) : HS := ⟨qW4 (nm a b) S.env, qSj a b S.st⟩
theorem qVx (m : Nat → Option Nat) : ∀ (l : aL) (k : Nat), hlk (qW4 m l) k = (hlk l k).map (HV.ren m)
 | [], k => rfl
 | (j, h) :: r, k => by
  simp only [qW4, hlk]
  split
  ·rfl
  ·exact qVx m r k
theorem qUa {a b : Nat} (hab : a ≠ b) : ∀ (l : aD) (_ : rlk l b = none) (k : Nat), rlk (qSj a b l) k = if k = b then (rlk l a).map (Row.ren (nm a b)) else if k = a then none else (rlk l k).map (Row.ren (nm a b))
 | [], _, k => by simp [qSj, rlk]
 | (j, r) :: t, h, k => by
  simp only [rlk] at h
  by_cases hj : j = b
  ·rw [if_pos hj] at h; cases h
  ·rw [if_neg hj] at h
   have ih := qUa hab t h k
   simp only [qSj, rlk]
   by_cases e : j = a
   ·subst e
    rw [if_pos rfl, if_pos rfl]
    by_cases e2 : k = b
    ·subst e2; rw [if_pos rfl, if_pos rfl]; rfl
    ·rw [if_neg (by omega), ih, if_neg e2, if_neg e2]
     by_cases e3 : k = j
     ·rw [if_pos e3, if_pos e3]
     ·rw [if_neg e3, if_neg e3, if_neg (by omega)]
   ·rw [if_neg e, if_neg e]
    by_cases e2 : j = k
    ·subst e2; rw [if_pos rfl, if_neg hj, if_neg e, if_pos rfl]; rfl
    ·rw [if_neg e2, ih, if_neg e2]
section
variable {P : Program} {N : Nat} {x : Code} {Q : eY} {c : Ctx} {S S' : HS} {look : Nat → Option Value} {w : World}
theorem Inv.name (I : Inv c S look w) {a b ty sz : Nat} {nw : Bool} {els : List (List FV)} (hab : a ≠ b) (hb : rlk S.st b = none) (ha : rlk S.st a = some (.sl nw ty sz els)) : Inv c (S.name a b) look w := by
 obtain ⟨ρ, xs, G⟩ := I
 let ρ' : Nat → Value := fun i => if i = b then ρ a else ρ i
 let xs' : Nat → List Value := fun i => if i = b then xs a else xs i
 have hm : ∀ i j, nm a b i = some j → ρ' j = ρ i := fun i j h => by
  unfold nm at h
  by_cases e : i = a
  ·rw [if_pos e] at h; simp only [Option.some.injEq] at h; subst h; subst e; show (if b = b then _ else _) = _; rw [if_pos rfl]
  ·rw [if_neg e] at h
   by_cases e2 : i = b
   ·rw [if_pos e2] at h; cases h
   ·rw [if_neg e2] at h; simp only [Option.some.injEq] at h; subst h; show (if i = b then _ else _) = _; rw [if_neg e2]
 have back : ∀ i r, rlk (S.name a b).st i = some r → ∃ j r0, nm a b j = some i ∧ rlk S.st j = some r0 ∧ r = r0.ren (nm a b) ∧ xs' i = xs j := by
  intro i r hi
  simp only [HS.name, qUa hab _ hb] at hi
  by_cases e : i = b
  ·subst e
   rw [if_pos rfl, ha] at hi
   simp only [Option.map_some, Option.some.injEq] at hi
   exact ⟨a, _, by simp [nm], ha, hi.symm, by show (if i = i then _ else _) = _; rw [if_pos rfl]⟩
  ·rw [if_neg e] at hi
   by_cases e2 : i = a
   ·rw [if_pos e2] at hi; cases hi
   ·rw [if_neg e2] at hi
    cases hs : rlk S.st i with
    | none => rw [hs] at hi; cases hi
    | some r0 =>
     rw [hs] at hi
     simp only [Option.map_some, Option.some.injEq] at hi
     exact ⟨i, r0, by simp [nm, e, e2], hs, hi.symm, by show (if i = b then _ else _) = _; rw [if_neg e]⟩
 have hA : ∀ g, c.A ρ' (S.name a b).st g → c.A ρ S.st g := by
  rintro g (h0 | ⟨i, r, hi, hg⟩)
  ·exact .inl h0
  ·obtain ⟨j, r0, h1, h2, -, -⟩ := back i r hi
   rw [hm j i h1] at hg
   exact .inr ⟨j, r0, h2, hg⟩
 have tr : ∀ v y, RepH w (c.A ρ S.st) c.n0 ρ v y → RepH w (c.A ρ' (S.name a b).st) c.n0 ρ' v (y.ren (nm a b)) := fun v y h => (h.up (Nat.le_refl _) (fun _ _ _ => rfl) (fun b _ => hA b) (Nat.le_refl _)).ren hm
 refine ⟨ρ', xs', fun i r hi => ?_, fun i j r s g hne hi hj hgi hgj => ?_, fun k y hk => ?_, G.kept, G.a0⟩
 ·obtain ⟨j, r0, h1, h2, rfl, h4⟩ := back i r hi
  have R := G.rows j r0 h2
  obtain ⟨f1, f2, f3, f4⟩ := Row.ren_facts (nm a b) r0
  rw [h4]
  refine ⟨by rw [f1, f2, f3, hm j i h1]; exact R.own, ?_, fun g hg => by rw [f4]; rw [hm j i h1] at hg; exact R.new g hg⟩
  have rp := R.rep
  cases r0 with
  | sl nw ty sz els =>
   refine ⟨rp.1, fun p k hp hk => ?_⟩
   obtain ⟨u, u1, u2, u3⟩ := rp.2 p k hp hk
   exact ⟨u, u1, u2, u3.up (Nat.le_refl _) (fun _ _ _ => rfl) (fun b _ => hA b) (Nat.le_refl _)⟩
  | bx nw ty cells =>
   refine ⟨?_, fun k hk => ?_⟩
   ·have hji : j = i := by
     unfold nm at h1
     by_cases e : j = a
     ·subst e; rw [ha] at h2; cases h2
     ·rw [if_neg e] at h1
      by_cases e2 : j = b
      ·rw [if_pos e2] at h1; cases h1
      ·rw [if_neg e2] at h1; exact Option.some.inj h1
    rw [hm j i h1]
    rw [← hji]
    exact rp.1
   ·rw [List.length_map] at hk
    obtain ⟨u, u1, u2, u3⟩ := rp.2 k hk
    refine ⟨u, u1, u2, ?_⟩
    rw [List.getElem_map]
    exact tr _ _ u3
  | hl nw ty sz els =>
   refine ⟨fun y hy => ?_, fun p k hp hk => ?_⟩
   ·obtain ⟨z, hz, rfl⟩ := List.mem_map.1 hy
    rw [List.length_map]; exact rp.1 z hz
   ·simp only [List.length_map] at hp
    simp only [List.getElem_map, List.length_map] at hk ⊢
    obtain ⟨u, u1, u2, u3⟩ := rp.2 p k hp hk
    exact ⟨u, u1, u2, tr _ _ u3⟩
 ·obtain ⟨i', r0, h1, h2, -, -⟩ := back i r hi
  obtain ⟨j', s0, h3, h4, -, -⟩ := back j s hj
  rw [hm i' i h1] at hgi
  rw [hm j' j h3] at hgj
  exact G.apart i' j' r0 s0 g (fun e => hne (by subst e; rw [h1] at h3; exact Option.some.inj h3)) h2 h4 hgi hgj
 ·simp only [HS.name, qVx] at hk
  cases hx0 : hlk S.env k with
  | none => rw [hx0] at hk; cases hk
  | some x0 =>
   rw [hx0] at hk
   simp only [Option.map_some, Option.some.injEq] at hk
   subst hk
   obtain ⟨v, h1, h2⟩ := G.env k x0 hx0
   exact ⟨v, h1, tr v x0 h2⟩
theorem lF (a b : Nat) {ty sz : Nat} {nw : Bool} {els : List (List FV)} (hab : a ≠ b) (hb : rlk S.st b = none) (ha : rlk S.st a = some (.sl nw ty sz els)) (hs : S.name a b = S') (h : HW P N x Q S') : HW P N x Q S := fun c l w I => h c l w (hs ▸ I.name hab hb ha)
def HV.trim (id n : Nat) : HV → HV
 | .own i => if i = id then .junk else .own i
 | .vw i sz o k => if i = id then (if o = 0 ∧ k = n then .own id else .junk) else .vw i sz o k
 | .ptr i sz j k => if i = id then .junk else .ptr i sz j k
 | .agg cs => .agg (cs.map (trim id n))
 | .tup cs => .tup (cs.map (trim id n))
 | .v x => .v x
 | .lst fr xs => .lst fr xs
 | .elt fr xs sz i k => .elt fr xs sz i k
 | .junk => .junk
def Row.trim (id n : Nat) : Row → Row
 | .sl nw t s xs => .sl nw t s xs
 | .bx nw t cs => .bx nw t (cs.map (HV.trim id n))
 | .hl nw t s xs => .hl nw t s (xs.map (List.map (HV.trim id n)))
def qF7 (id n : Nat) : aL → aL
 | [] => []
 | (k, h) :: r => (k, h.trim id n) :: qF7 id n r
def qB0 (id n : Nat) : aD → aD
 | [] => []
 | (k, r) :: t => (if k = id then (k, match r with | .sl nw t s xs => .sl nw t s (xs.take n) | r => r) else (k, r.trim id n)) :: qB0 id n t
def HS.trim (S : HS) (id n : Nat) : HS := ⟨qF7 id n S.env, qB0 id n S.st⟩
theorem qQl (id n : Nat) : ∀ (l : aL) (k : Nat), hlk (qF7 id n l) k = (hlk l k).map (HV.trim id n)
 | [], k => rfl
 | (j, h) :: r, k => by
  simp only [qF7, hlk]
  split
  ·rfl
  ·exact qQl id n r k
theorem qN5 (id n : Nat) : ∀ (l : aD) (k : Nat), rlk (qB0 id n l) k = if k = id then (rlk l k).map (fun r => match r with | .sl nw t s xs => .sl nw t s (xs.take n) | r => r) else (rlk l k).map (Row.trim id n)
 | [], k => by simp [qB0, rlk]
 | (j, r) :: t, k => by
  have ih := qN5 id n t k
  simp only [qB0]
  by_cases e : j = id
  ·subst e
   rw [if_pos rfl]
   simp only [rlk]
   by_cases e2 : j = k
   ·subst e2; rw [if_pos rfl, if_pos rfl, if_pos rfl]; rfl
   ·rw [if_neg e2, if_neg e2]; exact ih
  ·rw [if_neg e]
   simp only [rlk]
   by_cases e2 : j = k
   ·subst e2; rw [if_pos rfl, if_neg e, if_pos rfl]; rfl
   ·rw [if_neg e2, if_neg e2]; exact ih
end
theorem kU (e : aL) (s : aD) (a b : Nat) : HS.name ⟨e, s⟩ a b = ⟨qW4 (nm a b) e, qSj a b s⟩ := rfl
theorem wD (a b i : Nat) : nm a b i = if i = a then some b else if i = b then none else some i := rfl
theorem iM (m : Nat → Option Nat) : qW4 m [] = [] := rfl
theorem gA (m : Nat → Option Nat) (k : Nat) (h : HV) (r : aL) : qW4 m ((k, h) :: r) = (k, h.ren m) :: qW4 m r := rfl
theorem iH (a b : Nat) : qSj a b [] = [] := rfl
theorem fX (a b k : Nat) (r : Row) (t : aD) : qSj a b ((k, r) :: t) = (if k = a then b else k, r.ren (nm a b)) :: qSj a b t := rfl
theorem qSg (e : aL) (s : aD) (id n : Nat) : HS.trim ⟨e, s⟩ id n = ⟨qF7 id n e, qB0 id n s⟩ := rfl
theorem qEi (id n : Nat) : qF7 id n [] = [] := rfl
theorem qBl (id n k : Nat) (h : HV) (r : aL) : qF7 id n ((k, h) :: r) = (k, h.trim id n) :: qF7 id n r := rfl
theorem qDx (id n : Nat) : qB0 id n [] = [] := rfl
theorem qA4 (id n k : Nat) (r : Row) (t : aD) : qB0 id n ((k, r) :: t) = (if k = id then (k, match r with | .sl nw t s xs => .sl nw t s (xs.take n) | r => r) else (k, r.trim id n)) :: qB0 id n t := rfl
theorem qS3 (id n : Nat) (x : Value) : (HV.v x).trim id n = .v x := by rw [HV.trim]
theorem qEb (id n : Nat) (fr : Bool) (xs : List (List FV)) : (HV.lst fr xs).trim id n = .lst fr xs := by rw [HV.trim]
theorem qEa (id n i : Nat) : (HV.own i).trim id n = if i = id then .junk else .own i := by rw [HV.trim]
theorem qJ5 (id n i sz o k : Nat) : (HV.vw i sz o k).trim id n = if i = id then (if o = 0 ∧ k = n then .own id else .junk) else .vw i sz o k := by rw [HV.trim]
theorem qD9 (id n i sz j k : Nat) : (HV.ptr i sz j k).trim id n = if i = id then .junk else .ptr i sz j k := by rw [HV.trim]
theorem qD8 (id n : Nat) (cs : List HV) : (HV.tup cs).trim id n = .tup (cs.map (HV.trim id n)) := by rw [HV.trim]
theorem qEc (id n : Nat) (cs : List HV) : (HV.agg cs).trim id n = .agg (cs.map (HV.trim id n)) := by rw [HV.trim]
theorem qBe (id n : Nat) : HV.junk.trim id n = .junk := by rw [HV.trim]
theorem qHh (id n : Nat) (nw : Bool) (t s : Nat) (xs : List (List FV)) : (Row.sl nw t s xs).trim id n = .sl nw t s xs := rfl
theorem qHj (id n : Nat) (nw : Bool) (t : Nat) (cs : List HV) : (Row.bx nw t cs).trim id n = .bx nw t (cs.map (HV.trim id n)) := rfl
theorem qHi (id n : Nat) (nw : Bool) (t s : Nat) (xs : List (List HV)) : (Row.hl nw t s xs).trim id n = .hl nw t s (xs.map (List.map (HV.trim id n))) := rfl
end Go.Eng
end
