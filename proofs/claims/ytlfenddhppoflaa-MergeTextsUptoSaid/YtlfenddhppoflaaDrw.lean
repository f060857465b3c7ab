/- What the walk of the law stands on. -/
import Derived.Test.YtlfenddhppoflaaGd
set_option linter.unusedSimpArgs false
set_option linter.unusedVariables false
namespace Go.Eng
open Go Go.RowKit
def regOkW (keys : List Nat) (ops : List Oper) (n : Nat) : Bool :=
 (decide (n ≤ ops.length)) && ops.all noSel &&
 ((List.range ops.length).all fun i => match ops[i]? with
  | some o => o.after.all fun e => !Region.binds .any e || decide (e.on < i)
  | none => true) &&
 ((List.range n).all fun i => match ops[i]? with
  | none => false
  | some o => (o.looksAt ops.toArray).all fun t =>
   ((List.range n).all fun j => dstAt ops j != some t || (decide (j < i) && edgeB ops i j) || edgeB ops j i) &&
   (((List.range i).any fun j => dstAt ops j == some t) || keys.contains t)) &&
 ((List.range n).all fun i => (List.range i).all fun j => dstAt ops i == none || dstAt ops i != dstAt ops j) &&
 ((List.range ops.length).all fun i => decide (i < n) || (List.range i).all fun j => (List.range (i + 1)).any fun k => decide (j < k) && edgeB ops k j)
section
variable {P : Program} {N : Nat} {ops : List Oper} {n : Nat} {l : Env} {vs : Nat → Value}
structure RegOkW (keys : List Nat) (ops : List Oper) (n : Nat) : Prop where
 hn : n ≤ ops.length
 sel : ∀ (i : Nat) (o : Oper), ops[i]? = some o → ∀ (cs : Array SelectCase) (b : Bool), o.op ≠ Op.select cs b
 down : ∀ (i : Nat) (o : Oper) (e : Edge), ops[i]? = some o → e ∈ o.after → Region.binds .any e = true → e.on < i
 looks : ∀ (i : Nat) (o : Oper) (t : Nat), i < n → ops[i]? = some o → t ∈ o.looksAt ops.toArray → (∀ j, j < n → dstAt ops j = some t → (j < i ∧ edgeB ops i j = true) ∨ edgeB ops j i = true) ∧ ((∃ j, j < i ∧ dstAt ops j = some t) ∨ t ∈ keys)
 uniq : ∀ i j, i < n → j < i → dstAt ops i = none ∨ dstAt ops i ≠ dstAt ops j
 tail : ∀ i j, i < ops.length → n ≤ i → j < i → ∃ k, k ≤ i ∧ j < k ∧ edgeB ops k j = true
theorem regOkW_spec {keys : List Nat} (h : regOkW keys ops n = true) : RegOkW keys ops n := by
 simp only [regOkW, Bool.and_eq_true, decide_eq_true_eq, List.all_eq_true, List.mem_range] at h
 obtain ⟨⟨⟨⟨⟨h1, h2⟩, h3⟩, h4⟩, h5⟩, h6⟩ := h
 refine ⟨h1, ?_, ?_, ?_, ?_, ?_⟩
 ·intro i o ho cs b e
  have := h2 o (List.mem_of_getElem? ho)
  simp [noSel, e] at this
 ·intro i o e ho he hb
  have hi : i < ops.length := (List.getElem?_eq_some_iff.1 ho).1
  have := h3 i hi
  rw [ho] at this
  simp only [Array.all_eq_true_iff_forall_mem] at this
  have := this e he
  rw [hb] at this
  simpa using this
 ·intro i o t hi ho ht
  have := h4 i hi
  rw [ho] at this
  simp only [List.all_eq_true] at this
  have := this t ht
  simp only [Bool.and_eq_true, List.all_eq_true, List.mem_range, Bool.or_eq_true, List.any_eq_true, bne_iff_ne, ne_eq, decide_eq_true_eq, beq_iff_eq, List.contains_iff_mem] at this
  obtain ⟨a1, a2⟩ := this
  exact ⟨fun j hj hd => by
   rcases a1 j hj with (e | e) | e
   ·exact absurd hd e
   ·exact .inl e
   ·exact .inr e, a2⟩
 ·intro i j hi hj
  have := h5 i hi j hj
  simpa only [Bool.or_eq_true, beq_iff_eq, bne_iff_ne] using this
 ·intro i j hi hni hj
  have := h6 i hi
  simp only [Bool.or_eq_true, decide_eq_true_eq, List.all_eq_true, List.mem_range, List.any_eq_true, Bool.and_eq_true] at this
  rcases this with h | h
  ·omega
  ·obtain ⟨k, h1, h2, h3⟩ := h j hj
   exact ⟨k, by omega, h2, h3⟩
theorem drawn_tailW {keys : List Nat} (ok : RegOkW keys ops n) {Q : Exit → Act → World → Prop} : ∀ (fuel m : Nat) (listed : Array Bool) (a : Act) (w : World), m + fuel = ops.length → n ≤ m → listed.size = ops.length →
  (∀ i, i < ops.length → (listed.getD i false = true ↔ i < m)) → wpList P ops.toArray Q (ops.drop m) a w → wpAny P .any ops.toArray Q fuel listed a w
 | 0, m, listed, a, w, hm, _, hs, hl, h => by
  have hmem : ∀ i, ¬ i ∈ Region.ready .any ops.toArray listed := fun i hi => by
   obtain ⟨h0, o, ho, _⟩ := mem_ready.1 hi
   have hi' : i < ops.length := by simpa using (Array.getElem?_eq_some_iff.1 ho).1
   have := (hl i hi').2 (by omega)
   rw [getD_both h0] at this; cases this
  refine ⟨List.eq_nil_iff_forall_not_mem.2 hmem, ?_⟩
  rw [List.drop_eq_nil_of_le (by omega)] at h
  exact h
 | fuel + 1, m, listed, a, w, hm, hnm, hs, hl, h => by
  have hmlt : m < ops.length := by omega
  have ho : ops[m]? = some (ops[m]'hmlt) := List.getElem?_eq_getElem _
  have hmem : ∀ i, i ∈ Region.ready .any ops.toArray listed → i = m := fun i hi => by
   obtain ⟨h0, o, ho, _⟩ := mem_ready.1 hi
   have hi' : i < ops.length := by simpa using (Array.getElem?_eq_some_iff.1 ho).1
   have h1 : ¬ i < m := fun hlt => by
    have := (hl i hi').2 hlt
    rw [getD_both h0] at this; cases this
   rcases Nat.lt_or_ge m i with hlt | hge
   ·exfalso
    have key : ∀ d j, i - j = d → m ≤ j → j < i → listed.getD j false = true := by
     intro d
     induction d using Nat.strongRecOn with
     | _ d ih =>
      intro j hd hmj hji
      obtain ⟨k, hk1, hk2, hk3⟩ := ok.tail i j hi' (by omega) hji
      rcases Nat.lt_or_ge k i with hki | hki
      ·have hlk := ih (i - k) (by omega) k rfl (by omega) hki
       have := (hl k (by omega)).1 hlk
       omega
      ·have : k = i := by omega
       subst this
       exact ready_edge hi hk3
    have := (hl m hmlt).1 (key _ m rfl (Nat.le_refl _) hlt)
    omega
   ·omega
  have hm_ready : m ∈ Region.ready .any ops.toArray listed := by
   refine mem_ready.2 ⟨?_, ops[m]'hmlt, by simp, fun e he hb => ?_⟩
   ·have : listed.getD m false ≠ true := fun e => by have := (hl m hmlt).1 e; omega
    have h2 : m < listed.size := by omega
    simp only [Array.getD, h2, dite_true] at this ⊢
    simpa using this
   ·have := ok.down m _ e ho he hb
    exact (hl e.on (by omega)).2 this
  refine ⟨fun h0 => absurd hm_ready (by rw [h0]; simp), fun i hi => ?_⟩
  have := hmem i hi
  subst this
  rw [List.drop_eq_getElem_cons hmlt] at h
  unfold wpOp
  simp only [List.getElem?_toArray, ho]
  unfold wpList at h
  have next : ∀ a' w', wpList P ops.toArray Q (ops.drop (i + 1)) a' w' → wpAny P .any ops.toArray Q fuel (listed.setIfInBounds i true) a' w' := fun a' w' h' =>
   drawn_tailW ok fuel (i + 1) _ a' w' (by omega) (by omega) (by simpa using hs) (fun j hj => by
    by_cases e : i = j
    ·subst e
     have : i < listed.size := by omega
     simp [this]
    ·rw [getD_set_ne false e, hl j hj]; omega) h'
  split
  ·rename_i hw; rw [if_pos hw] at h; exact h.imp (Oper.wp_mono next) id
  ·rename_i hw; rw [if_neg hw] at h; exact next _ _ h

theorem drawn_invW {keys : List Nat} (ok : RegOkW keys ops n) (F : Fr N) (hk : keysLt N l = true) (hkeys : ∀ t ∈ keys, ∃ v, lk l t = some v) (hlt : DLt N ops n)
  {J : (Nat → Bool) → (Nat → Value) → World → Prop}
  (H : ∀ i o, i < n → ops[i]? = some o → ∀ (L : Nat → Bool) (vs : Nat → Value) (w : World), J L vs w → L i = false → (∀ j, edgeB ops i j = true → L j = true) → (∀ k j, L k = true → edgeB ops k j = true → L j = true) →
   ∃ b, gd (envE l ops vs i) (dsts ops) o.guard (· = b) ∧ (b = true → Yields P (execOp (evD (envE l ops vs i)) o) w fun u w' => J (fun j => if j = i then true else L j) (fun j => if j = i then u else vs j) w') ∧ (b = false → J (fun j => if j = i then true else L j) (fun j => if j = i then undef else vs j) w))
  {Q : Exit → Act → World → Prop} (hT : ∀ (L : Nat → Bool) (vs : Nat → Value) (w : World), J L vs w → (∀ j, j < n → L j = true) → wpList P ops.toArray Q (ops.drop n) (mk F (envE l ops vs n)) w) :
  ∀ (fuel : Nat) (listed : Array Bool) (a : Act) (w : World) (vs : Nat → Value), unl listed = fuel → Mid N (fun _ => True) ops n (sets F.base l) vs listed a w → J (fun j => listed.getD j false) vs w → wpAny P .any ops.toArray Q fuel listed a w := by
 have uniq : ∀ i j t, i < n → j < n → dstAt ops i = some t → dstAt ops j = some t → i = j := by
  intro i j t hi hj h1 h2
  rcases Nat.lt_trichotomy i j with h | h | h
  ·rcases ok.uniq j i hj h with e | e
   ·rw [h2] at e; cases e
   ·exact absurd (h2.trans h1.symm) e
  ·exact h
  ·rcases ok.uniq i j hi h with e | e
   ·rw [h1] at e; cases e
   ·exact absurd (h1.trans h2.symm) e
 have final : ∀ (listed : Array Bool) (a : Act) (w : World) (vs : Nat → Value), Mid N (fun _ => True) ops n (sets F.base l) vs listed a w → (∀ j, j < n → listed.getD j false = true) → a = mk F (envE l ops vs n) := by
  intro listed a w vs M hall
  obtain ⟨tm, df⟩ := a
  have hd : df = [] := M.defers
  subst hd
  show Act.mk _ _ = Act.mk _ _
  congr 1
  apply Array.ext_getElem?
  intro t
  by_cases h : ∃ j, j < n ∧ dstAt ops j = some t
  ·obtain ⟨j, hj, hd⟩ := h
   have h1 := M.new j t hj (hall j hj) hd
   have h2 := (envE_new (l := l) (vs := vs) hlt F.hN hd (fun k hk hne e => hne (uniq k j t hk hj e hd)) n (Nat.le_refl _) hj).2
   exact h1.trans h2.symm
  ·have h' : ∀ j, j < n → dstAt ops j ≠ some t := fun j hj e => h ⟨j, hj, e⟩
   have h1 := M.old t (fun j hj _ => h' j hj)
   have h2 := (envE_old (l := l) (vs := vs) F.base t n h').2
   exact h1.trans h2.symm
 have slot : ∀ (listed : Array Bool) (a : Act) (w : World) (vs : Nat → Value) (i : Nat) (o : Oper) (t : Nat), Mid N (fun _ => True) ops n (sets F.base l) vs listed a w → i < n → ops[i]? = some o → i ∈ Region.ready .any ops.toArray listed → t ∈ o.looksAt ops.toArray →
   ∃ X, a.tmps[t]? = some X ∧ lk (envE l ops vs i) t = some X := by
  intro listed a w vs i o t M hi ho hr ht
  obtain ⟨l1, l2⟩ := ok.looks i o t hi ho ht
  have hdown : ∀ j k, edgeB ops j k = true → k < j := fun j k e => by
   unfold edgeB at e
   split at e
   ·rename_i oj hoj
    simp only [Array.any_eq_true] at e
    obtain ⟨q, hq, e⟩ := e
    simp only [Bool.and_eq_true, beq_iff_eq] at e
    have := ok.down j oj _ hoj (Array.getElem_mem hq) e.1
    omega
   ·cases e
  have hnl : ¬ listed.getD i false = true := fun e => by
   have := (mem_ready.1 hr).1
   rw [getD_both this] at e; cases e
  by_cases h : ∃ j, j < i ∧ dstAt ops j = some t
  ·obtain ⟨j, hj, hd⟩ := h
   rcases l1 j (by omega) hd with ⟨hji, he⟩ | he
   ·exact ⟨vs j, M.new j t (by omega) (ready_edge hr he) hd, (envE_new (l := l) (vs := vs) hlt F.hN hd (fun k hk hne e => hne (uniq k j t hk (by omega) e hd)) i (by omega) hji).1⟩
   ·have := hdown j i he; omega
  ·have h' : ∀ j, j < i → dstAt ops j ≠ some t := fun j hj e => h ⟨j, hj, e⟩
   rcases l2 with ⟨j, hj, hd⟩ | hkey
   ·exact absurd hd (h' j hj)
   ·obtain ⟨v, hv⟩ := hkeys t hkey
    refine ⟨v, ?_, ?_⟩
    ·rw [M.old t (fun j hj hl hd => by
      rcases l1 j hj hd with ⟨hji, -⟩ | he
      ·exact h' j hji hd
      ·exact hnl (M.clos j i hl he))]; exact get_sets F hk hv
    ·rw [(envE_old (l := l) (vs := vs) F.base t i h').1]; exact hv
 intro fuel
 induction fuel with
 | zero =>
  intro listed a w vs hu M MR
  have hall : ∀ j, j < ops.length → listed.getD j false = true := fun j hj => unl_zero hu (by rw [M.size]; exact hj)
  have hn : n = ops.length := by
   rcases Nat.lt_or_ge n ops.length with h | h
   ·have := M.heads n (hall n h); omega
   ·have := ok.hn; omega
  have ha := final listed a w vs M (fun j hj => hall j (by omega))
  subst ha
  exact drawn_tailW ok 0 n listed _ w (by omega) (Nat.le_refl _) M.size (fun i hi => ⟨fun _ => by omega, fun _ => hall i hi⟩) (hT _ vs w MR fun j hj => hall j (by omega))
 | succ fuel ih =>
  intro listed a w vs hu M MR
  by_cases hdone : ∀ j, j < n → listed.getD j false = true
  ·have ha := final listed a w vs M hdone
   subst ha
   have hcount : ∀ (m : Nat) (x : Array Bool), x.size = ops.length → (∀ i, i < ops.length → (x.getD i false = true ↔ i < m)) → m ≤ ops.length → m + unl x = ops.length := by
    intro m
    generalize hd : ops.length - m = d
    induction d generalizing m with
    | zero =>
     intro x hx hl hm
     have : unl x = 0 := by
      unfold unl
      rw [List.length_eq_zero_iff, List.filter_eq_nil_iff]
      intro b hb
      obtain ⟨i, hi, rfl⟩ := List.getElem_of_mem hb
      have hi' : i < x.size := by simpa using hi
      have := (hl i (by omega)).2 (by omega)
      simp only [Array.getD, hi', dite_true] at this
      simp [show x.toList[i] = true from this]
     omega
    | succ d ihd =>
     intro x hx hl hm
     have hmlt : m < ops.length := by omega
     have h0 : x.getD m true = false := by
      have : ¬ x.getD m false = true := fun e => by have := (hl m hmlt).1 e; omega
      have hm' : m < x.size := by omega
      simp only [Array.getD, hm', dite_true] at this ⊢
      simpa using this
     have := ihd (m + 1) (by omega) (x.setIfInBounds m true) (by simpa using hx) (fun i hi => by
      by_cases e : m = i
      ·subst e
       have : m < x.size := by omega
       simp [this]
      ·rw [getD_set_ne false e, hl i hi]; omega) (by omega)
     have := unl_set h0
     omega
   have hl : ∀ i, i < ops.length → (listed.getD i false = true ↔ i < n) := fun i hi => ⟨M.heads i, hdone i⟩
   have := hcount n listed M.size hl ok.hn
   exact drawn_tailW ok (fuel + 1) n listed _ w (by omega) (Nat.le_refl _) M.size hl (hT _ vs w MR fun j hj => hdone j hj)
  ·have hex : ∃ j, j < n ∧ listed.getD j false ≠ true := by
    refine Classical.byContradiction fun hne => hdone fun j hj => ?_
    refine Classical.byContradiction fun h => hne ⟨j, hj, h⟩
   have hn := ok.hn
   have hready : ∃ j, j ∈ Region.ready .any ops.toArray listed := by
    obtain ⟨j, hj, hjl⟩ := hex
    have : ∀ d j, j = d → j < n → listed.getD j false ≠ true → ∃ j, j ∈ Region.ready .any ops.toArray listed := by
     intro d
     induction d using Nat.strongRecOn with
     | _ d ihd =>
      intro j hd hj hjl
      subst hd
      have ho : ops[j]? = some (ops[j]'(by omega)) := List.getElem?_eq_getElem _
      by_cases hall : ∀ e ∈ (ops[j]'(by omega)).after, Region.binds .any e = true → listed.getD e.on false = true
      ·refine ⟨j, mem_ready.2 ⟨?_, ops[j]'(by omega), by simp, hall⟩⟩
       have h2 : j < listed.size := by rw [M.size]; omega
       simp only [Array.getD, h2, dite_true] at hjl ⊢
       simpa using hjl
      ·have : ∃ e ∈ (ops[j]'(by omega)).after, Region.binds .any e = true ∧ listed.getD e.on false ≠ true := by
        refine Classical.byContradiction fun hne => hall fun e he hb => ?_
        refine Classical.byContradiction fun h => hne ⟨e, he, hb, h⟩
       obtain ⟨e, he, hb, hl⟩ := this
       have hlt := ok.down j _ e ho he hb
       exact ihd e.on hlt e.on rfl (by omega) hl
    exact this j j rfl hj hjl
   obtain ⟨j0, hj0⟩ := hready
   refine ⟨fun h0 => absurd hj0 (by rw [h0]; simp), fun i hi => ?_⟩
   obtain ⟨hun, o, ho, hall⟩ := mem_ready.1 hi
   have ho' : ops[i]? = some o := by simpa using ho
   have hilt : i < ops.length := (List.getElem?_eq_some_iff.1 ho').1
   have hin : i < n := by
    rcases Nat.lt_or_ge i n with h | h
    ·exact h
    ·exfalso
     apply hdone
     have key : ∀ d j, i - j = d → j < i → listed.getD j false = true := by
      intro d
      induction d using Nat.strongRecOn with
      | _ d ihd =>
       intro j hd hji
       obtain ⟨k, hk1, hk2, hk3⟩ := ok.tail i j hilt h hji
       rcases Nat.lt_or_ge k i with hki | hki
       ·exact M.clos k j (ihd (i - k) (by omega) k rfl hki) hk3
       ·have : k = i := by omega
        subst this
        exact ready_edge hi hk3
     exact fun j hj => key _ j rfl (by omega)
   have hu' : unl (listed.setIfInBounds i true) = fuel := by have := unl_set hun; omega
   have hdi : dstAt ops i = o.dst := by unfold dstAt; rw [ho']; rfl
   have hlt' : dstLt N o.dst := by
    cases hd : o.dst with
    | none => trivial
    | some t => exact hlt i t hin (hdi.trans hd)
   let nxt : Value → Nat → Value := fun u j => if j = i then u else vs j
   have nxt_i : ∀ u, nxt u i = u := fun u => if_pos rfl
   have nxt_ne : ∀ u j, j ≠ i → nxt u j = vs j := fun u j h => if_neg h
   have hil : i < listed.size := by rw [M.size]; exact hilt
   have eL : (fun j => (listed.setIfInBounds i true).getD j false) = fun j => if j = i then true else listed.getD j false := by
    funext j
    by_cases e : j = i
    ·subst e; rw [if_pos rfl]; simp [hil]
    ·rw [if_neg e, getD_set_ne false (Ne.symm e)]
   have rest : ∀ u w', J (fun j => if j = i then true else listed.getD j false) (nxt u) w' → J (fun j => (listed.setIfInBounds i true).getD j false) (nxt u) w' := fun u w' h => by rw [eL]; exact h
   have step : ∀ u w', Mid N (fun _ => True) ops n (sets F.base l) (nxt u) (listed.setIfInBounds i true) (a.put o.dst u) w' := by
    intro u w'
    have hlt := hlt'
    have hset : ∀ j, (listed.setIfInBounds i true).getD j false = true → j = i ∨ listed.getD j false = true := by
     intro j h
     by_cases e : i = j
     ·exact .inl e.symm
     ·rw [getD_set_ne false e] at h; exact .inr h
    have hseti : (listed.setIfInBounds i true).getD i false = true := by
     have : i < listed.size := by rw [M.size]; exact hilt
     simp [this]
    refine ⟨by simpa using M.size, ?_, ?_, ?_, ?_, ?_, ?_, trivial⟩
    ·intro k j hk he
     rcases hset k hk with rfl | hk
     ·exact getD_set_true (ready_edge hi he)
     ·exact getD_set_true (M.clos k j hk he)
    ·intro k hk
     rcases hset k hk with rfl | hk
     ·exact hin
     ·exact M.heads k hk
    ·cases hd : o.dst <;> exact M.defers
    ·cases hd : o.dst with
     | none => exact M.tsize
     | some d => simp only [Act.put, Array.size_setIfInBounds]; exact M.tsize
    ·intro j t hj hjl hd
     rcases hset j hjl with rfl | hjl'
     ·rw [hdi] at hd
      rw [hd] at hlt ⊢
      simp only [Act.put]
      rw [Array.getElem?_setIfInBounds_self_of_lt (by rw [M.tsize]; exact hlt), nxt_i]
     ·by_cases e : j = i
      ·subst e
       rw [hdi] at hd
       rw [hd] at hlt ⊢
       simp only [Act.put]
       rw [Array.getElem?_setIfInBounds_self_of_lt (by rw [M.tsize]; exact hlt), nxt_i]
      ·rw [nxt_ne u j e]
       have h1 := M.new j t hj hjl' hd
       cases hdo : o.dst with
       | none => exact h1
       | some d =>
        have hne : d ≠ t := fun e' => e (uniq j i t hj hin hd (by rw [hdi, hdo, e']))
        simp only [Act.put]
        rw [Array.getElem?_setIfInBounds_ne hne]; exact h1
    ·intro t ht
     have h1 := M.old t (fun j hj hjl => ht j hj (getD_set_true hjl))
     have h2 := ht i hin hseti
     rw [hdi] at h2
     cases hdo : o.dst with
     | none => exact h1
     | some d =>
      have hne : d ≠ t := fun e' => h2 (by rw [hdo, e'])
      simp only [Act.put]
      rw [Array.getElem?_setIfInBounds_ne hne]; exact h1
   have hli : listed.getD i false = false := by
    simp only [Array.getD, hil, dite_true] at hun ⊢
    simpa using hun
   obtain ⟨b, hb, hbt, hbf⟩ := H i o hin ho' (fun j => listed.getD j false) vs w MR hli (fun j he => ready_edge hi he) (fun k j hk he => M.clos k j hk he)
   have hw : Region.wanted o (yielded ops.toArray a.tmps) = b := by
    unfold gd at hb
    split at hb
    ·rename_i hg; simp only [Region.wanted, hg]; exact hb
    ·rename_i g want hg
     split at hb
     ·rename_i d hd
      split at hb
      ·rename_i bb hbb
       have hdd : dstAt ops g = some d := by
        unfold dstAt
        simp only [dsts, List.getElem?_map, Option.map_eq_some_iff] at hd
        obtain ⟨x, hx, hx'⟩ := hd
        simp [hx, hx']
       obtain ⟨X, hX1, hX2⟩ := slot listed a w vs i o d M hin ho' hi (looks_guard hg hdd)
       rw [hbb] at hX2
       cases hX2
       have : yielded ops.toArray a.tmps g = some bb := by
        unfold yielded
        unfold dstAt at hdd
        simp only [List.getElem?_toArray, hdd, Option.bind_some, hX1]
       simp only [Region.wanted, hg, this]
       rw [← hb]
       cases bb <;> cases want <;> rfl
      ·rename_i bb hnb hbb
       have hdd : dstAt ops g = some d := by
        unfold dstAt
        simp only [dsts, List.getElem?_map, Option.map_eq_some_iff] at hd
        obtain ⟨x, hx, hx'⟩ := hd
        simp [hx, hx']
       obtain ⟨X, hX1, hX2⟩ := slot listed a w vs i o d M hin ho' hi (looks_guard hg hdd)
       rw [hbb] at hX2
       cases hX2
       have : yielded ops.toArray a.tmps g = none := by
        unfold yielded
        unfold dstAt at hdd
        simp only [List.getElem?_toArray, hdd, Option.bind_some, hX1]
        split
        ·rename_i b' e; cases e; exact (hnb b' rfl).elim
        ·rfl
       simp only [Region.wanted, hg, this]
       rw [← hb]
       rfl
      ·exact hb.elim
     ·exact hb.elim
   unfold wpOp
   simp only [ho, hw]
   cases b with
   | true =>
    simp only [if_true]
    refine .inl (wp_of_yields ?_)
    have hcong : execOp a.eval o = execOp (evD (envE l ops vs i)) o := by
     refine execOp_congr o (ok.sel i o ho') (fun x hx => ?_)
     cases x with
     | tmp t =>
      obtain ⟨X, hX1, hX2⟩ := slot listed a w vs i o t M hin ho' hi (looks_tmp hx)
      simp [Act.eval, evD, ev, hX1, hX2]
     | const c => rfl
     | global g => rfl
     | func f => rfl
    rw [hcong]
    exact (hbt rfl).mono fun u w' hu => ih _ _ _ _ hu' (step u w') (rest u w' hu)
   | false =>
    simp only [Bool.false_eq_true, if_false]
    exact ih _ _ _ _ hu' (step undef w) (rest undef w (hbf rfl))
end
section
variable {P : Program} {N : Nat} {Q : Post} {l : Env} {w : World}
theorem W_drawnW {id : Nat} {ops : List Oper} (keys : List Nat) (n : Nat) (hm : P.follows .mixedOrders = true) (hkeys : keysE l = keys) (hok : regOkW keys ops n = true) (hlt : DLt N ops n)
  {J : (Nat → Bool) → (Nat → Value) → World → Prop} (hJ : J (fun _ => false) (fun _ => undef) w.drew)
  (H : ∀ i o, i < n → ops[i]? = some o → ∀ (L : Nat → Bool) (vs : Nat → Value) (w : World), J L vs w → L i = false → (∀ j, edgeB ops i j = true → L j = true) → (∀ k j, L k = true → edgeB ops k j = true → L j = true) →
   ∃ b, gd (envE l ops vs i) (dsts ops) o.guard (· = b) ∧ (b = true → Yields P (execOp (evD (envE l ops vs i)) o) w fun u w' => J (fun j => if j = i then true else L j) (fun j => if j = i then u else vs j) w') ∧ (b = false → J (fun j => if j = i then true else L j) (fun j => if j = i then undef else vs j) w))
  (hT : ∀ (L : Nat → Bool) (vs : Nat → Value) (w : World), J L vs w → (∀ j, j < n → L j = true) → VC P N (dsts ops) (fun l' w' => Q .normal l' w') (ops.drop n) (envE l ops vs n) w) : W P N (.region id ops.toArray true) Q l w := fun hk F => by
 have ok := regOkW_spec hok
 refine wp_region_any hm ?_
 have := drawn_invW ok F hk (fun t ht => keysE_get (by rw [hkeys]; exact ht)) hlt H (Q := lift N Q)
  (fun L vs w' hw' hR => VC_sound F (K := fun l w => Q .normal l w) (fun l' w' hk' hK => ⟨F, l', rfl, hk', hK⟩) _ _ _ (envE_keys hlt hk n (Nat.le_refl _)) (hT L vs w' hw' hR))
  ops.length (Array.replicate ops.length false) (mk F l) w.drew (fun _ => undef) (unl_replicate _)
  ⟨by simp, (fun i j hi => by rw [getD_replicate_false] at hi; cases hi), (fun i hi => by rw [getD_replicate_false] at hi; cases hi), rfl, by simp [mk, sets_size, F.hN], (fun j t _ hl => by rw [getD_replicate_false] at hl; cases hl), (fun t _ => rfl), trivial⟩
  (by
   have e : (fun j => (Array.replicate ops.length false).getD j false) = fun _ => false := by funext j; exact getD_replicate_false _ _
   rw [e]; exact hJ)
 simpa using this
end
end Go.Eng
