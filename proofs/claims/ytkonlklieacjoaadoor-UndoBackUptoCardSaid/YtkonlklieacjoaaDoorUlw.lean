/-
  Plain: records of what made three trees of three others, taken back.
-/
import Derived.Test.YtkonlklieacjoaaDoorUgc
set_option linter.unusedSimpArgs false
set_option linter.unusedVariables false
namespace Go.Tr
open Go Go.Lib
set_option maxRecDepth 20000
theorem chS_rise (sp : Int) (A B : Tri) : riseC (changesS sp A B) := by
 unfold riseC changesS
 rw [List.pairwise_map]
 exact picks_rise _ _ none (sortS_nodec _) (fun p h => by cases h)
theorem dif_iff {A B : Tri} {p : ByteArray} : difAt A B p = true ↔ ∃ k, k < 3 ∧ getN (tr A k) p ≠ getN (tr B k) p := by
 unfold difAt
 rw [Bool.not_eq_true', decide_eq_false_iff_not]
 constructor
 ·intro h
  apply Classical.byContradiction
  intro hn
  refine h ⟨Classical.byContradiction fun e => hn ⟨0, by decide, e⟩, Classical.byContradiction fun e => hn ⟨1, by decide, e⟩, Classical.byContradiction fun e => hn ⟨2, by decide, e⟩⟩
 ·rintro ⟨k, hk, hne⟩ ⟨h0, h1, h2⟩
  rcases three hk with rfl | rfl | rfl
  ·exact hne h0
  ·exact hne h1
  ·exact hne h2
theorem chgAt_b (sp : Int) (A B : Tri) (p : ByteArray) {k : Nat} (hk : k < 3) : (chgAt sp A B p).b k = getN (tr A k) p := by
 rcases three hk with rfl | rfl | rfl <;> rfl
theorem chgAt_a (sp : Int) (A B : Tri) (p : ByteArray) {k : Nat} (hk : k < 3) : (chgAt sp A B p).a k = getN (tr B k) p := by
 rcases three hk with rfl | rfl | rfl <;> rfl
theorem mem_catT {A B : Tri} {e : Ent} : ∀ {n : Nat}, e ∈ catT A B n ↔ ∃ k, k < n ∧ (e ∈ tr A k ∨ e ∈ tr B k)
 | 0 => by simp [catT]
 | n + 1 => by
  rw [catT, List.mem_append, List.mem_append, mem_catT (n := n)]
  constructor
  ·rintro ((⟨k, h1, h2⟩ | h) | h)
   ·exact ⟨k, by omega, h2⟩
   ·exact ⟨n, by omega, .inl h⟩
   ·exact ⟨n, by omega, .inr h⟩
  ·rintro ⟨k, h1, h2⟩
   rcases Nat.lt_or_ge k n with h | h
   ·exact .inl (.inl ⟨k, h, h2⟩)
   ·have : k = n := by omega
    subst this
    rcases h2 with h2 | h2
    ·exact .inl (.inr h2)
    ·exact .inr h2
theorem chS_mem {sp : Int} {A B : Tri} {c : Chg} : c ∈ changesS sp A B ↔ difAt A B c.p = true ∧ c = chgAt sp A B c.p := by
 unfold changesS
 constructor
 ·intro h
  obtain ⟨p, hp, rfl⟩ := List.mem_map.1 h
  exact ⟨((picks_mem _ p _ none (sortS_nodec _) (fun p h => by cases h)).1 hp).2.1, rfl⟩
 ·rintro ⟨h1, h2⟩
  rw [h2]
  refine List.mem_map.2 ⟨c.p, (picks_mem _ c.p _ none (sortS_nodec _) (fun p h => by cases h)).2 ⟨?_, h1, by simp⟩, rfl⟩
  obtain ⟨k, hk, hne⟩ := dif_iff.1 h1
  have : ∃ e, (e ∈ tr A k ∨ e ∈ tr B k) ∧ e.1 = c.p := by
   by_cases h0 : getN (tr A k) c.p = nil0
   ·obtain ⟨e, he, e1⟩ := there_getN (t := tr B k) (p := c.p) (fun h => hne (by rw [h0, h]))
    exact ⟨e, .inr he, e1⟩
   ·obtain ⟨e, he, e1⟩ := there_getN h0
    exact ⟨e, .inl he, e1⟩
  obtain ⟨e, he, e1⟩ := this
  exact ⟨e, (sortS_perm _).mem_iff.2 (mem_catT.2 ⟨k, hk, he⟩), e1⟩
theorem chS_size {sp : Int} {A B : Tri} (hA : Tree3 A) (hB : Tree3 B) : ∀ c ∈ changesS sp A B, c.p.size ≤ 1048576 := fun c hc => by
 obtain ⟨h1, -⟩ := chS_mem.1 hc
 obtain ⟨k, hk, hne⟩ := dif_iff.1 h1
 have : pOk c.p 5 = true := by
  by_cases h0 : getN (tr A k) c.p = nil0
  ·exact (hB.tr k).pok (fun h => hne (by rw [h0, (hB.tr k).kind0.1 h]))
  ·exact (hA.tr k).pok (fun h => h0 ((hA.tr k).kind0.1 h))
 have := pOk_size (d := 5) this
 omega
theorem picks_len (f : ByteArray → Bool) : ∀ (pr : Option ByteArray) (t : List Ent), (picks f pr t).length ≤ t.length
 | _, [] => Nat.le_refl _
 | pr, x :: r => by
  rw [picks]
  have := picks_len f (some x.1) r
  split <;> simp only [List.length_cons] <;> omega
theorem chS_len {sp : Int} {A B : Tri} (hA : Tree3 A) (hB : Tree3 B) : (changesS sp A B).length ≤ 1200 := by
 unfold changesS
 rw [List.length_map]
 have h1 := picks_len (difAt A B) none (sortS (catT A B 3))
 rw [(sortS_perm _).length_eq] at h1
 have h2 := catT_len (A := A) (B := B) (fun i _ => (hA.tr i).len) (fun i _ => (hB.tr i).len) 3 (Nat.le_refl _)
 omega
theorem chS_ripe {sp : Int} {A B : Tri} : ∀ c ∈ changesS sp A B, ripe c B = true := fun c hc => by
 obtain ⟨-, h2⟩ := chS_mem.1 hc
 refine List.all_eq_true.2 fun k hk => ?_
 have hk := List.mem_range.1 hk
 rw [ripe1, h2, chgAt_a _ _ _ _ hk]
 simp [chgAt]
theorem chS_stale {sp : Int} {A B : Tri} : ∀ c ∈ changesS sp A B, ripe c A = false := fun c hc => by
 obtain ⟨h1, h2⟩ := chS_mem.1 hc
 obtain ⟨k, hk, hne⟩ := dif_iff.1 h1
 refine List.all_eq_false.2 ⟨k, List.mem_range.2 hk, ?_⟩
 rw [ripe1, h2, chgAt_a _ _ _ _ hk, chgAt_b _ _ _ _ hk]
 have hp : (chgAt sp A B c.p).p = c.p := rfl
 rw [hp, decide_eq_false hne]
 decide
theorem blt_ne' {p q : ByteArray} (h : blt p q = true) : p ≠ q := fun e => by rw [e, blt_irr] at h; cases h
theorem act_kind {k : Nat} {pass : Bool} {c : Chg} (h : act k pass c = true) : c.b k ≠ c.a k ∧ decide ((c.b k).1 = 0) = pass := by
 rw [act, Bool.and_eq_true, Bool.not_eq_true', decide_eq_false_iff_not, beq_iff_eq] at h
 exact h
theorem act_of {k : Nat} {pass : Bool} {c : Chg} (h1 : c.b k ≠ c.a k) (h2 : decide ((c.b k).1 = 0) = pass) : act k pass c = true := by
 rw [act, decide_eq_false h1, h2]; simp
theorem del_walk {a b : List Ent} (ha : Tree a) (hb : Tree b) {k : Nat} : ∀ (l : List (Nat × Chg)) (t : List Ent), Tree t → (l.Pairwise fun x y => blt y.2.p x.2.p = true) → (∀ x ∈ l, x.2.b k = getN a x.2.p ∧ x.2.a k = getN b x.2.p) → (∀ x ∈ l, getN t x.2.p = getN b x.2.p) →
  (∀ q, getN a q = nil0 → getN t q ≠ nil0 → ∃ x ∈ l, x.2.p = q) → (∀ q, getN a q ≠ nil0 → getN t q = getN b q) →
  ∃ u, walkG k (fun x => yes x && act k true x.2) l t = .ok u ∧ Tree u ∧ ∀ q, getN u q = if getN a q = nil0 then nil0 else getN b q
 | [], t, ht, _, _, _, h1, h2 => ⟨t, rfl, ht, fun q => by
  split
  ·rename_i hq
   apply Classical.byContradiction
   intro hne
   obtain ⟨x, hx, -⟩ := h1 q hq hne
   simp at hx
  ·rename_i hq; exact h2 q hq⟩
 | x :: r, t, ht, hp, hc, hb', h1, h2 => by
  obtain ⟨hx, hr⟩ := List.pairwise_cons.1 hp
  obtain ⟨cb, ca⟩ := hc x (by simp)
  have hbx := hb' x (by simp)
  have hcr : ∀ y ∈ r, y.2.b k = getN a y.2.p ∧ y.2.a k = getN b y.2.p := fun y hy => hc y (by simp [hy])
  cases hact : act k true x.2 with
  | false =>
   rw [walkG, if_neg (by simp [hact])]
   refine del_walk ha hb r t ht hr hcr (fun y hy => hb' y (by simp [hy])) (fun q hq hne => ?_) h2
   obtain ⟨y, hy, e⟩ := h1 q hq hne
   rcases List.mem_cons.1 hy with rfl | hy
   ·exfalso
    subst e
    rw [act_of (by rw [cb, ca, hq, ← hbx]; exact fun e => hne e.symm) (by rw [cb, hq]; rfl)] at hact
    cases hact
   ·exact ⟨y, hy, e⟩
  | true =>
   obtain ⟨a1, a2⟩ := act_kind hact
   have hz : (x.2.b k).1 = 0 := of_decide_eq_true a2
   have hnil : getN a x.2.p = nil0 := ha.kind0.1 (by rw [← cb]; exact hz)
   have hbn : x.2.b k = nil0 := by rw [cb, hnil]
   have hne : getN t x.2.p ≠ nil0 := by
    rw [hbx, ← ca]; intro e; exact a1 (by rw [hbn, e])
   have hk1 : (getN t x.2.p).1 ≠ 0 := fun h => hne (ht.kind0.1 h)
   have hpo := ht.pok hk1
   have hE : putE t x.2.p (x.2.b k) = 0 := by
    rw [hbn]
    refine (ht.putI _ _).2 ⟨hpo, by decide, fun _ => hk1, fun h => absurd rfl h, fun _ q hq => ?_, fun h => absurd rfl h⟩
    apply Classical.byContradiction
    intro hq0
    have hqa : getN a q = nil0 := by
     apply Classical.byContradiction
     intro h
     have := ha.closed (pOk_ne hpo) hq (fun h0 => h (ha.kind0.1 h0))
     rw [hnil] at this
     cases this
    obtain ⟨y, hy, e⟩ := h1 q hqa (fun h0 => hq0 (by rw [h0]; rfl))
    have hlt := below_blt hq
    rcases List.mem_cons.1 hy with rfl | hy
    ·rw [e] at hlt; rw [blt_irr] at hlt; cases hlt
    ·have := hx y hy
     rw [e, blt_asymm hlt] at this; cases this
   rw [walkG, if_pos (by simp [hact, yes]), if_pos hE]
   have hg := ht.put_get hE
   refine del_walk ha hb r _ (ht.put hE) hr hcr (fun y hy => ?_) (fun q hq hq2 => ?_) (fun q hq => ?_)
   ·rw [hg, if_neg (blt_ne' (hx y hy))]
    exact hb' y (by simp [hy])
   ·rw [hg] at hq2
    by_cases e : q = x.2.p
    ·rw [if_pos e, hbn] at hq2; exact absurd rfl hq2
    ·rw [if_neg e] at hq2
     obtain ⟨y, hy, e2⟩ := h1 q hq hq2
     rcases List.mem_cons.1 hy with rfl | hy
     ·exact absurd e2.symm e
     ·exact ⟨y, hy, e2⟩
   ·rw [hg, if_neg (fun e => hq (by rw [e]; exact hnil))]
    exact h2 q hq
theorem sub_len {α : Type} [DecidableEq α] : ∀ {l m : List α}, l.Nodup → (∀ x ∈ l, x ∈ m) → l.length ≤ m.length
 | [], m, _, _ => Nat.zero_le _
 | x :: r, m, h, hs => by
  obtain ⟨hx, hr⟩ := List.nodup_cons.1 h
  have hm := hs x (by simp)
  have := sub_len (m := m.erase x) hr (fun y hy => (List.mem_erase_of_ne (fun e : y = x => hx (e ▸ hy))).2 (hs y (by simp [hy])))
  rw [List.length_erase_of_mem hm] at this
  have := List.length_pos_of_mem hm
  simp only [List.length_cons]
  omega
theorem Tree.len_lt {a t : List Ent} (ha : Tree a) (ht : Tree t) (hs : ∀ q, getN a q = nil0 → getN t q = nil0) {p : ByteArray} (h1 : getN a p ≠ nil0) (h2 : getN t p = nil0) : t.length < 200 := by
 have hn : (p :: t.map Prod.fst).Nodup := by
  rw [List.nodup_cons]
  refine ⟨fun hm => ?_, ?_⟩
  ·obtain ⟨e, he, e1⟩ := List.mem_map.1 hm
   have h3 := getN_of ht.ri he
   have := (ht.each e he).2.2.1
   rw [e1] at h3
   rw [← h3, h2] at this
   exact this rfl
  ·have : t.Pairwise fun x y => x.1 ≠ y.1 := ht.ri.imp fun h => blt_ne' h
   exact List.pairwise_map.2 this
 have := sub_len (m := a.map Prod.fst) hn (fun q hq => by
  have hqa : getN a q ≠ nil0 := by
   rcases List.mem_cons.1 hq with rfl | hm
   ·exact h1
   ·obtain ⟨e, he, e1⟩ := List.mem_map.1 hm
    intro h0
    have h3 := getN_of ht.ri he
    rw [e1, hs q h0] at h3
    exact (ht.each e he).2.2.1 (by rw [← h3]; rfl)
  exact List.mem_map.2 ⟨_, getN_mem hqa, rfl⟩)
 simp only [List.length_cons, List.length_map] at this
 have := ha.len
 omega
theorem put_walk {a b : List Ent} (ha : Tree a) (hb : Tree b) {k : Nat} : ∀ (l : List (Nat × Chg)) (t : List Ent), Tree t → (l.Pairwise fun x y => blt x.2.p y.2.p = true) → (∀ x ∈ l, x.2.b k = getN a x.2.p ∧ x.2.a k = getN b x.2.p) → (∀ x ∈ l, getN t x.2.p = if getN a x.2.p = nil0 then nil0 else getN b x.2.p) →
  (∀ q, getN a q ≠ getN t q → ∃ x ∈ l, x.2.p = q) → (∀ q, getN a q = nil0 → getN t q = nil0) →
  walkG k (fun x => yes x && act k false x.2) l t = .ok a
 | [], t, ht, _, _, _, h1, h2 => by
  have : t = a := ht.ext ha fun q => Classical.byContradiction fun hne => by
   obtain ⟨x, hx, -⟩ := h1 q (fun e => hne e.symm)
   simp at hx
  rw [this]; rfl
 | x :: r, t, ht, hp, hc, hb', h1, h2 => by
  obtain ⟨hx, hr⟩ := List.pairwise_cons.1 hp
  obtain ⟨cb, ca⟩ := hc x (by simp)
  have hbx := hb' x (by simp)
  have hcr : ∀ y ∈ r, y.2.b k = getN a y.2.p ∧ y.2.a k = getN b y.2.p := fun y hy => hc y (by simp [hy])
  cases hact : act k false x.2 with
  | false =>
   rw [walkG, if_neg (by simp [hact])]
   have hsame : getN a x.2.p = getN t x.2.p := by
    by_cases h0 : getN a x.2.p = nil0
    ·rw [h0, h2 _ h0]
    ·rw [if_neg h0] at hbx
     rw [hbx]
     apply Classical.byContradiction
     intro hne
     rw [act_of (by rw [cb, ca]; exact hne) (by rw [cb]; exact decide_eq_false fun h => h0 (ha.kind0.1 h))] at hact
     cases hact
   refine put_walk ha hb r t ht hr hcr (fun y hy => hb' y (by simp [hy])) (fun q hq => ?_) h2
   obtain ⟨y, hy, e⟩ := h1 q hq
   rcases List.mem_cons.1 hy with rfl | hy
   ·rw [← e] at hq; exact absurd hsame hq
   ·exact ⟨y, hy, e⟩
  | true =>
   obtain ⟨a1, a2⟩ := act_kind hact
   have hz : (getN a x.2.p).1 ≠ 0 := by rw [← cb]; exact of_decide_eq_false a2
   have hne : getN a x.2.p ≠ nil0 := fun h => hz (by rw [h]; rfl)
   have hpo := ha.pok hz
   have hE : putE t x.2.p (x.2.b k) = 0 := by
    rw [cb]
    refine (ht.putI _ _).2 ⟨hpo, ha.whole _, fun h => absurd h hz, fun _ => ?_, fun h1' q hq => ?_, fun _ h0 => ?_⟩
    ·rcases ha.up hz with h | h
     ·exact .inl h
     ·by_cases he : par x.2.p = { data := #[] }
      ·exact .inl he
      right
      have : getN a (par x.2.p) = getN t (par x.2.p) := by
       apply Classical.byContradiction
       intro hn
       obtain ⟨y, hy, e⟩ := h1 _ hn
       have hlt := below_blt (par_below he)
       rcases List.mem_cons.1 hy with rfl | hy
       ·rw [← e] at hlt; rw [blt_irr] at hlt; cases hlt
       ·have := hx y hy
        rw [e, blt_asymm hlt] at this; cases this
      rw [← this]; exact h
    ·apply Classical.byContradiction
     intro hq0
     have hqa : (getN a q).1 ≠ 0 := fun h => hq0 (by rw [h2 q (ha.kind0.1 h)]; rfl)
     exact h1' (ha.closed (pOk_ne hpo) hq hqa)
    ·exact ha.len_lt ht h2 hne (ht.kind0.1 h0)
   rw [walkG, if_pos (by simp [hact, yes]), if_pos hE]
   have hg := ht.put_get hE
   refine put_walk ha hb r _ (ht.put hE) hr hcr (fun y hy => ?_) (fun q hq => ?_) (fun q hq => ?_)
   ·rw [hg, if_neg (fun e => blt_ne' (hx y hy) e.symm)]
    exact hb' y (by simp [hy])
   ·rw [hg] at hq
    by_cases e : q = x.2.p
    ·rw [if_pos e, cb, e] at hq; exact absurd rfl hq
    ·rw [if_neg e] at hq
     obtain ⟨y, hy, e2⟩ := h1 q hq
     rcases List.mem_cons.1 hy with rfl | hy
     ·exact absurd e2.symm e
     ·exact ⟨y, hy, e2⟩
   ·rw [hg, if_neg (fun e => hne (by rw [← e]; exact hq))]
    exact h2 q hq
theorem lab_mem {L : List Chg} {x : Nat × Chg} (h : x ∈ lab L) : x.2 ∈ L := by
 obtain ⟨i, hi, rfl⟩ := List.getElem_of_mem h
 rw [lab_get]
 exact List.getElem_mem _
theorem mem_lab {L : List Chg} {c : Chg} (h : c ∈ L) : ∃ x ∈ lab L, x.2 = c := by
 obtain ⟨i, hi, rfl⟩ := List.getElem_of_mem h
 exact ⟨_, List.getElem_mem (l := lab L) (n := i) (by rw [lab_len]; exact hi), by rw [lab_get]⟩
theorem lab_rise {L : List Chg} (h : riseC L) : (lab L).Pairwise fun x y => blt x.2.p y.2.p = true := by
 rw [List.pairwise_iff_getElem]
 intro i j hi hj hij
 rw [lab_get, lab_get]
 exact List.pairwise_iff_getElem.1 h i j _ _ hij
theorem one_back {a b : List Ent} (ha : Tree a) (hb : Tree b) {k : Nat} {L : List Chg} (hr : riseC L) (hc : ∀ c ∈ L, c.b k = getN a c.p ∧ c.a k = getN b c.p) (hall : ∀ q, getN a q ≠ getN b q → ∃ c ∈ L, c.p = q) : oneG k yes (lab L) b = .ok a := by
 have hrv : (lab L).reverse.Pairwise fun x y => blt y.2.p x.2.p = true := List.pairwise_reverse.2 (lab_rise hr)
 have hl : ∀ q, getN a q ≠ getN b q → ∃ x ∈ lab L, x.2.p = q := fun q hq => by
  obtain ⟨c, h1, h2⟩ := hall q hq
  obtain ⟨x, h3, rfl⟩ := mem_lab h1
  exact ⟨x, h3, h2⟩
 obtain ⟨u, h1, h2, h3⟩ := del_walk ha hb (k := k) (lab L).reverse b hb hrv (fun x hx => hc _ (lab_mem (List.mem_reverse.1 hx))) (fun x hx => rfl) (fun q h0 hne => by
  obtain ⟨x, hx, e⟩ := hl q (fun e => hne (by rw [← e, h0]))
  exact ⟨x, List.mem_reverse.2 hx, e⟩) (fun q _ => rfl)
 unfold oneG
 rw [h1, bindX_ok']
 refine put_walk ha hb (lab L) u h2 (lab_rise hr) (fun x hx => hc _ (lab_mem hx)) (fun x hx => h3 _) (fun q hq => ?_) (fun q hq => by rw [h3, if_pos hq])
 rw [h3] at hq
 split at hq
 ·rename_i h0; exact absurd h0 hq
 ·exact hl q hq
theorem back_ok {sp : Int} {A B : Tri} (hA : Tree3 A) (hB : Tree3 B) : backS (changesS sp A B) B = .ok A := by
 have key : ∀ k, k < 3 → oneG k yes (lab (changesS sp A B)) (tr B k) = .ok (tr A k) := fun k hk => one_back (hA.tr k) (hB.tr k) (chS_rise sp A B) (fun c hc => by
  obtain ⟨-, h2⟩ := chS_mem.1 hc
  refine ⟨?_, ?_⟩
  ·conv => lhs; rw [h2]
   exact chgAt_b _ _ _ _ hk
  ·conv => lhs; rw [h2]
   exact chgAt_a _ _ _ _ hk) (fun q hq => ⟨chgAt sp A B q, chS_mem.2 ⟨dif_iff.2 ⟨k, hk, hq⟩, rfl⟩, rfl⟩)
 have k0 := key 0 (by decide)
 have k1 := key 1 (by decide)
 have k2 := key 2 (by decide)
 simp only [tr] at k0 k1 k2
 unfold backS allG
 rw [k0, bindX_ok', k1, bindX_ok', k2]
 rfl
theorem undo_back {sp : Int} {A B : Tri} (hA : Tree3 A) (hB : Tree3 B) : undoP (changesS sp A B) B = (A, []) := by
 have hf : (changesS sp A B).filter (fun c => ripe c B) = changesS sp A B := List.filter_eq_self.2 chS_ripe
 have hg : (changesS sp A B).filter (fun c => !ripe c B) = [] := List.filter_eq_nil_iff.2 fun c hc => by rw [chS_ripe c hc]; decide
 unfold undoP
 rw [hf, hg, planS_ok (back_ok hA hB)]
 rfl
theorem back_nil (T : Tri) : backS [] T = .ok T := rfl
theorem undo_stale {sp : Int} {A B : Tri} : undoP (changesS sp A B) A = (A, (changesS sp A B).map Chg.p) := by
 have hf : (changesS sp A B).filter (fun c => ripe c A) = [] := List.filter_eq_nil_iff.2 fun c hc => by rw [chS_stale c hc]; decide
 have hg : (changesS sp A B).filter (fun c => !ripe c A) = changesS sp A B := List.filter_eq_self.2 fun c hc => by rw [chS_stale c hc]; rfl
 unfold undoP
 rw [hf, hg, planS_ok (back_nil A)]
 simp
theorem undo_nil (T : Tri) : undoP [] T = (T, []) := by
 unfold undoP
 rw [List.filter_nil, List.filter_nil, planS_ok (back_nil T)]
 rfl
end Go.Tr
