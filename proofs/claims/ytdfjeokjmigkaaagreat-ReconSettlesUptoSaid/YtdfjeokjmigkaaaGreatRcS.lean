/-
  Recon: every difference is settled once: plain.
-/
import Derived.Test.YtdfjeokjmigkaaaGreatRcO
set_option linter.unusedSimpArgs false
set_option linter.unusedVariables false
namespace Go.Rc
open Go Go.Tr Go.Eng Go.Dk
variable {mg : (Int × ByteArray) → (Int × ByteArray) → (Int × ByteArray) → Bool}
theorem qKn (l r : List UInt8) : iE (l ++ 47 :: r) = iE l ++ iE r := by
 induction l with
 | nil => rw [List.nil_append, jM]; rfl
 | cons c l ih =>
  by_cases hc : c = 47
  ·subst hc
   rw [List.cons_append, jM, jM, ih]; rfl
  ·obtain ⟨q, hq⟩ := qA6 l
   rw [hq] at ih
   rw [List.cons_append, lT hc hq, lT hc ih]; rfl
theorem qVm {p q : ByteArray} (h : bR p q = true) (hq : q ≠ { data := #[] }) : ∃ t, parts p = parts q ++ t := by
 obtain ⟨t, ht, hs⟩ := gQ h hq
 rcases hs with rfl | ⟨r, rfl⟩
 ·rw [List.append_nil] at ht
  exact ⟨[], by rw [parts, parts, ht, List.append_nil]⟩
 ·exact ⟨(iE r).map mkB, by rw [parts, parts, ht, qKn, List.map_append]⟩
theorem qRs {p q : ByteArray} {d : Int} (h : bR p q = true) (hq : q ≠ { data := #[] }) (hp : pOk p d = true) : pOk q d = true := by
 obtain ⟨t, ht⟩ := qVm h hq
 unfold pOk at hp ⊢
 rw [ht, List.length_append, List.all_append] at hp
 simp only [Bool.and_eq_true, decide_eq_true_eq] at hp ⊢
 exact ⟨by omega, hp.2.1⟩
theorem zP6 {c : UInt8} (h : okC c = true) : 47 < c := by
 unfold okC at h
 simp only [Bool.or_eq_true, Bool.and_eq_true, decide_eq_true_eq, UInt8.le_iff_toNat_le] at h
 rw [UInt8.lt_iff_toNat_lt]
 have h0 : (47 : UInt8).toNat = 47 := rfl
 have h1 : (97 : UInt8).toNat = 97 := rfl
 have h2 : (48 : UInt8).toNat = 48 := rfl
 rw [h1, h2] at h
 rw [h0]
 rcases h with (h | h) | h
 ·omega
 ·omega
 ·subst h; decide
theorem qQg : ∀ (l : List UInt8), (∀ s ∈ iE l, ∀ c ∈ s, 47 < c) → ∀ c ∈ l, c ≠ 47 → 47 < c
 | [], _, c, hc, _ => by cases hc
 | x :: r, h, c, hc, hn => by
  by_cases hx : x = 47
  ·subst hx
   rw [jM] at h
   rcases List.mem_cons.1 hc with rfl | hc
   ·exact absurd rfl hn
   ·exact qQg r (fun s hs => h s (by simp [hs])) c hc hn
  ·obtain ⟨q, hq⟩ := qA6 r
   rw [lT hx hq] at h
   rcases List.mem_cons.1 hc with rfl | hc
   ·exact h _ (List.mem_cons.2 (.inl rfl)) c (List.mem_cons.2 (.inl rfl))
   ·refine qQg r (fun s hs => ?_) c hc hn
    rw [hq] at hs
    rcases List.mem_cons.1 hs with rfl | hs
    ·exact fun y hy => h _ (List.mem_cons.2 (.inl rfl)) y (List.mem_cons.2 (.inr hy))
    ·exact h s (by simp [hs])
theorem zP5 {p : ByteArray} {d : Int} (h : pOk p d = true) : ∀ c ∈ p.data.toList, c ≠ 47 → 47 < c := by
 refine qQg _ fun s hs c hc => ?_
 unfold pOk at h
 simp only [Bool.and_eq_true, List.all_eq_true] at h
 have h1 := h.2 (mkB s) (List.mem_map.2 ⟨s, hs, rfl⟩)
 unfold iT at h1
 simp only [Bool.and_eq_true, List.all_eq_true] at h1
 exact zP6 (h1.2 c (by simpa [mkB] using hc))
theorem zKy {p q : ByteArray} {d : Int} {r : List UInt8} (hp : pOk p d = true) (h : p.data.toList = q.data.toList ++ 47 :: r) : r.take (mZ r) ≠ [] := by
 obtain ⟨t, ht⟩ := qA6 r
 unfold pOk at hp
 simp only [Bool.and_eq_true, List.all_eq_true] at hp
 have h1 := hp.2 (mkB (r.take (mZ r))) (by rw [parts, h, qKn, ht]; simp)
 intro h0
 rw [h0] at h1
 simp [iT, mkB, ByteArray.size] at h1
theorem qMo {p q : ByteArray} {d : Int} {e : Ent} (he : e.1 = p) (hp : pOk p d = true) (hu : bR p q = true) (hn : p ≠ q) : ∃ x, bC q e = some x := by
 have hf : iD p q ≠ { data := #[] } := fun x => by
  have hl := nY p q
  rw [x] at hl
  by_cases hq : q = { data := #[] }
  ·have h0 := qHs hp
   have h1 : p.data.toList.drop q.data.toList.length = p.data.toList := by rw [hq]; rfl
   have h2 : kK p.data.toList = p.data.toList := by
    cases hx : p.data.toList with
    | nil => rfl
    | cons c r =>
     have : c ≠ 47 := fun y => nK hp r (by rw [hx, y])
     simp [kK, this]
   rw [h1, h2, ← qDr] at hl
   have h3 : vol p = { data := #[] } := iN hl.symm
   rw [h3] at h0
   simp [iT, ByteArray.size] at h0
  ·obtain ⟨t, ht, hs⟩ := gQ hu hq
   rcases hs with rfl | ⟨r, rfl⟩
   ·exact hn (iN (by rw [ht, List.append_nil]))
   ·have h1 : p.data.toList.drop q.data.toList.length = 47 :: r := by rw [ht, List.drop_append_of_le_length (Nat.le_refl _), List.drop_of_length_le (Nat.le_refl _)]; rfl
    rw [h1] at hl
    simp only [kK, if_pos] at hl
    exact zKy hp ht hl.symm
 unfold bC
 rw [if_neg (by rw [he, hu]; simp only [not_or]; exact ⟨hn, by decide, hf⟩)]
 exact ⟨_, rfl⟩
theorem zB4 (l : List UInt8) {a b : List UInt8} (h : Op.bytesLess a b = true) : Op.bytesLess (l ++ a) (l ++ b) = true := by
 induction l with
 | nil => exact h
 | cons c l ih => simp [Op.bytesLess, ih]
theorem qPx (l : List UInt8) {a b : List UInt8} (h : Op.bytesLess (l ++ a) (l ++ b) = true) : Op.bytesLess a b = true := by
 induction l with
 | nil => exact h
 | cons c l ih => exact ih (by simpa [Op.bytesLess] using h)
theorem qR7 : ∀ {a b t : List UInt8} (u : List UInt8), Op.bytesLess a b = true → (∀ c ∈ b, 47 < c) → (t = [] ∨ ∃ r, t = 47 :: r) → Op.bytesLess (a ++ t) (b ++ u) = true
 | [], [], _, _, h, _, _ => by cases h
 | [], c :: b, t, u, _, hb, ht => by
  rcases ht with rfl | ⟨r, rfl⟩
  ·rfl
  ·have := hb c (by simp)
   simp [Op.bytesLess, this]
 | _ :: _, [], _, _, h, _, _ => by cases h
 | x :: a, c :: b, t, u, h, hb, ht => by
  simp only [Op.bytesLess, Bool.or_eq_true, decide_eq_true_eq, Bool.and_eq_true, beq_iff_eq, List.cons_append] at h ⊢
  rcases h with h | ⟨h1, h⟩
  ·exact .inl h
  ·exact .inr ⟨h1, qR7 u h (fun y hy => hb y (by simp [hy])) ht⟩
theorem qMp {top q : ByteArray} {e : Ent} (h : bC top e = some q) : ∃ f : List UInt8, q.data.toList = (if top = { data := #[] } then [] else top.data.toList ++ [47]) ++ f ∧ ∀ c ∈ f, c ≠ 47 := by
 unfold bC at h
 split at h
 ·cases h
 ·rename_i hn
  simp only [not_or, Option.some.injEq] at hn h
  obtain ⟨h1, h2, h3⟩ := hn
  refine ⟨(iD e.1 top).data.toList, ?_, by rw [nY]; exact qFf _⟩
  have hql := qB4 top (iD e.1 top) h3
  rw [h] at hql
  rw [hql]
  by_cases ht : top = { data := #[] }
  ·rw [if_pos ht, if_pos ht, List.nil_append]
  ·rw [if_neg ht, if_neg ht, List.append_assoc]; rfl
theorem qKx {a b : ByteArray} : blt a b = Op.bytesLess a.data.toList b.data.toList := by rw [blt, Lib.toList_data, Lib.toList_data]
theorem qVy {top q1 q2 x y : ByteArray} {e1 e2 : Ent} {d : Int} (h1 : bC top e1 = some q1) (h2 : bC top e2 = some q2) (hk : pOk q2 d = true) (hq : blt q1 q2 = true) (hx : bR x q1 = true) (hy : bR y q2 = true) : blt x y = true := by
 obtain ⟨f1, k1, n1⟩ := qMp h1
 obtain ⟨f2, k2, n2⟩ := qMp h2
 have s1 := (fF h1).1
 have s2 := (fF h2).1
 obtain ⟨t1, u1, v1⟩ := gQ hx (fun z => by rw [z] at s1; exact absurd s1 (by show ¬ _ < 0; omega))
 obtain ⟨t2, u2, v2⟩ := gQ hy (fun z => by rw [z] at s2; exact absurd s2 (by show ¬ _ < 0; omega))
 have lo := zP5 hk
 rw [k2] at lo
 rw [qKx, k1, k2] at hq
 rw [qKx, u1, u2, k1, k2, List.append_assoc, List.append_assoc]
 exact zB4 _ (qR7 t2 (qPx _ hq) (fun c hc => lo c (by simp [hc]) (n2 c hc)) v1)
theorem qTz {E A H S : List Ent} (hE : A ++ H ++ S = E) : ∀ (k : Nat) (top : ByteArray), ∀ x ∈ aL mg A H S k top, top.size < x.1.size ∧ bR x.1 top = true
 | 0, _, x, hx => by simp [aL] at hx
 | k + 1, top, x, hx => by
  refine ⟨?_, qDp _ _ x hx⟩
  rw [aL, hE] at hx
  obtain ⟨q, hq, hx⟩ := List.mem_flatMap.1 hx
  obtain ⟨y, hy, rfl⟩ := List.mem_map.1 hq
  rcases dG E [] hy with h0 | ⟨e, he, hn⟩
  ·cases h0
  ·have := (fF hn).1
   rcases pY hx with h | h
   ·rw [h]; exact this
   ·have := (qTz hE k _ x h).1
    omega
theorem qZc {E A H S : List Ent} (hE : A ++ H ++ S = E) (hk : ∀ e ∈ E, pOk e.1 5 = true) : ∀ (k : Nat) (top : ByteArray), ∀ x ∈ aL mg A H S k top, pOk x.1 5 = true
 | 0, _, x, hx => by simp [aL] at hx
 | k + 1, top, x, hx => by
  rw [aL, hE] at hx
  obtain ⟨q, hq, hx⟩ := List.mem_flatMap.1 hx
  obtain ⟨y, hy, rfl⟩ := List.mem_map.1 hq
  rcases dG E [] hy with h0 | ⟨e, he, hn⟩
  ·cases h0
  ·rcases pY hx with h | h
   ·have s1 := (fF hn).1
    rw [h]
    exact qRs (qB1 hn (nK (hk e he))).2.1 (fun z => by rw [z] at s1; exact absurd s1 (by show ¬ _ < 0; omega)) (hk e he)
   ·exact qZc hE hk k _ x h
theorem qDq {E A H S : List Ent} (hE : A ++ H ++ S = E) (hk : ∀ e ∈ E, pOk e.1 5 = true) : ∀ (k : Nat) (top : ByteArray), (aL mg A H S k top).Pairwise fun a b => blt a.1 b.1 = true
 | 0, _ => by rw [aL]; exact List.Pairwise.nil
 | k + 1, top => by
  rw [aL, hE]
  have hr : (cG top E).Pairwise fun a b => blt a.1 b.1 = true := qY E [] List.Pairwise.nil
  have hm : ∀ y ∈ cG top E, ∃ e ∈ E, bC top e = some y.1 := fun y hy => by
   rcases dG E [] hy with h0 | h
   ·cases h0
   ·exact h
  have one : ∀ q : ByteArray, (cK mg (aL mg A H S k) A H S q).Pairwise fun a b => blt a.1 b.1 = true := fun q => by
   unfold cK
   (repeat' split) <;> first
    | exact List.pairwise_singleton _ _
    | exact List.Pairwise.nil
    | (rw [List.nil_append]; exact qDq hE hk k q)
    | skip
   rw [List.singleton_append, List.pairwise_cons]
   refine ⟨fun x hx => ?_, qDq hE hk k q⟩
   obtain ⟨s, u⟩ := qTz hE k q x hx
   dsimp only
   rw [qKx]
   by_cases hq : q = { data := #[] }
   ·have : x.1.data.toList ≠ [] := fun z => by
     have : x.1.size = 0 := by rw [Lib.size_eq, z]; rfl
     omega
    rw [hq]
    show Op.bytesLess [] _ = true
    exact qAt [] _ this
   ·obtain ⟨t, ht, -⟩ := gQ u hq
    rw [ht]
    refine qAt _ _ fun z => ?_
    rw [z, List.append_nil] at ht
    have : x.1.size = q.size := by rw [Lib.size_eq, ht, ← Lib.size_eq]
    omega
  clear hE
  generalize hN : cG top E = N at hr hm
  clear hN
  induction N with
  | nil => exact List.Pairwise.nil
  | cons a r ih =>
   obtain ⟨h1, h2⟩ := List.pairwise_cons.1 hr
   rw [List.map_cons, List.flatMap_cons]
   refine List.pairwise_append.2 ⟨one _, ih h2 (fun y hy => hm y (by simp [hy])), fun x hx y hy => ?_⟩
   obtain ⟨q, hq, hy⟩ := List.mem_flatMap.1 hy
   obtain ⟨z, hz, rfl⟩ := List.mem_map.1 hq
   obtain ⟨e1, -, n1⟩ := hm a (by simp)
   obtain ⟨e2, m2, n2⟩ := hm z (by simp [hz])
   have s2 := (fF n2).1
   have o2 := qRs (qB1 n2 (nK (hk e2 m2))).2.1 (fun z => by rw [z] at s2; exact absurd s2 (by show ¬ _ < 0; omega)) (hk e2 m2)
   exact qVy n1 n2 o2 (h1 z hz) (qN hx) (qN hy)
def qYy (A H S : List Ent) (x : ByteArray × Int) : Prop :=
 x.2 = 1 ∨ (x.2 = 3 ∧ cP H x.1 = cP A x.1) ∨ (x.2 = 2 ∧ cP S x.1 = cP A x.1) ∨ ((x.2 = 4 ∨ x.2 = 5) ∧ cP H x.1 ≠ cP A x.1 ∧ cP S x.1 ≠ cP A x.1 ∧ cP H x.1 ≠ cP S x.1)
theorem qZb {A H S : List Ent} : ∀ (k : Nat) (top : ByteArray), ∀ x ∈ aL mg A H S k top, qYy A H S x
 | 0, _, x, hx => by simp [aL] at hx
 | k + 1, top, x, hx => by
  rw [aL] at hx
  obtain ⟨q, -, hx⟩ := List.mem_flatMap.1 hx
  unfold cK at hx
  split at hx
  ·split at hx
   ·cases hx
   ·rw [List.mem_singleton] at hx; rw [hx]; exact .inl rfl
  ·rename_i n1
   split at hx
   ·rcases List.mem_append.1 hx with hx | hx
    ·split at hx
     ·cases hx
     ·rw [List.mem_singleton] at hx; rw [hx]; exact .inl rfl
    ·exact qZb k q x hx
   ·split at hx
    ·rename_i h
     rw [List.mem_singleton] at hx; rw [hx]; exact .inr (.inl ⟨rfl, h⟩)
    ·rename_i n2
     split at hx
     ·rename_i h
      rw [List.mem_singleton] at hx; rw [hx]; exact .inr (.inr (.inl ⟨rfl, h⟩))
     ·rename_i n3
      rw [List.mem_singleton] at hx; rw [hx]
      refine .inr (.inr (.inr ⟨?_, n2, n3, n1⟩))
      dsimp only
      split
      ·exact .inl rfl
      ·exact .inr rfl
def hZ (p : ByteArray) (x : ByteArray × Int) : Bool := !decide (x.2 = 1) && bR p x.1
theorem qFi {A H S : List Ent} (p : ByteArray) : ∀ (k : Nat) (top : ByteArray), (aL mg A H S k top).countP (hZ p) ≤ 1
 | 0, _ => by rw [aL]; exact Nat.zero_le _
 | k + 1, top => by
  rw [aL]
  have one : ∀ q : ByteArray, (cK mg (aL mg A H S k) A H S q).countP (hZ p) ≤ 1 := fun q => by
   have ih := qFi (A := A) (H := H) (S := S) p k q
   unfold cK
   (repeat' split) <;> first
    | exact Nat.le_trans List.countP_le_length (Nat.le_refl _)
    | exact Nat.zero_le _
    | (rw [List.nil_append]; exact ih)
    | (rw [List.singleton_append, List.countP_cons]; simp only [hZ, decide_true, Bool.not_true, Bool.false_and]; simpa using ih)
  have none : ∀ q : ByteArray, bR p q = false → (cK mg (aL mg A H S k) A H S q).countP (hZ p) = 0 := fun q hq => by
   rw [List.countP_eq_zero]
   intro x hx
   have := qN hx
   unfold hZ
   cases hu : bR p x.1 with
   | false => simp
   | true => rw [qQ hu this] at hq; cases hq
  have hn := sQ top (A ++ H ++ S)
  have hm : ∀ q ∈ (cG top (A ++ H ++ S)).map (fun e => e.1), ∃ e, bC top e = some q := fun q hq => by
   obtain ⟨y, hy, rfl⟩ := List.mem_map.1 hq
   rcases dG (A ++ H ++ S) [] hy with h0 | ⟨e, -, h⟩
   ·cases h0
   ·exact ⟨e, h⟩
  generalize (cG top (A ++ H ++ S)).map (fun e => e.1) = N at hn hm
  induction N with
  | nil => exact Nat.zero_le _
  | cons a r ih =>
   obtain ⟨h1, h2⟩ := List.nodup_cons.1 hn
   rw [List.flatMap_cons, List.countP_append]
   have i1 := ih h2 fun q hq => hm q (by simp [hq])
   cases hu : bR p a with
   | false => have := none a hu; omega
   | true =>
    have : (r.flatMap (cK mg (aL mg A H S k) A H S)).countP (hZ p) = 0 := by
     rw [List.countP_eq_zero]
     intro x hx
     obtain ⟨b, hb, hx⟩ := List.mem_flatMap.1 hx
     refine List.countP_eq_zero.1 (none b ?_) x hx
     cases hv : bR p b with
     | false => rfl
     | true =>
      obtain ⟨e1, n1⟩ := hm a (by simp)
      obtain ⟨e2, n2⟩ := hm b (by simp [hb])
      have k1 := qAr (e := ((p, (0, p)) : Ent)) n1 hu
      have k2 := qAr (e := ((p, (0, p)) : Ent)) n2 hv
      rw [k1] at k2
      exact absurd hb (by rw [← Option.some.inj k2]; exact h1)
    have := one a
    omega
theorem qKb {t : List Ent} {p : ByteArray} (h : eF t p ≠ qPs) : ∃ e ∈ t, e.1 = p := by
 unfold eF at h
 cases hf : t.find? (fun e => decide (e.1 = p)) with
 | none => rw [hf] at h; exact absurd rfl h
 | some e => exact ⟨e, List.mem_of_find?_eq_some hf, by simpa using List.find?_some hf⟩
theorem qKa {t : List Ent} (h : ∀ e ∈ t, lK e.2 = true) (p : ByteArray) : lK (eF t p) = true := by
 unfold eF
 cases hf : t.find? (fun e => decide (e.1 = p)) with
 | none => rfl
 | some e => exact h e (List.mem_of_find?_eq_some hf)
theorem qLu {n : Int × ByteArray} (h : lK n = true) (hd : n.1 = 1) : n = (1, { data := #[] }) := by
 obtain ⟨k, s⟩ := n
 dsimp only at hd
 subst hd
 unfold lK at h
 rw [if_neg (show ¬ (1 : Int) = 2 by decide)] at h
 simp only [Bool.and_eq_true, decide_eq_true_eq] at h
 rw [ByteArray.size_eq_zero_iff.1 h.2]
 rfl
theorem qUk {E A H S : List Ent} (hE : A ++ H ++ S = E) (hk : ∀ e ∈ E, pOk e.1 5 = true) (wH : ∀ e ∈ H, lK e.2 = true) (wS : ∀ e ∈ S, lK e.2 = true) {p : ByteArray} (hd : eF H p ≠ eF S p) : ∀ (k : Nat) (top : ByteArray), bR p top = true → p ≠ top → p.size ≤ top.size + k → ∃ x ∈ aL mg A H S k top, hZ p x = true := by
 have hmem : ∃ e ∈ E, e.1 = p := by
  by_cases h0 : eF H p = qPs
  ·rw [h0] at hd
   obtain ⟨e, he, h⟩ := qKb (Ne.symm hd)
   exact ⟨e, by rw [← hE]; simp [he], h⟩
  ·obtain ⟨e, he, h⟩ := qKb h0
   exact ⟨e, by rw [← hE]; simp [he], h⟩
 obtain ⟨e, he, hep⟩ := hmem
 have hpk : pOk p 5 = true := by rw [← hep]; exact hk e he
 intro k
 induction k with
 | zero =>
  intro top hu hn hs
  obtain ⟨x, hx⟩ := qMo hep hpk hu hn
  have := fF hx
  rw [hep] at this
  omega
 | succ k ih =>
  intro top hu hn hs
  obtain ⟨q, hq⟩ := qMo hep hpk hu hn
  have hsz := fF hq
  have hpq : bR p q = true := by have := (qB1 hq (nK (hk e he))).2.1; rwa [hep] at this
  have hqN : q ∈ (cG top E).map (fun e => e.1) := uT E [] (.inr ⟨e, he, hq⟩)
  have key : ∃ x ∈ cK mg (aL mg A H S k) A H S q, hZ p x = true := by
   have tell : ∀ n : Int, n ≠ 1 → hZ p (q, n) = true := fun n hn => by simp [hZ, hn, hpq]
   unfold cK
   split
   ·rename_i h
    exfalso
    rw [← qA2 (t := H) hpq, ← qA2 (t := S) hpq, h] at hd
    exact hd rfl
   ·split
    ·rename_i h
     have hne : p ≠ q := fun z => by
      subst z
      exact hd (by rw [qLu (qKa wH p) h.1, qLu (qKa wS p) h.2])
     obtain ⟨x, hx, ht⟩ := ih q hpq hne (by omega)
     exact ⟨x, List.mem_append.2 (.inr hx), ht⟩
    ·split
     ·exact ⟨_, List.mem_singleton.2 rfl, tell 3 (by decide)⟩
     ·split
      ·exact ⟨_, List.mem_singleton.2 rfl, tell 2 (by decide)⟩
      ·refine ⟨_, List.mem_singleton.2 rfl, tell _ ?_⟩
       split <;> decide
  obtain ⟨x, hx, ht⟩ := key
  refine ⟨x, ?_, ht⟩
  rw [aL, hE]
  exact List.mem_flatMap.2 ⟨q, hqN, hx⟩
theorem qMj {t : List Ent} (h : okR t = true) : ∀ e ∈ t, lK e.2 = true := fun e he => by
 obtain ⟨i, hi, rfl⟩ := List.getElem_of_mem he
 have := qJ.1 h i hi
 simp only [qDd, qLm, Bool.and_eq_true] at this
 rw [yY hi] at this
 exact this.1.2.1
theorem zEx {E A H S : List Ent} (hE : A ++ H ++ S = E) (hk : ∀ e ∈ E, pOk e.1 5 = true) (wH : ∀ e ∈ H, lK e.2 = true) (wS : ∀ e ∈ S, lK e.2 = true) {p : ByteArray} (hd : eF H p ≠ eF S p) {k : Nat} (hs : p.size ≤ k) : (aL mg A H S k { data := #[] }).countP (hZ p) = 1 := by
 have hn : p ≠ { data := #[] } := fun z => by
  subst z
  have no : ∀ t : List Ent, (∀ e ∈ t, e ∈ E) → eF t { data := #[] } = qPs := fun t ht => by
   refine Decidable.byContradiction fun h => ?_
   obtain ⟨e, he, hep⟩ := qKb h
   exact zFp (hk e (ht e he)) hep
  exact hd (by rw [no H (fun e he => by rw [← hE]; simp [he]), no S (fun e he => by rw [← hE]; simp [he])])
 obtain ⟨x, hx, ht⟩ := qUk (mg := mg) hE hk wH wS hd k { data := #[] } (qR p) hn (by have : ({ data := #[] } : ByteArray).size = 0 := rfl; omega)
 have h1 := qFi (mg := mg) (A := A) (H := H) (S := S) p k { data := #[] }
 have h2 : 0 < (aL mg A H S k { data := #[] }).countP (hZ p) := List.countP_pos_iff.2 ⟨x, hx, ht⟩
 omega
end Go.Rc
