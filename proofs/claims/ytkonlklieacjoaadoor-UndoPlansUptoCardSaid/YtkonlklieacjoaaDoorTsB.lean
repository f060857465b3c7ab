/-
  Plain: sorted rows; the document's difference of two trees is the merge's.
-/
import Derived.Test.YtkonlklieacjoaaDoorTsA
import Derived.Test.YtkonlklieacjoaaDoorTpE
import Derived.Test.YtkonlklieacjoaaDoorTrM
import Derived.Test.YtkonlklieacjoaaDoorTrB
section
set_option linter.unusedSimpArgs false
set_option linter.unusedVariables false
namespace Go.Tr
open Go
def qJo (t : List Ent) : Prop := t.Pairwise fun x y => blt y.1 x.1 = false
theorem qSw {a b c : ByteArray} (h1 : blt b a = false) (h2 : blt c b = false) : blt c a = false := by
 cases e : blt c a with
 | false => rfl
 | true =>
  rcases rM a b with h | h | h
  ·rw [oC e h] at h2; cases h2
  ·rw [← h, e] at h2; cases h2
  ·rw [h] at h1; cases h1
theorem qYz {out : List Ent} {e : Ent} (h : qJo out) : qJo (qAm out e) := by
 unfold qAm
 induction out with
 | nil => simp [qJo]
 | cons x r ih =>
  obtain ⟨hx, hr⟩ := List.pairwise_cons.1 h
  cases hb : blt x.1 e.1 with
  | true =>
   simp only [List.takeWhile_cons, List.dropWhile_cons, hb, if_true, List.cons_append]
   refine List.pairwise_cons.2 ⟨fun y hy => ?_, ih hr⟩
   rcases List.mem_append.1 hy with hy | hy
   ·exact hx y ((List.takeWhile_sublist _).subset hy)
   ·rcases List.mem_cons.1 hy with rfl | hy
    ·exact mA hb
    ·exact hx y ((List.dropWhile_sublist _).subset hy)
  | false =>
   simp only [List.takeWhile_cons, List.dropWhile_cons, hb, Bool.false_eq_true, if_false, List.nil_append]
   refine List.pairwise_cons.2 ⟨fun y hy => ?_, h⟩
   rcases List.mem_cons.1 hy with rfl | hy
   ·exact hb
   ·exact qSw hb (hx y hy)
theorem zEf (out : List Ent) (e : Ent) : (qAm out e).Perm (e :: out) := by
 unfold qAm
 refine List.perm_middle.trans (List.Perm.cons e ?_)
 rw [List.takeWhile_append_dropWhile]
theorem qG4 : ∀ (t out : List Ent), qJo out → qJo (t.foldl qAm out)
 | [], out, h => h
 | e :: t, out, h => by rw [List.foldl_cons]; exact qG4 t _ (qYz h)
theorem qNy : ∀ (t out : List Ent), (t.foldl qAm out).Perm (out ++ t)
 | [], out => by simp
 | e :: t, out => by
  rw [List.foldl_cons]
  refine (qNy t _).trans ?_
  refine (List.Perm.append_right t (zEf out e)).trans ?_
  exact (List.perm_middle (l₁ := out)).symm
theorem qT3 (t : List Ent) : qJo (sortS t) := qG4 t [] .nil
theorem qX5 (t : List Ent) : (sortS t).Perm t := qNy t []
theorem zG4 {l X : List Ent} (hn : qJo l) (h : gU X) (hp : l.Perm X) : l = X := by
 refine List.Perm.eq_of_pairwise (le := fun x y : Ent => blt y.1 x.1 = false) (fun a b ha hb h1 h2 => ?_) hn (h.imp fun hh => mA hh) hp
 have he : a.1 = b.1 := by
  rcases rM a.1 b.1 with h | h | h
  ·rw [h] at h2; cases h2
  ·exact h
  ·rw [h] at h1; cases h1
 have ha' : a ∈ X := hp.mem_iff.1 ha
 obtain ⟨i, hi, rfl⟩ := List.getElem_of_mem ha'
 obtain ⟨j, hj, rfl⟩ := List.getElem_of_mem hb
 have := zF2 h hi hj he
 subst this
 rfl
theorem qSo {l X : List Ent} (h : gU X) (hp : l.Perm X) : sortS l = X := zG4 (qT3 l) h ((qX5 l).trans hp)
end Go.Tr
end
section
set_option linter.unusedSimpArgs false
set_option linter.unusedVariables false
namespace Go.Tr
open Go
theorem qJu {a b : List Ent} {e : Ent} (h : gU (a ++ b)) (h1 : ∀ x ∈ a, blt x.1 e.1 = true) (h2 : ∀ y ∈ b, blt e.1 y.1 = true) : gU (a ++ e :: b) := by
 obtain ⟨ra, rb, rab⟩ := List.pairwise_append.1 h
 refine List.pairwise_append.2 ⟨ra, List.pairwise_cons.2 ⟨h2, rb⟩, fun x hx y hy => ?_⟩
 rcases List.mem_cons.1 hy with rfl | hy
 ·exact h1 x hx
 ·exact rab x hx y hy
theorem qA3 {t : List Ent} (h : okR t = true) (p : ByteArray) : dD t p = !decide ((bW t p).1 = 0) := by
 have ri := qUr h
 cases th : dD t p with
 | false => rw [yZ th]; rfl
 | true =>
  have tp := fC ri p
  rw [th] at tp
  obtain ⟨hlt, hat⟩ := of_decide_eq_true tp.symm
  have hg := qGl ri hlt
  rw [hat] at hg
  rw [hg]
  have := oD.1 h _ hlt
  simp only [qA7, qNb, Bool.and_eq_true, Bool.not_eq_true', decide_eq_false_iff_not] at this
  rw [rV hlt] at this
  rw [decide_eq_false this.1.2.2.1]; rfl
theorem qZy {t : List Ent} (ri : gU t) (p : ByteArray) (n : Int × ByteArray) : vM t p n = jB t p n := by
 unfold vM jB
 by_cases hE : eW t p n = 0
 ·rw [if_pos hE, if_pos hE]
  have tp := fC ri p
  obtain ⟨s1, s2⟩ := pD ri p
  have pl := qCm t p
  have hleft : ∀ x ∈ t.take (aQ t p), blt x.1 p = true := fun x hx => by
   obtain ⟨k, hk, rfl⟩ := List.getElem_of_mem hx
   rw [List.length_take] at hk
   rw [List.getElem_take]
   exact s1 k (by omega) (by omega)
  cases th : dD t p with
  | true =>
   rw [th] at tp
   obtain ⟨hlt, hat⟩ := of_decide_eq_true tp.symm
   have hd : t = t.take (aQ t p) ++ t[aQ t p] :: t.drop (aQ t p + 1) := by
    rw [← List.drop_eq_getElem_cons hlt, List.take_append_drop]
   have ri2 := ri
   rw [hd] at ri2
   obtain ⟨ra, rb, rab⟩ := List.pairwise_append.1 ri2
   obtain ⟨rc, rd⟩ := List.pairwise_cons.1 rb
   rw [hat] at rc
   have rab2 : gU (t.take (aQ t p) ++ t.drop (aQ t p + 1)) := List.pairwise_append.2 ⟨ra, rd, fun x hx y hy => rab x hx y (List.mem_cons_of_mem _ hy)⟩
   have hf : (t.filter fun e => !decide (e.1 = p)) = t.take (aQ t p) ++ t.drop (aQ t p + 1) := by
    conv => lhs; rw [hd]
    rw [List.filter_append, List.filter_cons, hat]
    simp only [decide_true, Bool.not_true, Bool.false_eq_true, if_false]
    rw [List.filter_eq_self.2, List.filter_eq_self.2]
    ·intro x hx
     have := uP (rc x hx)
     simp only [Bool.not_eq_true', decide_eq_false_iff_not]
     exact fun e => this e.symm
    ·intro x hx
     have := uP (hleft x hx)
     simpa using this
   by_cases hk : n.1 = 0
   ·rw [qB9, if_pos hk, List.append_nil, hf, qNd, if_pos hk, List.eraseIdx_eq_take_drop_succ]
    exact qSo rab2 (List.Perm.refl _)
   ·rw [qB9, if_neg hk, hf, qNd, if_neg hk, if_pos th, List.set_eq_take_append_cons_drop, if_pos hlt]
    refine qSo (qJu rab2 hleft rc) ?_
    exact (List.perm_append_singleton _ _).trans List.perm_middle.symm
  | false =>
   have hf : (t.filter fun e => !decide (e.1 = p)) = t := by
    rw [List.filter_eq_self]
    intro x hx
    have := List.any_eq_false.1 th x hx
    simpa using this
   have hright : ∀ y ∈ t.drop (aQ t p), blt p y.1 = true := fun y hy => by
    have hne : ¬ y.1 = p := fun e => by
     have := List.any_eq_false.1 th y (List.mem_of_mem_drop hy)
     exact this (by simp [e])
    obtain ⟨k, hk, rfl⟩ := List.getElem_of_mem hy
    rw [List.length_drop] at hk
    rw [List.getElem_drop] at hne ⊢
    have := s2 (aQ t p + k) (by omega) (by omega)
    rcases rM t[aQ t p + k].1 p with h | h | h
    ·rw [h] at this; cases this
    ·exact absurd h hne
    ·exact h
   have hk : n.1 ≠ 0 := fun hk => by
    have hu := hE
    unfold eW at hu
    rw [if_pos hk, th] at hu
    split at hu
    ·cases hu
    ·split at hu
     ·cases hu
     ·cases hu
   rw [qB9, if_neg hk, hf, qNd, if_neg hk, if_neg (by rw [th]; decide)]
   refine qSo (qJu (by rw [List.take_append_drop]; exact ri) hleft hright) ?_
   refine (List.perm_append_singleton _ _).trans ?_
   refine List.Perm.trans ?_ List.perm_middle.symm
   rw [List.take_append_drop]
 ·rw [if_neg hE, if_neg hE]
end Go.Tr
end
section
set_option linter.unusedSimpArgs false
set_option linter.unusedVariables false
namespace Go.Tr
open Go
def gH : List Ent → List Ent → List ByteArray
 | [], [] => []
 | x :: a, [] => x.1 :: gH a []
 | [], y :: b => y.1 :: gH [] b
 | x :: a, y :: b => if blt x.1 y.1 then x.1 :: gH a (y :: b) else if blt y.1 x.1 then y.1 :: gH (x :: a) b else if x.2 = y.2 then gH a b else x.1 :: gH a b
termination_by a b => a.length + b.length
theorem zJk : gH [] [] = [] := by rw [gH]
theorem qXe (x : Ent) (a : List Ent) : gH (x :: a) [] = x.1 :: gH a [] := by rw [gH]
theorem qXa (y : Ent) (b : List Ent) : gH [] (y :: b) = y.1 :: gH [] b := by rw [gH]
theorem qXb {x y : Ent} {a b : List Ent} (h : blt x.1 y.1 = true) : gH (x :: a) (y :: b) = x.1 :: gH a (y :: b) := by rw [gH, if_pos h]
theorem qXc {x y : Ent} {a b : List Ent} (h : blt y.1 x.1 = true) : gH (x :: a) (y :: b) = y.1 :: gH (x :: a) b := by rw [gH, if_neg (by rw [mA h]; simp), if_pos h]
theorem qXd {x y : Ent} {a b : List Ent} (h : x.1 = y.1) : gH (x :: a) (y :: b) = if x.2 = y.2 then gH a b else x.1 :: gH a b := by rw [gH, h, mE]; simp
theorem qPz {Q : List Ent → List Ent → Prop} (nn : Q [] []) (cn : ∀ x a, Q a [] → Q (x :: a) []) (nc : ∀ y b, Q [] b → Q [] (y :: b))
  (lt : ∀ x a y b, blt x.1 y.1 = true → Q a (y :: b) → Q (x :: a) (y :: b)) (gt : ∀ x a y b, blt y.1 x.1 = true → Q (x :: a) b → Q (x :: a) (y :: b)) (eq : ∀ x a y b, x.1 = y.1 → Q a b → Q (x :: a) (y :: b)) : ∀ a b, Q a b := by
 have : ∀ n a b, a.length + b.length ≤ n → Q a b := by
  intro n
  induction n with
  | zero =>
   intro a b h
   cases a with
   | nil => cases b with
    | nil => exact nn
    | cons y b => simp at h
   | cons x a => simp at h
  | succ n ih =>
   intro a b h
   cases a with
   | nil => cases b with
    | nil => exact nn
    | cons y b => exact nc y b (ih _ _ (by simp at h ⊢; omega))
   | cons x a => cases b with
    | nil => exact cn x a (ih _ _ (by simp at h ⊢; omega))
    | cons y b =>
     rcases rM x.1 y.1 with h1 | h1 | h1
     ·exact lt x a y b h1 (ih _ _ (by simp at h ⊢; omega))
     ·exact eq x a y b h1 (ih _ _ (by simp at h ⊢; omega))
     ·exact gt x a y b h1 (ih _ _ (by simp at h ⊢; omega))
 exact fun a b => this _ a b (Nat.le_refl _)
def above (p : ByteArray) (t : List Ent) : Prop := ∀ e ∈ t, blt p e.1 = true
theorem lP {x : Ent} {t : List Ent} : gU (x :: t) ↔ above x.1 t ∧ gU t := List.pairwise_cons
theorem qMz {p : ByteArray} {x : Ent} {t : List Ent} (h : blt p x.1 = true) (h' : above x.1 t) : above p (x :: t) := fun e he => by
 rcases List.mem_cons.1 he with rfl | he
 ·exact h
 ·exact oC h (h' e he)
theorem qZd : ∀ a b, gH a b = [] → a = b := by
 refine qPz (fun _ => rfl) (fun x a _ h => ?_) (fun y b _ h => ?_) (fun x a y b h _ h2 => ?_) (fun x a y b h _ h2 => ?_) (fun x a y b h ih h2 => ?_)
 ·rw [qXe] at h; cases h
 ·rw [qXa] at h; cases h
 ·rw [qXb h] at h2; cases h2
 ·rw [qXc h] at h2; cases h2
 ·rw [qXd h] at h2
  split at h2
  ·rename_i e; rw [ih h2, Prod.ext h e]
  ·cases h2
theorem kE (x : Ent) (t : List Ent) (p : ByteArray) : bW (x :: t) p = if x.1 = p then x.2 else bW t p := by
 unfold bW
 rw [List.find?_cons]
 by_cases h : x.1 = p
 ·rw [decide_eq_true h, if_pos h]; rfl
 ·rw [decide_eq_false h, if_neg h]
theorem uL {t : List Ent} {p : ByteArray} (h : above p t) : bW t p = qQ := by
 refine yZ ?_
 unfold dD
 rw [List.any_eq_false]
 intro e he
 have := uP (h e he)
 simpa using fun e' => this e'.symm
def kinds (t : List Ent) : Prop := ∀ e ∈ t, e.2 ≠ qQ
theorem lT {x : Ent} {t : List Ent} (h : kinds (x :: t)) : x.2 ≠ qQ ∧ kinds t := ⟨h x (by simp), fun e he => h e (by simp [he])⟩
theorem zEz (p : ByteArray) : ∀ a b, gU a → gU b → kinds a → kinds b → (p ∈ gH a b ↔ bW a p ≠ bW b p) := by
 have nilab : ∀ p, above p [] := fun p e he => by simp at he
 have g0 : bW [] p = qQ := rfl
 refine qPz (fun _ _ _ _ => by rw [zJk]; simp) (fun x a ih ra rb ka kb => ?_) (fun y b ih ra rb ka kb => ?_) (fun x a y b h ih ra rb ka kb => ?_) (fun x a y b h ih ra rb ka kb => ?_) (fun x a y b h ih ra rb ka kb => ?_)
 ·rw [lP] at ra
  obtain ⟨k1, k2⟩ := lT ka
  rw [qXe, List.mem_cons, kE, ih ra.2 rb k2 kb]
  by_cases e : x.1 = p
  ·rw [if_pos e, g0]; exact ⟨fun _ => k1, fun _ => .inl e.symm⟩
  ·rw [if_neg e]; exact ⟨fun h => h.resolve_left fun e' => e e'.symm, .inr⟩
 ·rw [lP] at rb
  obtain ⟨k1, k2⟩ := lT kb
  rw [qXa, List.mem_cons, kE, ih ra rb.2 ka k2]
  by_cases e : y.1 = p
  ·rw [if_pos e, g0]; exact ⟨fun _ h => k1 h.symm, fun _ => .inl e.symm⟩
  ·rw [if_neg e]; exact ⟨fun h => h.resolve_left fun e' => e e'.symm, .inr⟩
 ·have rb' := lP.1 rb
  rw [lP] at ra
  obtain ⟨k1, k2⟩ := lT ka
  rw [qXb h, List.mem_cons, kE, ih ra.2 rb k2 kb]
  by_cases e : x.1 = p
  ·subst e
   rw [if_pos rfl, uL (qMz h rb'.1)]; exact ⟨fun _ => k1, fun _ => .inl rfl⟩
  ·rw [if_neg e]; exact ⟨fun h => h.resolve_left fun e' => e e'.symm, .inr⟩
 ·have ra' := lP.1 ra
  rw [lP] at rb
  obtain ⟨k1, k2⟩ := lT kb
  rw [qXc h, List.mem_cons, kE y, ih ra rb.2 ka k2]
  by_cases e : y.1 = p
  ·subst e
   rw [if_pos rfl, uL (qMz h ra'.1)]; exact ⟨fun _ h => k1 h.symm, fun _ => .inl rfl⟩
  ·rw [if_neg e]; exact ⟨fun h => h.resolve_left fun e' => e e'.symm, .inr⟩
 ·rw [lP] at ra rb
  obtain ⟨k1, k2⟩ := lT ka
  obtain ⟨k3, k4⟩ := lT kb
  have ih := ih ra.2 rb.2 k2 k4
  rw [qXd h, kE, kE, ← h]
  by_cases e : x.1 = p
  ·subst e
   rw [if_pos rfl, if_pos rfl]
   rw [uL ra.1, uL (h ▸ rb.1)] at ih
   by_cases e2 : x.2 = y.2
   ·rw [if_pos e2]; exact ⟨fun h => absurd rfl (ih.1 h), fun h => absurd e2 h⟩
   ·rw [if_neg e2]; exact ⟨fun _ => e2, fun _ => by simp⟩
  ·rw [if_neg e, if_neg e]
   by_cases e2 : x.2 = y.2
   ·rw [if_pos e2]; exact ih
   ·rw [if_neg e2, List.mem_cons, ih]; exact ⟨fun h => h.resolve_left fun e' => e e'.symm, .inr⟩
end Go.Tr
end
section
set_option linter.unusedSimpArgs false
set_option linter.unusedVariables false
namespace Go.Tr
open Go
end Go.Tr
end
