/-
  Recon: with the sides changed about the same is said, vN about: plain.
-/
import Derived.Test.YtdfjeokjmigkaaaGreatRcL
set_option linter.unusedSimpArgs false
set_option linter.unusedVariables false
namespace Go.DiffM
section
variable {α : Type}
def swC (c : Ck α) : Ck α := ⟨c.st, c.b, c.r, c.l⟩
def swU (u : Cu α) : Cu α := ⟨u.i, u.k, u.j, u.out.map swC⟩
theorem qZ7 (o a b : List α) (u : Cu α) (i j k : Nat) : oX o b a (swU u) i k j = swU (oX o a b u i j k) := by
 unfold oX swU
 dsimp only
 by_cases h : u.i < i ∨ u.j < j ∨ u.k < k
 ·rw [if_pos (by omega), if_pos h, List.map_append]; rfl
 ·rw [if_neg (by omega), if_neg h]
theorem zM9 (cs : List (Ck α)) (s : α) : rT (cs.map swC) s = (rT cs s).map swC := by
 rcases List.eq_nil_or_concat cs with rfl | ⟨q, c, rfl⟩
 ·rfl
 ·rw [List.concat_eq_append]
  unfold rT
  have e1 : ((q ++ [c]).map swC).getLast? = some (swC c) := by simp
  have e2 : (q ++ [c]).getLast? = some c := by simp
  rw [e1, e2]
  dsimp only
  have e3 : (swC c).st = c.st := rfl
  rw [e3]
  cases c.st with
  | true => simp [swC]
  | false => simp [swC]
theorem zKl (s : α) (u : Cu α) : qQ2 s (swU u) = swU (qQ2 s u) := by
 unfold qQ2 swU
 dsimp only
 rw [zM9]
variable [Inhabited α]
theorem qKu (o a b : List α) (x y : List (Nat × Nat)) : ∀ (n i : Nat) (u : Cu α), chI o b a y x n i (swU u) = swU (chI o a b x y n i u)
 | 0, i, u => rfl
 | n + 1, i, u => by
  rw [chI, chI]
  cases look x i with
  | none =>
   cases look y i with
   | none => exact qKu o a b x y n (i + 1) u
   | some k => exact qKu o a b x y n (i + 1) u
  | some j =>
   cases look y i with
   | none => exact qKu o a b x y n (i + 1) u
   | some k =>
    dsimp only
    rw [qZ7, zKl]
    exact qKu o a b x y n (i + 1) _
end
section
variable {α : Type} [DecidableEq α] [Inhabited α]
theorem zEd (o a b : List α) : lV o b a = (lV o a b).map swC := by
 have h1 := xZ (kn o a) (kn o b) o.length 0 (kn o a) (kn o b) 0 0 (⟨0, 0, 0, []⟩ : Cu α) (fun _ _ => rfl) (fun _ _ => rfl) (rA o a) (rA o b) (Nat.zero_add _)
 have h2 := xZ (kn o b) (kn o a) o.length 0 (kn o b) (kn o a) 0 0 (⟨0, 0, 0, []⟩ : Cu α) (fun _ _ => rfl) (fun _ _ => rfl) (rA o b) (rA o a) (Nat.zero_add _)
 have h3 := qKu o a b (kn o a) (kn o b) o.length 0 (⟨0, 0, 0, []⟩ : Cu α)
 have h0 : swU (⟨0, 0, 0, []⟩ : Cu α) = ⟨0, 0, 0, []⟩ := rfl
 rw [h0, h1, h2] at h3
 unfold lV
 rw [h3, qZ7]
 rfl
end
end Go.DiffM
namespace Go.Rc
open Go Go.Tr Go.Eng Go.Dk
def qL0 (n : Int) : Int := if n = 3 then 2 else if n = 2 then 3 else n
def qHv (x : ByteArray × Int) : ByteArray × Int := (x.1, qL0 x.2)
theorem qZe : ∀ {l m : List ByteArray}, l.Pairwise (fun a b => blt a b = true) → m.Pairwise (fun a b => blt a b = true) → (∀ x, x ∈ l ↔ x ∈ m) → l = m
 | [], [], _, _, _ => rfl
 | [], b :: m, _, _, h => by have := (h b).2 (by simp); cases this
 | a :: l, [], _, _, h => by have := (h a).1 (by simp); cases this
 | a :: l, b :: m, h1, h2, h => by
  obtain ⟨p1, q1⟩ := List.pairwise_cons.1 h1
  obtain ⟨p2, q2⟩ := List.pairwise_cons.1 h2
  have e : a = b := by
   refine Decidable.byContradiction fun hn => ?_
   have ha : a ∈ m := by
    rcases List.mem_cons.1 ((h a).1 (by simp)) with e | e
    ·exact absurd e hn
    ·exact e
   have hb : b ∈ l := by
    rcases List.mem_cons.1 ((h b).2 (by simp)) with e | e
    ·exact absurd e.symm hn
    ·exact e
   have := qCw (p1 b hb)
   rw [p2 a ha] at this; cases this
  subst e
  rw [qZe q1 q2 fun x => ?_]
  constructor
  ·intro hx
   rcases List.mem_cons.1 ((h x).1 (by simp [hx])) with e | e
   ·exact absurd e.symm (qYt (p1 x hx))
   ·exact e
  ·intro hx
   rcases List.mem_cons.1 ((h x).2 (by simp [hx])) with e | e
   ·exact absurd e.symm (qYt (p2 x hx))
   ·exact e
theorem qMn (top : ByteArray) (E : List Ent) (q : ByteArray) : q ∈ (cG top E).map (fun e => e.1) ↔ ∃ e ∈ E, bC top e = some q := by
 constructor
 ·intro h
  obtain ⟨x, hx, rfl⟩ := List.mem_map.1 h
  rcases dG E [] hx with h0 | h
  ·cases h0
  ·exact h
 ·intro h
  exact uT E [] (.inr h)
theorem qVw {top : ByteArray} {E F : List Ent} (h : ∀ e, e ∈ E ↔ e ∈ F) : (cG top E).map (fun e => e.1) = (cG top F).map (fun e => e.1) := by
 have up : ∀ E : List Ent, ((cG top E).map fun e => e.1).Pairwise fun a b => blt a b = true := fun E => List.pairwise_map.2 (qY (top := top) E [] List.Pairwise.nil)
 refine qZe (up E) (up F) fun q => ?_
 rw [qMn, qMn]
 constructor
 ·rintro ⟨e, he, hn⟩; exact ⟨e, (h e).1 he, hn⟩
 ·rintro ⟨e, he, hn⟩; exact ⟨e, (h e).2 he, hn⟩
variable {mg : (Int × ByteArray) → (Int × ByteArray) → (Int × ByteArray) → Bool}
theorem qUd (hm : ∀ a h s, mg a s h = mg a h s) {r r' : ByteArray → LN} {A H S : List Ent} {p : ByteArray} (hr : r' p = (r p).map qHv) : cK mg r' A S H p = (cK mg r A H S p).map qHv := by
 unfold cK
 by_cases h1 : cP H p = cP S p
 ·rw [if_pos h1.symm, if_pos h1, h1]
  split <;> rfl
 rw [if_neg (Ne.symm h1), if_neg h1]
 by_cases h2 : (eF H p).1 = 1 ∧ (eF S p).1 = 1
 ·rw [if_pos ⟨h2.2, h2.1⟩, if_pos h2, List.map_append, hr]
  split <;> rfl
 rw [if_neg (fun h => h2 ⟨h.2, h.1⟩), if_neg h2, hm]
 by_cases h3 : cP H p = cP A p
 ·by_cases h4 : cP S p = cP A p
  ·exact absurd (h3.trans h4.symm) h1
  ·rw [if_neg h4, if_pos h3, if_pos h3]; rfl
 ·by_cases h4 : cP S p = cP A p
  ·rw [if_pos h4, if_neg h3, if_pos h4]; rfl
  ·rw [if_neg h4, if_neg h3, if_neg h3, if_neg h4]
   split <;> rfl
theorem qKy (hm : ∀ a h s, mg a s h = mg a h s) {A H S : List Ent} : ∀ (k : Nat) (top : ByteArray), aL mg A S H k top = (aL mg A H S k top).map qHv
 | 0, _ => rfl
 | k + 1, top => by
  rw [aL, aL, qVw (E := A ++ S ++ H) (F := A ++ H ++ S) (fun e => by simp only [List.mem_append]; constructor <;> (rintro ((h | h) | h) <;> simp [h]))]
  generalize (cG top (A ++ H ++ S)).map (fun e => e.1) = N
  induction N with
  | nil => rfl
  | cons q r ih => rw [List.flatMap_cons, List.flatMap_cons, List.map_append, ih, qUd hm (qKy hm k q)]
end Go.Rc
namespace Go.Proofs.YtdfjeokjmigkaaaGreat
open Go Go.Eng Go.RowKit Go.Tr Go.Dk Go.Rc Go.DiffM
theorem qYp (c : Ck ByteArray) : ckN c = if c.st = true ∨ c.l = c.r ∨ c.b = c.r ∨ c.b = c.l then 0 else 1 := by
 unfold ckN
 by_cases h : oK c
 ·rw [if_pos h, if_pos]
  rcases h with h | h | h
  ·exact Or.inl h
  ·exact Or.inr (Or.inl h)
  ·exact Or.inr (Or.inr (Or.inl h))
 ·have h' : ¬ (c.st = true ∨ c.l = c.r ∨ c.b = c.r) := h
  simp only [not_or] at h'
  rw [if_neg h]
  by_cases h3 : c.b = c.l
  ·rw [if_pos h3, if_pos (Or.inr (Or.inr (Or.inr h3)))]
  ·rw [if_neg h3, if_neg (by simp only [not_or]; exact ⟨h'.1, h'.2.1, h'.2.2, h3⟩)]
theorem zRx (c : Ck ByteArray) : ckN (swC c) = ckN c := by
 rw [qYp, qYp]
 have e : ((swC c).st = true ∨ (swC c).l = (swC c).r ∨ (swC c).b = (swC c).r ∨ (swC c).b = (swC c).l) = (c.st = true ∨ c.l = c.r ∨ c.b = c.r ∨ c.b = c.l) := by
  refine propext ?_
  show (c.st = true ∨ c.r = c.l ∨ c.b = c.l ∨ c.b = c.r) ↔ _
  constructor
  ·rintro (h | h | h | h)
   ·exact Or.inl h
   ·exact Or.inr (Or.inl h.symm)
   ·exact Or.inr (Or.inr (Or.inr h))
   ·exact Or.inr (Or.inr (Or.inl h))
  ·rintro (h | h | h | h)
   ·exact Or.inl h
   ·exact Or.inr (Or.inl h.symm)
   ·exact Or.inr (Or.inr (Or.inr h))
   ·exact Or.inr (Or.inr (Or.inl h))
 simp only [e]
theorem qM3 {c : Ck ByteArray} (h : c.st = true ∨ c.l = c.r ∨ c.b = c.r) : ckT c = cat c.l := by unfold ckT; exact if_pos h
theorem zN2 {c : Ck ByteArray} (h : ¬ (c.st = true ∨ c.l = c.r ∨ c.b = c.r)) (h2 : c.b = c.l) : ckT c = cat c.r := by
 have h' : ¬ oK c := h
 unfold ckT
 rw [if_neg h', if_pos h2]
theorem zRw {c : Ck ByteArray} (hk : qY2 c) (h : ckN c = 0) : ckT (swC c) = ckT c := by
 have hk := hk.2
 rw [qYp] at h
 have el : (swC c).l = c.r := rfl
 have er : (swC c).r = c.l := rfl
 have eb : (swC c).b = c.b := rfl
 have es : (swC c).st = c.st := rfl
 by_cases h0 : c.st = true
 ·rw [qM3 (c := c) (Or.inl h0), qM3 (c := swC c) (Or.inl h0), el, ← (hk h0).1, ← (hk h0).2]
 by_cases h1 : c.l = c.r
 ·rw [qM3 (c := c) (Or.inr (Or.inl h1)), qM3 (c := swC c) (Or.inr (Or.inl h1.symm)), el, h1]
 by_cases h2 : c.b = c.r
 ·rw [qM3 (c := c) (Or.inr (Or.inr h2)), zN2 (c := swC c) ?_ h2, er]
  rw [es, el, er, eb]
  simp only [not_or]
  exact ⟨h0, fun x => h1 x.symm, fun x => h1 (x.symm.trans h2)⟩
 by_cases h3 : c.b = c.l
 ·rw [qM3 (c := swC c) (Or.inr (Or.inr h3)), zN2 (c := c) (by simp only [not_or]; exact ⟨h0, h1, h2⟩) h3, el]
 ·rw [if_neg (by simp only [not_or]; exact ⟨h0, h1, h2, h3⟩)] at h
  cases h
theorem zP9 (cs : List (Ck ByteArray)) : mgN (cs.map swC) = mgN cs := by
 unfold mgN
 rw [List.map_map]
 congr 1
 exact List.map_congr_left fun c _ => zRx c
theorem zP8 {cs : List (Ck ByteArray)} (hk : ∀ c ∈ cs, qY2 c) (h : mgN cs = 0) : mgT (cs.map swC) = mgT cs := by
 unfold mgT
 rw [List.map_map]
 congr 1
 refine List.map_congr_left fun c hc => zRw (hk c hc) ?_
 unfold mgN at h
 have : ∀ (l : List Nat), l.sum = 0 → ∀ x ∈ l, x = 0 := by
  intro l
  induction l with
  | nil => intro _ x hx; cases hx
  | cons y r ih =>
   intro h x hx
   rw [List.sum_cons] at h
   rcases List.mem_cons.1 hx with rfl | hx
   ·omega
   ·exact ih (by omega) x hx
 exact this _ h _ (List.mem_map.2 ⟨c, hc, rfl⟩)
theorem qJq (x y z : ByteArray) : mK x y z = 0 ↔ eG x = 0 ∧ eG y = 0 ∧ eG z = 0 := by
 unfold mK
 by_cases h1 : eG x = 0
 ·rw [if_neg (fun x => x h1)]
  by_cases h2 : eG y = 0
  ·rw [if_neg (fun x => x h2)]
   exact ⟨fun h => ⟨h1, h2, h⟩, fun h => h.2.2⟩
  ·rw [if_pos h2]
   exact ⟨fun h => absurd h h2, fun h => absurd h.2.1 h2⟩
 ·rw [if_pos h1]
  exact ⟨fun h => absurd h h1, fun h => absurd h.1 h1⟩
theorem zGc (a h s : Int × ByteArray) : mgR a s h = mgR a h s := by
 unfold mgR qZ
 by_cases hk : h.1 = 2 ∧ s.1 = 2
 ·rw [if_pos ⟨hk.2, hk.1⟩, if_pos hk]
  have hz := qJq (gK a) h.2 s.2
  have hz2 := qJq (gK a) s.2 h.2
  by_cases e : mK (gK a) h.2 s.2 = 0
  ·have e2 : mK (gK a) s.2 h.2 = 0 := hz2.2 ⟨(hz.1 e).1, (hz.1 e).2.2, (hz.1 e).2.1⟩
   rw [if_pos e, if_pos e2]
   have hc : bG (gK a) s.2 h.2 = (bG (gK a) h.2 s.2).map swC := zEd _ _ _
   have hT : qJo (gK a) h.2 s.2 = mgT (bG (gK a) h.2 s.2) := by rw [qJo, if_neg (fun x => x e)]
   have hT2 : qJo (gK a) s.2 h.2 = mgT ((bG (gK a) h.2 s.2).map swC) := by rw [qJo, if_neg (fun x => x e2), hc]
   have hN : qJp (gK a) h.2 s.2 = mgN (bG (gK a) h.2 s.2) := by rw [qJp, if_neg (fun x => x e)]
   have hN2 : qJp (gK a) s.2 h.2 = mgN (bG (gK a) h.2 s.2) := by rw [qJp, if_neg (fun x => x e2), hc, zP9]
   rw [hT, hT2, hN, hN2]
   by_cases h0 : mgN (bG (gK a) h.2 s.2) = 0
   ·have hok : ∀ c ∈ bG (gK a) h.2 s.2, qY2 c := qM4 _ _ _
    rw [zP8 hok h0]
   ·have hp : (0 : Int) < (mgN (bG (gK a) h.2 s.2) : Nat) := by omega
    have no : ∀ T : ByteArray, okM (if 4096 < T.size then (({ data := #[] } : ByteArray), (0 : Int), (4 : Int)) else (T, ((mgN (bG (gK a) h.2 s.2) : Nat) : Int), 0)) = false := fun T => by
     split
     ·rfl
     ·simp only [okM, decide_eq_true hp]; rfl
    rw [no, no]
  ·have e2 : mK (gK a) s.2 h.2 ≠ 0 := fun e2 => e (hz.2 ⟨(hz2.1 e2).1, (hz2.1 e2).2.2, (hz2.1 e2).2.1⟩)
   rw [if_neg e, if_neg e2]
   simp [okM, e, e2]
 ·rw [if_neg (fun h => hk ⟨h.2, h.1⟩), if_neg hk]
end Go.Proofs.YtdfjeokjmigkaaaGreat
