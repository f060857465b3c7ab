/- What the walk of the law stands on. -/
import Derived.Test.YtlfenddhppoflaaDiffL
set_option linter.unusedVariables false
set_option linter.unusedSimpArgs false
namespace Go.DiffM
section
variable {α : Type} [DecidableEq α]
def knS : List Nat → Nat → Nat → List (Nat × Nat)
 | [], _, _ => []
 | x :: r, i, j => (if x = 0 then [(i, j)] else []) ++ knS r (if x = 2 then i else i + 1) (if x = 1 then j else j + 1)
def kn (a b : List α) : List (Nat × Nat) := knS (steps a b) 0 0
end
section
variable {α : Type}
def KN (a b : List α) : List (Nat × Nat) → Nat → Nat → Prop
 | [], _, _ => True
 | (p, q) :: r, i, j => i ≤ p ∧ j ≤ q ∧ (∃ (h1 : p < a.length) (h2 : q < b.length), a[p] = b[q]) ∧ KN a b r (p + 1) (q + 1)
theorem KN.low {a b : List α} : ∀ {l : List (Nat × Nat)} {i j i' j' : Nat}, KN a b l i j → i' ≤ i → j' ≤ j → KN a b l i' j'
 | [], _, _, _, _, _, _, _ => trivial
 | (p, q) :: r, i, j, i', j', ⟨h1, h2, h3, h4⟩, hi, hj => ⟨by omega, by omega, h3, h4⟩
theorem KN.len {a b : List α} : ∀ {l : List (Nat × Nat)} {i j : Nat}, KN a b l i j → l.length ≤ a.length - i
 | [], _, _, _ => Nat.zero_le _
 | (x, y) :: r, i, j, ⟨h1, h2, ⟨h3, h4, _⟩, h5⟩ => by
  have := h5.len
  simp only [List.length_cons]
  omega
theorem KN.mem {a b : List α} : ∀ {l : List (Nat × Nat)} {i j : Nat}, KN a b l i j → ∀ p ∈ l, i ≤ p.1 ∧ j ≤ p.2 ∧ p.1 < a.length ∧ p.2 < b.length
 | [], _, _, _, p, hp => by simp at hp
 | (x, y) :: r, i, j, ⟨h1, h2, ⟨h3, h4, _⟩, h5⟩, p, hp => by
  rcases List.mem_cons.1 hp with rfl | hp
  ·exact ⟨h1, h2, h3, h4⟩
  ·have := h5.mem p hp; exact ⟨by omega, by omega, this.2.2.1, this.2.2.2⟩
end
section
variable {α : Type} [DecidableEq α]
theorem knS_ok (a b : List α) : ∀ (L : List Nat) (i j : Nat), L = steps (a.drop i) (b.drop j) → KN a b (knS L i j) i j
 | [], _, _, _ => trivial
 | op :: rest, i, j, h => by
  rcases steps_inv a b i j op rest h.symm with ⟨rfl, hi, hj, he, hr⟩ | ⟨rfl, hi, hr⟩ | ⟨rfl, hj, hr⟩
  ·rw [knS, if_pos rfl, if_neg (by omega), if_neg (by omega)]
   exact ⟨Nat.le_refl _, Nat.le_refl _, ⟨hi, hj, he⟩, knS_ok a b rest _ _ hr⟩
  ·rw [knS, if_neg (by omega), if_neg (by omega), if_pos rfl]
   exact (knS_ok a b rest _ _ hr).low (by omega) (by omega)
  ·rw [knS, if_neg (by omega), if_pos rfl, if_neg (by omega)]
   exact (knS_ok a b rest _ _ hr).low (by omega) (by omega)
theorem kn_ok (a b : List α) : KN a b (kn a b) 0 0 := knS_ok a b _ 0 0 (by simp)
def plc (n : Nat) (l : List (Nat × Nat)) : List Int := l.foldl (fun (o : List Int) (p : Nat × Nat) => o.set p.1 (p.2 : Int)) (List.replicate n (-1))
def look : List (Nat × Nat) → Nat → Option Nat
 | [], _ => none
 | (p, q) :: r, i => if p = i then some q else look r i
def lookI (l : List (Nat × Nat)) (i : Nat) : Int := match look l i with | some q => q | none => -1
theorem look_none {l : List (Nat × Nat)} {i : Nat} (h : ∀ p ∈ l, p.1 ≠ i) : look l i = none := by
 induction l with
 | nil => rfl
 | cons x r ih =>
  obtain ⟨p, q⟩ := x
  rw [look, if_neg (h (p, q) (by simp)), ih fun y hy => h y (by simp [hy])]
end
section
variable {α : Type}
theorem plc_get {a b : List α} (n : Nat) : ∀ (l : List (Nat × Nat)) (i j : Nat) (o : List Int), KN a b l i j → o.length = n → ∀ k, k < n → (l.foldl (fun (o : List Int) (p : Nat × Nat) => o.set p.1 (p.2 : Int)) o)[k]? = some (match look l k with | some q => (q : Int) | none => o.getD k (-1))
 | [], _, _, o, _, ho, k, hk => by simp [look, List.getD_eq_getElem?_getD, List.getElem?_eq_getElem (show k < o.length by omega)]
 | (p, q) :: r, i, j, o, ⟨h1, h2, ⟨h3, h4, _⟩, h5⟩, ho, k, hk => by
  rw [List.foldl_cons, plc_get n r _ _ _ h5 (by rw [List.length_set, ho]) k hk]
  rw [look]
  by_cases e : p = k
  ·subst e
   rw [if_pos rfl, look_none (fun y hy => by have := (h5.mem y hy).1; omega)]
   simp [List.getD_eq_getElem?_getD, List.getElem?_set, ho, hk]
  ·rw [if_neg e]
   simp [List.getD_eq_getElem?_getD, List.getElem?_set, e]
theorem plc_len (n : Nat) (l : List (Nat × Nat)) : (plc n l).length = n := by
 have : ∀ (l : List (Nat × Nat)) (o : List Int), (l.foldl (fun (o : List Int) (p : Nat × Nat) => o.set p.1 (p.2 : Int)) o).length = o.length := by
  intro l
  induction l with
  | nil => intro o; rfl
  | cons x r ih => intro o; rw [List.foldl_cons, ih, List.length_set]
 rw [plc, this, List.length_replicate]
end
section
variable {α : Type} [DecidableEq α]
theorem plc_at (o a : List α) (k : Nat) (hk : k < o.length) : (plc o.length (kn o a))[k]'(by rw [plc_len]; exact hk) = lookI (kn o a) k := by
 have := plc_get o.length (kn o a) 0 0 (List.replicate o.length (-1)) (kn_ok o a) (by simp) k hk
 have h2 : (plc o.length (kn o a))[k]? = _ := this
 rw [List.getElem?_eq_getElem (by rw [plc_len]; exact hk)] at h2
 simp only [Option.some.injEq] at h2
 rw [h2, lookI]
 split <;> simp [List.getD_eq_getElem?_getD, hk]
end
theorem look_mem {l : List (Nat × Nat)} {i q : Nat} (h : look l i = some q) : (i, q) ∈ l := by
 induction l with
 | nil => simp [look] at h
 | cons x r ih =>
  obtain ⟨p, y⟩ := x
  rw [look] at h
  by_cases e : p = i
  ·rw [if_pos e] at h; cases h; subst e; exact List.mem_cons_self ..
  ·rw [if_neg e] at h; exact List.mem_cons_of_mem _ (ih h)
section
variable {α : Type}
structure Ck (α : Type) where
 st : Bool
 b : List α
 l : List α
 r : List α
structure Cu (α : Type) where
 i : Nat
 j : Nat
 k : Nat
 out : List (Ck α)
def cadd (cs : List (Ck α)) (s : α) : List (Ck α) := match cs.getLast? with
 | some c => if c.st then cs.dropLast ++ [⟨true, c.b ++ [s], c.l ++ [s], c.r ++ [s]⟩] else cs ++ [⟨true, [s], [s], [s]⟩]
 | none => [⟨true, [s], [s], [s]⟩]
def betw (o a b : List α) (u : Cu α) (i j k : Nat) : Cu α :=
 ⟨i, j, k, if u.i < i ∨ u.j < j ∨ u.k < k then u.out ++ [⟨false, (o.take i).drop u.i, (a.take j).drop u.j, (b.take k).drop u.k⟩] else u.out⟩
def stab (s : α) (u : Cu α) : Cu α := ⟨u.i + 1, u.j + 1, u.k + 1, cadd u.out s⟩
def tri (x y : List (Nat × Nat)) : List (Nat × Nat × Nat) := x.flatMap fun p => (y.filter fun q => p.1 == q.1).map fun q => (p.1, p.2, q.2)
variable [Inhabited α]
def chT (o a b : List α) : List (Nat × Nat × Nat) → Cu α → Cu α
 | [], u => u
 | (i, j, k) :: r, u => chT o a b r (stab (o.getD i default) (betw o a b u i j k))
def chI (o a b : List α) (x y : List (Nat × Nat)) : Nat → Nat → Cu α → Cu α
 | 0, _, u => u
 | n + 1, i, u => chI o a b x y n (i + 1) (match look x i, look y i with
  | some j, some k => stab (o.getD i default) (betw o a b u i j k)
  | _, _ => u)
end
section
variable {α : Type} [DecidableEq α] [Inhabited α]
def chunks (o a b : List α) : List (Ck α) := (betw o a b (chT o a b (tri (kn o a) (kn o b)) ⟨0, 0, 0, []⟩) o.length a.length b.length).out
end
section
variable {α : Type} {o a b : List α}
theorem fl_none {p i k : Nat} {y : List (Nat × Nat)} (hy : KN o b y i k) (h : p < i) : (y.filter fun z => p == z.1) = [] := by
 refine List.filter_eq_nil_iff.2 fun z hz => ?_
 have := (hy.mem z hz).1
 simp; omega
theorem tri_lt {p q i k : Nat} {x y : List (Nat × Nat)} (hy : KN o b y i k) (h : p < i) : tri ((p, q) :: x) y = tri x y := by
 rw [tri, List.flatMap_cons]
 dsimp only
 rw [fl_none hy h]; rfl
theorem tri_low {p q i j : Nat} : ∀ {x y : List (Nat × Nat)} (hx : KN o a x i j) (h : p < i), tri x ((p, q) :: y) = tri x y
 | [], y, _, _ => rfl
 | (s, t) :: r, y, ⟨h1, h2, h3, h4⟩, h => by
  have ih := tri_low (y := y) (q := q) h4 (show p < s + 1 by omega)
  unfold tri at ih ⊢
  rw [List.flatMap_cons, List.flatMap_cons, ih]
  congr 2
  rw [List.filter_cons_of_neg (by simp; omega)]
theorem tri_eq {p q q2 j k : Nat} {x y : List (Nat × Nat)} (hx : KN o a x (p + 1) j) (hy : KN o b y (p + 1) k) : tri ((p, q) :: x) ((p, q2) :: y) = (p, q, q2) :: tri x y := by
 have := tri_low (y := y) (q := q2) hx (Nat.lt_succ_self p)
 unfold tri at this ⊢
 rw [List.flatMap_cons, this]
 rw [List.filter_cons_of_pos (by simp), fl_none hy (Nat.lt_succ_self p)]; rfl
variable [Inhabited α]
theorem chI_tri (x y : List (Nat × Nat)) : ∀ (n i : Nat) (x' y' : List (Nat × Nat)) (j k : Nat) (u : Cu α), (∀ m, i ≤ m → look x m = look x' m) → (∀ m, i ≤ m → look y m = look y' m) → KN o a x' i j → KN o b y' i k → i + n = o.length →
  chI o a b x y n i u = chT o a b (tri x' y') u
 | 0, i, x', y', j, k, u, lx, ly, hx, hy, hn => by
  cases x' with
  | nil => rfl
  | cons p r => obtain ⟨p, q⟩ := p; obtain ⟨h1, h2, ⟨h3, h4, _⟩, h5⟩ := hx; omega
 | n + 1, i, x', y', j, k, u, lx, ly, hx, hy, hn => by
  have nl : ∀ {c : List α} {z : List (Nat × Nat)} {j : Nat}, KN o c z (i + 1) j → look z i = none := fun hz => look_none fun p hp => by have := (hz.mem p hp).1; omega
  have up : ∀ {c : List α} {z : List (Nat × Nat)} {j : Nat}, KN o c z i j → (∃ q r, z = (i, q) :: r ∧ KN o c r (i + 1) (q + 1)) ∨ KN o c z (i + 1) j := fun {c z j} hz => by
   cases z with
   | nil => exact .inr trivial
   | cons p r =>
    obtain ⟨p, q⟩ := p
    obtain ⟨h1, h2, h3, h4⟩ := hz
    by_cases e : p = i
    ·subst e; exact .inl ⟨q, r, rfl, h4⟩
    ·exact .inr ⟨by omega, h2, h3, h4⟩
  have sk : ∀ {q m : Nat} {r : List (Nat × Nat)}, i + 1 ≤ m → look ((i, q) :: r) m = look r m := fun {q m r} hm => by rw [look, if_neg (by omega)]
  rw [chI, lx i (Nat.le_refl _), ly i (Nat.le_refl _)]
  rcases up hx with ⟨q, r, rfl, h1⟩ | h1
  ·rcases up hy with ⟨q2, s, rfl, h2⟩ | h2
   ·rw [tri_eq h1 h2, chT]
    simp only [look, if_true]
    exact chI_tri x y n (i + 1) r s _ _ _ (fun m hm => (lx m (by omega)).trans (sk hm)) (fun m hm => (ly m (by omega)).trans (sk hm)) h1 h2 (by omega)
   ·rw [tri_lt h2 (Nat.lt_succ_self i), nl h2]
    simp only [look, if_true]
    exact chI_tri x y n (i + 1) r y' _ _ _ (fun m hm => (lx m (by omega)).trans (sk hm)) (fun m hm => ly m (by omega)) h1 h2 (by omega)
  ·rw [nl h1]
   rcases up hy with ⟨q2, s, rfl, h2⟩ | h2
   ·rw [tri_low h1 (Nat.lt_succ_self i)]
    exact chI_tri x y n (i + 1) x' s _ _ _ (fun m hm => lx m (by omega)) (fun m hm => (ly m (by omega)).trans (sk hm)) h1 h2 (by omega)
   ·exact chI_tri x y n (i + 1) x' y' _ _ _ (fun m hm => lx m (by omega)) (fun m hm => ly m (by omega)) h1 h2 (by omega)
end
section
variable {α : Type} {o a b : List α}
theorem look_ok {l : List (Nat × Nat)} {i j m q : Nat} (h : KN a b l i j) (e : look l m = some q) : i ≤ m ∧ j ≤ q ∧ m < a.length ∧ q < b.length := h.mem _ (look_mem e)
theorem look_up : ∀ {l : List (Nat × Nat)} {i j : Nat}, KN a b l i j → ∀ {m m' q q' : Nat}, look l m = some q → look l m' = some q' → m < m' → q < q'
 | [], _, _, _, m, m', q, q', h, _, _ => by simp [look] at h
 | (x, y) :: r, i, j, ⟨h1, h2, h3, h4⟩, m, m', q, q', h, h', hm => by
  rw [look] at h h'
  by_cases e : x = m
  ·rw [if_pos e] at h
   rw [if_neg (by omega)] at h'
   simp only [Option.some.injEq] at h
   have := (look_ok h4 h').2.1
   omega
  ·rw [if_neg e] at h
   by_cases e' : x = m'
   ·have := (look_ok h4 h).1; omega
   ·rw [if_neg e'] at h'
    exact look_up h4 h h' hm
structure Nxt (x : List (Nat × Nat)) (n j lim : Nat) : Prop where
 low : ∀ m q, n ≤ m → look x m = some q → j ≤ q
 lt : ∀ m q, look x m = some q → q < lim
 le : j ≤ lim
theorem Nxt.one {x : List (Nat × Nat)} {n j lim : Nat} (h : Nxt x n j lim) : Nxt x (n + 1) j lim := ⟨fun m q hm e => h.low m q (by omega) e, h.lt, h.le⟩
theorem Nxt.step {x : List (Nat × Nat)} {n j lim q i k : Nat} (h : Nxt x n j lim) (hk : KN o a x i k) (e : look x n = some q) : Nxt x (n + 1) (q + 1) lim :=
 ⟨fun m q' hm e' => look_up hk e e' (by omega), h.lt, h.lt n q e⟩
theorem Nxt.init {x : List (Nat × Nat)} (h : KN o a x 0 0) : Nxt x 0 0 a.length := ⟨fun _ _ _ _ => Nat.zero_le _, fun m q e => (look_ok h e).2.2.2, Nat.zero_le _⟩
end
end Go.DiffM
