/- What the walk of the law stands on. -/
import Derived.Test.YtlfenddhppoflaaMgL
set_option linter.unusedVariables false
set_option linter.unusedSimpArgs false
namespace Go.DiffM
section
variable {α : Type} {o a b : List α}
def TK (o a b : List α) : List (Nat × Nat × Nat) → Nat → Nat → Nat → Prop
 | [], _, _, _ => True
 | (p, q, r) :: l, i, j, k => i ≤ p ∧ j ≤ q ∧ k ≤ r ∧ (∃ (h1 : p < o.length) (h2 : q < a.length) (h3 : r < b.length), o[p] = a[q] ∧ o[p] = b[r]) ∧ TK o a b l (p + 1) (q + 1) (r + 1)
theorem TK.low : ∀ {l : List (Nat × Nat × Nat)} {i j k i' j' k' : Nat}, TK o a b l i j k → i' ≤ i → j' ≤ j → k' ≤ k → TK o a b l i' j' k'
 | [], _, _, _, _, _, _, _, _, _, _ => trivial
 | (p, q, r) :: l, _, _, _, _, _, _, ⟨h1, h2, h3, h4⟩, a, b, c => ⟨by omega, by omega, by omega, h4⟩
theorem tri_nil' : ∀ (x : List (Nat × Nat)), tri x [] = []
 | [] => rfl
 | (p, q) :: r => by
  have := tri_nil' r
  unfold tri at this ⊢
  rw [List.flatMap_cons, this]; rfl
theorem tri_ok : ∀ (n : Nat) (x y : List (Nat × Nat)) (i j k : Nat), x.length + y.length ≤ n → KN o a x i j → KN o b y i k → TK o a b (tri x y) i j k
 | n, [], y, i, j, k, _, _, _ => trivial
 | n, x, [], i, j, k, _, _, _ => by rw [tri_nil']; trivial
 | 0, (p, q) :: r, y, _, _, _, h, _, _ => by simp at h
 | n + 1, (p, q) :: x, (p2, q2) :: y, i, j, k, h, ⟨h1, h2, ⟨h3, h4, h5⟩, h6⟩, ⟨g1, g2, ⟨g3, g4, g5⟩, g6⟩ => by
  simp only [List.length_cons] at h
  rcases Nat.lt_trichotomy p p2 with e | e | e
  ·have hy : KN o b ((p2, q2) :: y) (p + 1) k := ⟨by omega, g2, ⟨g3, g4, g5⟩, g6⟩
   rw [tri_lt hy (Nat.lt_succ_self p)]
   exact (tri_ok n x ((p2, q2) :: y) (p + 1) (q + 1) k (by simp only [List.length_cons]; omega) h6 hy).low (by omega) (by omega) (Nat.le_refl _)
  ·subst e
   rw [tri_eq h6 g6]
   exact ⟨h1, h2, g2, ⟨h3, h4, g4, h5, g5⟩, tri_ok n x y (p + 1) (q + 1) (q2 + 1) (by omega) h6 g6⟩
  ·have hx : KN o a ((p, q) :: x) (p2 + 1) j := ⟨by omega, h2, ⟨h3, h4, h5⟩, h6⟩
   rw [tri_low hx (Nat.lt_succ_self p2)]
   exact (tri_ok n ((p, q) :: x) y (p2 + 1) j (q2 + 1) (by simp only [List.length_cons]; omega) hx g6).low (by omega) (Nat.le_refl _) (by omega)
def CkOk (c : Ck α) : Prop := c.b.length + c.l.length + c.r.length ≠ 0 ∧ (c.st = true → c.b = c.l ∧ c.b = c.r)
def Alt (cs : List (Ck α)) : Prop := ∀ n (h : n + 1 < cs.length), cs[n].st ≠ cs[n + 1].st
structure Pt (o a b : List α) (u : Cu α) : Prop where
 i : u.i ≤ o.length
 j : u.j ≤ a.length
 k : u.k ≤ b.length
 pb : u.out.flatMap (·.b) = o.take u.i
 pl : u.out.flatMap (·.l) = a.take u.j
 pr : u.out.flatMap (·.r) = b.take u.k
 ok : ∀ c ∈ u.out, CkOk c
 alt : Alt u.out
theorem alt_snoc {cs : List (Ck α)} {c : Ck α} (h : Alt cs) (hl : ∀ x, cs.getLast? = some x → x.st ≠ c.st) : Alt (cs ++ [c]) := by
 intro n hn
 simp only [List.length_append, List.length_singleton] at hn
 by_cases e : n + 1 < cs.length
 ·rw [List.getElem_append_left (by omega), List.getElem_append_left e]; exact h n e
 ·have e2 : n + 1 = cs.length := by omega
  rw [List.getElem_append_left (by omega), List.getElem_append_right (by omega)]
  simp only [e2, Nat.sub_self, List.getElem_cons_zero]
  refine hl _ ?_
  rw [List.getLast?_eq_getElem?, show cs.length - 1 = n by omega, List.getElem?_eq_getElem]
theorem take_drop_app {l : List α} {i j : Nat} (h : i ≤ j) : l.take i ++ (l.take j).drop i = l.take j := by
 have : l.take i = (l.take j).take i := by rw [List.take_take, Nat.min_eq_left h]
 rw [this, List.take_append_drop]
def HL (u : Cu α) : Prop := ∀ c, u.out.getLast? = some c → c.st = true
theorem betw_pt {u : Cu α} (h : Pt o a b u) (hl : HL u) {i j k : Nat} (hi : u.i ≤ i ∧ i ≤ o.length) (hj : u.j ≤ j ∧ j ≤ a.length) (hk : u.k ≤ k ∧ k ≤ b.length) : Pt o a b (betw o a b u i j k) := by
 by_cases hp : u.i < i ∨ u.j < j ∨ u.k < k
 ·have eo : (betw o a b u i j k).out = u.out ++ [⟨false, (o.take i).drop u.i, (a.take j).drop u.j, (b.take k).drop u.k⟩] := by rw [betw, if_pos hp]
  refine ⟨hi.2, hj.2, hk.2, ?_, ?_, ?_, ?_, ?_⟩
  ·rw [eo, List.flatMap_append, h.pb]; simp only [List.flatMap_cons, List.flatMap_nil, List.append_nil]; exact take_drop_app hi.1
  ·rw [eo, List.flatMap_append, h.pl]; simp only [List.flatMap_cons, List.flatMap_nil, List.append_nil]; exact take_drop_app hj.1
  ·rw [eo, List.flatMap_append, h.pr]; simp only [List.flatMap_cons, List.flatMap_nil, List.append_nil]; exact take_drop_app hk.1
  ·rw [eo]
   intro c hc
   rcases List.mem_append.1 hc with hc | hc
   ·exact h.ok c hc
   ·simp only [List.mem_singleton] at hc
    subst hc
    refine ⟨?_, fun e => by cases e⟩
    simp only [List.length_drop, List.length_take]
    omega
  ·rw [eo]
   refine alt_snoc h.alt fun x hx => ?_
   rw [hl x hx]; simp
 ·have eo : (betw o a b u i j k).out = u.out := by rw [betw, if_neg hp]
  have e1 : i = u.i := by omega
  have e2 : j = u.j := by omega
  have e3 : k = u.k := by omega
  subst e1; subst e2; subst e3
  exact ⟨h.i, h.j, h.k, by rw [eo]; exact h.pb, by rw [eo]; exact h.pl, by rw [eo]; exact h.pr, by rw [eo]; exact h.ok, by rw [eo]; exact h.alt⟩
theorem cadd_cases (cs : List (Ck α)) (s : α) : (∃ pre c, cs = pre ++ [c] ∧ c.st = true ∧ cadd cs s = pre ++ [⟨true, c.b ++ [s], c.l ++ [s], c.r ++ [s]⟩]) ∨ ((∀ c, cs.getLast? = some c → c.st = false) ∧ cadd cs s = cs ++ [⟨true, [s], [s], [s]⟩]) := by
 rcases List.eq_nil_or_concat cs with rfl | ⟨pre, c, rfl⟩
 ·exact .inr ⟨fun c h => by simp at h, rfl⟩
 ·rw [List.concat_eq_append]
  cases hc : c.st with
  | true => exact .inl ⟨pre, c, rfl, hc, by simp [cadd, hc]⟩
  | false => exact .inr ⟨fun c' h => by simp at h; subst h; exact hc, by simp [cadd, hc]⟩
theorem stab_pt {u : Cu α} (h : Pt o a b u) (hi : u.i < o.length) (hj : u.j < a.length) (hk : u.k < b.length) (e1 : o[u.i] = a[u.j]) (e2 : o[u.i] = b[u.k]) : Pt o a b (stab o[u.i] u) ∧ HL (stab o[u.i] u) := by
 have parts : (cadd u.out o[u.i]).flatMap (·.b) = o.take (u.i + 1) ∧ (cadd u.out o[u.i]).flatMap (·.l) = a.take (u.j + 1) ∧ (cadd u.out o[u.i]).flatMap (·.r) = b.take (u.k + 1) ∧ (∀ c ∈ cadd u.out o[u.i], CkOk c) ∧ Alt (cadd u.out o[u.i]) ∧ (∀ c, (cadd u.out o[u.i]).getLast? = some c → c.st = true) := by
  rw [List.take_succ_eq_append_getElem hi, List.take_succ_eq_append_getElem hj, List.take_succ_eq_append_getElem hk, ← e1, ← e2, ← h.pb, ← h.pl, ← h.pr]
  rcases cadd_cases u.out o[u.i] with ⟨pre, c, eo, hc, e⟩ | ⟨hl, e⟩
  ·rw [e, eo]
   have hok := h.ok c (by rw [eo]; simp)
   refine ⟨by simp, by simp, by simp, fun c' hc' => ?_, ?_, fun c' hc' => by simp at hc'; subst hc'; rfl⟩
   ·rcases List.mem_append.1 hc' with h' | h'
    ·exact h.ok c' (by rw [eo]; simp [h'])
    ·simp only [List.mem_singleton] at h'
     subst h'
     refine ⟨by simp, fun _ => ?_⟩
     obtain ⟨p, q⟩ := hok.2 hc
     simp only [← p, ← q]
     exact ⟨trivial, trivial⟩
   ·have hA := h.alt
    rw [eo] at hA
    intro n hn
    have hn' : n + 1 < (pre ++ [c]).length := by simpa using hn
    have := hA n hn'
    by_cases e3 : n + 1 < pre.length
    ·rw [List.getElem_append_left (by omega), List.getElem_append_left e3] at this ⊢; exact this
    ·have e4 : n + 1 = pre.length := by simp at hn; omega
     rw [List.getElem_append_left (by omega), List.getElem_append_right (by omega)] at this ⊢
     simp only [e4, Nat.sub_self, List.getElem_cons_zero] at this ⊢
     rw [hc] at this; exact this
  ·rw [e]
   refine ⟨by simp, by simp, by simp, fun c' hc' => ?_, ?_, fun c' hc' => by simp at hc'; subst hc'; rfl⟩
   ·rcases List.mem_append.1 hc' with h' | h'
    ·exact h.ok c' h'
    ·simp only [List.mem_singleton] at h'
     subst h'
     exact ⟨by simp, fun _ => ⟨rfl, rfl⟩⟩
   ·exact alt_snoc h.alt fun x hx => by rw [hl x hx]; simp
 obtain ⟨p1, p2, p3, p4, p5, p6⟩ := parts
 exact ⟨⟨hi, hj, hk, p1, p2, p3, p4, p5⟩, p6⟩
variable [Inhabited α]
theorem chT_pt : ∀ (l : List (Nat × Nat × Nat)) (u : Cu α), TK o a b l u.i u.j u.k → Pt o a b u → HL u → Pt o a b (chT o a b l u) ∧ HL (chT o a b l u)
 | [], u, _, h, hl => ⟨h, hl⟩
 | (i, j, k) :: l, u, ⟨h1, h2, h3, ⟨h4, h5, h6, h7, h8⟩, h9⟩, h, hl => by
  rw [chT]
  have hb := betw_pt h hl (i := i) (j := j) (k := k) ⟨h1, by omega⟩ ⟨h2, by omega⟩ ⟨h3, by omega⟩
  have hs : o.getD i default = o[i] := by simp [List.getD_eq_getElem?_getD, h4]
  rw [hs]
  have := stab_pt (u := betw o a b u i j k) hb h4 h5 h6 h7 h8
  exact chT_pt l _ h9 this.1 this.2
end
section
variable {α : Type} [DecidableEq α] [Inhabited α] {o a b : List α}
theorem chunks_pt (o a b : List α) : Pt o a b (betw o a b (chT o a b (tri (kn o a) (kn o b)) ⟨0, 0, 0, []⟩) o.length a.length b.length) := by
 have hT := tri_ok _ (kn o a) (kn o b) 0 0 0 (Nat.le_refl _) (kn_ok o a) (kn_ok o b)
 have h0 : Pt o a b ⟨0, 0, 0, []⟩ := ⟨Nat.zero_le _, Nat.zero_le _, Nat.zero_le _, rfl, rfl, rfl, fun c h => by simp at h, fun n h => by simp at h⟩
 obtain ⟨h1, h2⟩ := chT_pt _ ⟨0, 0, 0, []⟩ hT h0 (fun c h => by simp at h)
 exact betw_pt h1 h2 ⟨h1.i, Nat.le_refl _⟩ ⟨h1.j, Nat.le_refl _⟩ ⟨h1.k, Nat.le_refl _⟩
theorem chunks_b (o a b : List α) : (chunks o a b).flatMap (·.b) = o := by have := (chunks_pt o a b).pb; rw [chunks, this]; exact List.take_length
theorem chunks_l (o a b : List α) : (chunks o a b).flatMap (·.l) = a := by have := (chunks_pt o a b).pl; rw [chunks, this]; exact List.take_length
theorem chunks_r (o a b : List α) : (chunks o a b).flatMap (·.r) = b := by have := (chunks_pt o a b).pr; rw [chunks, this]; exact List.take_length
theorem chunks_ok (o a b : List α) : ∀ c ∈ chunks o a b, CkOk c := (chunks_pt o a b).ok
end
end Go.DiffM
