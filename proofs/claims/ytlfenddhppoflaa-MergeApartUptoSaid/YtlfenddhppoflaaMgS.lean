/-
  The plain laws of merging: changes on the two sides of a line that stands once.
-/
import Derived.Test.YtlfenddhppoflaaDiffD
import Derived.Test.YtlfenddhppoflaaMgO
import Derived.Test.YtlfenddhppoflaaMgG
set_option linter.unusedVariables false
set_option linter.unusedSimpArgs false
namespace Go.DiffM
section
variable {α : Type} [DecidableEq α]
theorem lcs_suf (x c : List α) : lcs c (x ++ c) = c.length ∧ lcs (x ++ c) c = c.length := by
  have h1 := lcs_tail [] x c
  have h2 := lcs_tail x [] c
  rw [lcs_nil] at h1
  rw [lcs_nil'] at h2
  exact ⟨h1, h2⟩
theorem knS_end : ∀ (c : List α) (i j : Nat), knS (steps c c) i j = (List.range c.length).map (fun k => (i + k, j + k))
  | [], i, j => by rw [steps]; rfl
  | x :: xs, i, j => by
    rw [steps, if_pos rfl, knS, if_pos rfl, if_neg (by omega), if_neg (by omega), knS_end xs, List.length_cons, List.range_succ_eq_map, List.map_cons, List.map_map]
    simp only [List.singleton_append, Nat.add_zero]
    congr 1
    apply List.map_congr_left
    intro k _
    simp only [Function.comp]
    exact Prod.ext (by simp only; omega) (by simp only; omega)
theorem knS_head : ∀ (c a b : List α) (i j : Nat), knS (steps (c ++ a) (c ++ b)) i j = (List.range c.length).map (fun k => (i + k, j + k)) ++ knS (steps a b) (i + c.length) (j + c.length)
  | [], a, b, i, j => by simp
  | x :: xs, a, b, i, j => by
    rw [List.cons_append, List.cons_append, steps, if_pos rfl, knS, if_pos rfl, if_neg (by omega), if_neg (by omega), knS_head xs, List.length_cons, List.range_succ_eq_map, List.map_cons, List.map_map]
    have e : ∀ n, n + 1 + xs.length = n + (xs.length + 1) := fun n => by omega
    have hm : (List.range xs.length).map (fun k => (i + 1 + k, j + 1 + k)) = (List.range xs.length).map ((fun k => (i + k, j + k)) ∘ Nat.succ) := by
      apply List.map_congr_left
      intro k _
      simp only [Function.comp]
      exact Prod.ext (by simp only; omega) (by simp only; omega)
    rw [e, e, hm]
    rfl
/-- the line that stands once is kept -/
theorem knS_mid (m : α) (B : List α) : ∀ (n : Nat) (A X : List α) (i j : Nat), A.length + X.length ≤ n → m ∉ A → m ∉ X → ∃ K, knS (steps (A ++ m :: B) (X ++ m :: B)) i j = K ++ knS (steps (m :: B) (m :: B)) (i + A.length) (j + X.length) ∧ ∀ p ∈ K, p.1 < i + A.length
  | _, [], [], i, j, _, _, _ => ⟨[], rfl, fun p h => by simp at h⟩
  | 0, _ :: _, _, _, _, h, _, _ => by simp at h
  | 0, [], _ :: _, _, _, h, _, _ => by simp at h
  | n + 1, [], x :: xs, i, j, h, hA, hX => by
    simp only [List.length_cons] at h
    simp only [List.mem_cons, not_or] at hX
    obtain ⟨K, e, hK⟩ := knS_mid m B n [] xs i (j + 1) (by omega) hA hX.2
    have h1 := (lcs_suf xs (m :: B)).1
    have h2 := (lcs_le _ B (x :: (xs ++ m :: B)) (Nat.le_refl _)).1
    simp only [List.length_cons] at h1
    refine ⟨K, ?_, hK⟩
    rw [List.nil_append, List.cons_append, steps, if_neg hX.1, if_neg (by omega), knS, if_neg (by omega), if_pos rfl, if_neg (by omega)]
    rw [List.nil_append] at e
    rw [List.nil_append, e, List.length_cons, show j + 1 + xs.length = j + (xs.length + 1) by omega]
  | n + 1, a :: ys, [], i, j, h, hA, hX => by
    simp only [List.length_cons] at h
    simp only [List.mem_cons, not_or] at hA
    obtain ⟨K, e, hK⟩ := knS_mid m B n ys [] (i + 1) j (by omega) hA.2 hX
    have h1 := (lcs_suf ys (m :: B)).2
    have h2 := (lcs_le _ (a :: (ys ++ m :: B)) B (Nat.le_refl _)).2
    simp only [List.length_cons] at h1
    refine ⟨K, ?_, fun p hp => by have := hK p hp; simp only [List.length_cons]; omega⟩
    rw [List.nil_append, List.cons_append, steps, if_neg (fun e => hA.1 e.symm), if_pos (by omega), knS, if_neg (by omega), if_neg (by omega), if_pos rfl]
    rw [List.nil_append] at e
    rw [List.nil_append, e, List.length_cons, show i + 1 + ys.length = i + (ys.length + 1) by omega]
  | n + 1, a :: ys, x :: xs, i, j, h, hA, hX => by
    simp only [List.length_cons] at h
    simp only [List.mem_cons, not_or] at hA hX
    have e1 : i + 1 + ys.length = i + (ys.length + 1) := by omega
    have e2 : j + 1 + xs.length = j + (xs.length + 1) := by omega
    rw [List.cons_append, List.cons_append, steps]
    split
    · obtain ⟨K, e, hK⟩ := knS_mid m B n ys xs (i + 1) (j + 1) (by omega) hA.2 hX.2
      refine ⟨(i, j) :: K, ?_, fun p hp => ?_⟩
      · rw [knS, if_pos rfl, if_neg (by omega), if_neg (by omega), e, e1, e2]; rfl
      · rcases List.mem_cons.1 hp with rfl | hp
        · simp only [List.length_cons]; omega
        · have := hK p hp; simp only [List.length_cons]; omega
    · split
      · obtain ⟨K, e, hK⟩ := knS_mid m B n ys (x :: xs) (i + 1) j (by simp only [List.length_cons]; omega) hA.2 (by simp only [List.mem_cons, not_or]; exact hX)
        refine ⟨K, ?_, fun p hp => by have := hK p hp; simp only [List.length_cons]; omega⟩
        rw [List.cons_append] at e
        rw [knS, if_neg (by omega), if_neg (by omega), if_pos rfl, List.nil_append, e, e1]; rfl
      · obtain ⟨K, e, hK⟩ := knS_mid m B n (a :: ys) xs i (j + 1) (by simp only [List.length_cons]; omega) (by simp only [List.mem_cons, not_or]; exact hA) hX.2
        refine ⟨K, ?_, hK⟩
        rw [List.cons_append] at e
        rw [knS, if_neg (by omega), if_pos rfl, if_neg (by omega), List.nil_append, e, e2]; rfl
/-! ### the triples, split at that line -/
theorem tri_app (x y z : List (Nat × Nat)) : tri (x ++ y) z = tri x z ++ tri y z := by simp [tri]
theorem tri_mid {m : α} {A B X Y : List α} (hA : m ∉ A) (hX : m ∉ X) : ∃ T1 T2, tri (kn (A ++ m :: B) (X ++ m :: B)) (kn (A ++ m :: B) (A ++ m :: Y)) = T1 ++ (A.length, X.length, A.length) :: T2 ∧
    (∀ t ∈ T1, t.1 < A.length ∧ t.2.2 = t.1) ∧ (∀ t ∈ T2, t.1 + X.length = t.2.1 + A.length) := by
  obtain ⟨K, e, hK⟩ := knS_mid m B _ A X 0 0 (Nat.le_refl _) hA hX
  rw [knS_end, List.length_cons, List.range_succ_eq_map, List.map_cons, List.map_map] at e
  simp only [Nat.zero_add, Nat.add_zero] at e hK
  have e2 : kn (A ++ m :: B) (A ++ m :: Y) = (List.range (A.length + 1)).map (fun k => (k, k)) ++ knS (steps B Y) (A.length + 1) (A.length + 1) := by
    have := knS_head (A ++ [m]) B Y 0 0
    simp only [List.append_assoc, List.singleton_append, List.length_append, List.length_singleton, Nat.zero_add] at this
    exact this
  have hR : ∀ p ∈ knS (steps B Y) (A.length + 1) (A.length + 1), A.length + 1 ≤ p.1 := fun p hp => by
    have h1 : (A ++ m :: B).drop (A.length + 1) = B := by simp [List.drop_append]
    have h2 : (A ++ m :: Y).drop (A.length + 1) = Y := by simp [List.drop_append]
    have := knS_ok (A ++ m :: B) (A ++ m :: Y) (steps B Y) (A.length + 1) (A.length + 1) (by rw [h1, h2])
    exact (this.mem p hp).1
  have hI : ∀ p ∈ kn (A ++ m :: B) (A ++ m :: Y), p.1 ≤ A.length → p.2 = p.1 := fun p hp hl => by
    rw [e2] at hp
    rcases List.mem_append.1 hp with h | h
    · obtain ⟨k, -, rfl⟩ := List.mem_map.1 h; rfl
    · have := hR p h; omega
  have hf : (kn (A ++ m :: B) (A ++ m :: Y)).filter (fun q => A.length == q.1) = [(A.length, A.length)] := by
    rw [e2, List.range_succ, List.map_append, List.filter_append, List.filter_append]
    rw [(List.filter_eq_nil_iff (l := knS (steps B Y) (A.length + 1) (A.length + 1))).2 (fun p hp => by have := hR p hp; simp; omega)]
    rw [(List.filter_eq_nil_iff (l := (List.range A.length).map (fun k => (k, k)))).2 (fun p hp => by
      obtain ⟨k, hk, rfl⟩ := List.mem_map.1 hp
      have := List.mem_range.1 hk
      simp; omega)]
    simp
  refine ⟨tri K (kn (A ++ m :: B) (A ++ m :: Y)), tri ((List.range B.length).map ((fun k => (A.length + k, X.length + k)) ∘ Nat.succ)) (kn (A ++ m :: B) (A ++ m :: Y)), ?_, ?_, ?_⟩
  · have e0 : kn (A ++ m :: B) (X ++ m :: B) = _ := e
    rw [e0, tri_app]
    congr 1
    rw [tri, List.flatMap_cons]
    dsimp only
    rw [hf]
    rfl
  · intro t ht
    obtain ⟨h1, h2⟩ := tri_mem ht
    have h3 := hK _ h1
    exact ⟨h3, hI _ h2 (Nat.le_of_lt h3)⟩
  · intro t ht
    obtain ⟨h1, h2⟩ := tri_mem ht
    obtain ⟨k, -, hk⟩ := List.mem_map.1 h1
    simp only [Function.comp, Prod.mk.injEq] at hk
    omega
end
section
variable {α : Type} {o a b : List α}
theorem TK.pre : ∀ {l r : List (Nat × Nat × Nat)} {i j k : Nat}, TK o a b (l ++ r) i j k → TK o a b l i j k
  | [], _, _, _, _, _ => trivial
  | (p, q, s) :: l, r, _, _, _, ⟨h1, h2, h3, h4, h5⟩ => ⟨h1, h2, h3, h4, h5.pre⟩
theorem TK.suf : ∀ {l r : List (Nat × Nat × Nat)} {p q s i j k : Nat}, TK o a b (l ++ (p, q, s) :: r) i j k → TK o a b r (p + 1) (q + 1) (s + 1)
  | [], _, _, _, _, _, _, _, ⟨_, _, _, _, h⟩ => h
  | (x, y, z) :: l, r, _, _, _, _, _, _, ⟨_, _, _, _, h5⟩ => TK.suf (l := l) h5
theorem take_le {n i i' : Nat} {x y : List α} (h : x.take n = y.take n) (hi : i' ≤ n) : (x.take i').drop i = (y.take i').drop i := by
  have e : ∀ z : List α, z.take i' = (z.take n).take i' := fun z => by rw [List.take_take, Nat.min_eq_left hi]
  rw [e x, e y, h]
variable [Inhabited α]
theorem chT_app : ∀ (l r : List (Nat × Nat × Nat)) (u : Cu α), chT o a b (l ++ r) u = chT o a b r (chT o a b l u)
  | [], _, _ => rfl
  | (i, j, k) :: l, r, u => by rw [List.cons_append, chT, chT, chT_app l]
/-- ahead of the line: the base is the right side -/
theorem ch_one {n : Nat} (hn : o.take n = b.take n) : ∀ (l : List (Nat × Nat × Nat)) (u : Cu α), (∀ t ∈ l, t.1 < n ∧ t.2.2 = t.1) → u.k = u.i → u.i ≤ n → (∀ c ∈ u.out, c.b = c.r) →
    (chT o a b l u).k = (chT o a b l u).i ∧ ∀ c ∈ (chT o a b l u).out, c.b = c.r
  | [], u, _, h1, _, h2 => ⟨h1, h2⟩
  | (i, j, k) :: l, u, ht, h1, h0, h2 => by
    obtain ⟨t1, t2⟩ := ht (i, j, k) (by simp)
    simp only at t1 t2
    subst t2
    rw [chT]
    have hB : ∀ c ∈ (betw o a b u k j k).out, c.b = c.r := fun c hc => by
      rcases betw_mem hc with hc | rfl
      · exact h2 c hc
      · simp only; rw [h1]; exact take_le hn (by omega)
    refine ch_one hn l _ (fun t h => ht t (by simp [h])) rfl (show k + 1 ≤ n by omega) fun c hc => ?_
    rcases cadd_mem hc with hc | rfl | ⟨d, hd, rfl⟩
    · exact hB c hc
    · rfl
    · simp only; rw [hB d hd]
end
end Go.DiffM
namespace Go.Proofs.Ytlfenddhppoflaa
open Go Go.Eng Go.RowKit Go.DiffM
theorem mg_cadd {cs : List (Ck ByteArray)} (h : ∀ c ∈ cs, CkOk c) (s : ByteArray) : mgT (cadd cs s) = mgT cs ++ s ∧ mgN (cadd cs s) = mgN cs := by
  rcases cadd_cases cs s with ⟨pre, c, rfl, hc, e⟩ | ⟨-, e⟩
  · rw [e, mgT_snoc, mgT_snoc, mgN_snoc, mgN_snoc]
    have k1 : ckTakeL c := .inl hc
    have k2 : ckTakeL (⟨true, c.b ++ [s], c.l ++ [s], c.r ++ [s]⟩ : Ck ByteArray) := .inl rfl
    rw [ckT, if_pos k2, ckT, if_pos k1, ckN, if_pos k2, ckN, if_pos k1]
    simp only
    rw [cat_app, cat_one, ByteArray.append_assoc]
    exact ⟨rfl, trivial⟩
  · rw [e, mgT_snoc, mgN_snoc]
    have k2 : ckTakeL (⟨true, [s], [s], [s]⟩ : Ck ByteArray) := .inl rfl
    rw [ckT, if_pos k2, ckN, if_pos k2]
    simp only
    rw [cat_one]
    exact ⟨rfl, rfl⟩
theorem ck_right {c : Ck ByteArray} (e : c.b = c.l) (ho : CkOk c) : ckT c = cat c.r ∧ ckN c = 0 := by
  constructor
  · rw [ckT]
    split
    · rename_i h
      rcases h with h | h | h
      · obtain ⟨p, q⟩ := ho.2 h; rw [← p, q]
      · rw [h]
      · rw [← e, h]
    · first | rfl | rw [if_pos e]
  · rw [ckN]
    split
    · rfl
    · first | rfl | rw [if_pos e]
theorem mg_left {cs : List (Ck ByteArray)} (h : ∀ c ∈ cs, c.b = c.r) : mgT cs = cat (cs.flatMap (·.l)) ∧ mgN cs = 0 := by
  unfold mgT mgN
  induction cs with
  | nil => exact ⟨rfl, rfl⟩
  | cons c r ih =>
    obtain ⟨i1, i2⟩ := ih fun x hx => h x (by simp [hx])
    have k : ckTakeL c := .inr (.inr (h c (by simp)))
    have e1 : ckT c = cat c.l := by rw [ckT, if_pos k]
    have e2 : ckN c = 0 := by rw [ckN, if_pos k]
    constructor
    · rw [List.map_cons, cat_cons, List.flatMap_cons, cat_app, i1, e1]
    · rw [List.map_cons, List.sum_cons, e2, i2]
theorem mg_betw {o a b : List ByteArray} {u : Cu ByteArray} {i j k : Nat} (hk : u.k ≤ k) (hi : u.i ≤ i) (hj : u.j ≤ j) (he : (o.take i).drop u.i = (a.take j).drop u.j) :
    mgT (betw o a b u i j k).out = mgT u.out ++ cat ((b.take k).drop u.k) ∧ mgN (betw o a b u i j k).out = mgN u.out := by
  by_cases hp : u.i < i ∨ u.j < j ∨ u.k < k
  · have eo : (betw o a b u i j k).out = u.out ++ [⟨false, (o.take i).drop u.i, (a.take j).drop u.j, (b.take k).drop u.k⟩] := by rw [betw, if_pos hp]
    have hr : ckT (⟨false, (o.take i).drop u.i, (a.take j).drop u.j, (b.take k).drop u.k⟩ : Ck ByteArray) = cat ((b.take k).drop u.k) ∧ ckN (⟨false, (o.take i).drop u.i, (a.take j).drop u.j, (b.take k).drop u.k⟩ : Ck ByteArray) = 0 := by
      constructor
      · rw [ckT]
        split
        · rename_i h
          rcases h with h | h | h
          · cases h
          · simp only at h ⊢; rw [h]
          · simp only at h ⊢; rw [← he, h]
        · first | rfl | rw [if_pos he]
      · rw [ckN]
        split
        · rfl
        · first | rfl | rw [if_pos he]
    rw [eo, mgT_snoc, mgN_snoc, hr.1, hr.2]
    exact ⟨rfl, rfl⟩
  · have eo : (betw o a b u i j k).out = u.out := by rw [betw, if_neg hp]
    have : (b.take k).drop u.k = [] := List.drop_eq_nil_of_le (by rw [List.length_take]; omega)
    rw [eo, this]
    exact ⟨by rw [show cat [] = ByteArray.empty from rfl, ByteArray.append_empty], rfl⟩
theorem drop_move {o a : List ByteArray} {p q i j i' j' : Nat} (h : o.drop p = a.drop q) (hi : p ≤ i) (e : i + q = j + p) (e' : i' + q = j' + p) : (o.take i').drop i = (a.take j').drop j := by
  rw [List.drop_take, List.drop_take]
  have h1 : o.drop i = (o.drop p).drop (i - p) := by rw [List.drop_drop]; congr 1; omega
  have h2 : a.drop j = (a.drop q).drop (j - q) := by rw [List.drop_drop]; congr 1; omega
  rw [h1, h2, h, show i - p = j - q by omega, show i' - i = j' - j by omega]
theorem cat_more (b : List ByteArray) {p k k' : Nat} (h : p ≤ k) (hk : k ≤ k') : cat ((b.take k).drop p) ++ cat ((b.take k').drop k) = cat ((b.take k').drop p) := by
  rw [← cat_app]
  congr 1
  have h1 : (b.take k').drop p = ((b.take k').drop p).take (k - p) ++ ((b.take k').drop p).drop (k - p) := (List.take_append_drop _ _).symm
  rw [h1, List.drop_drop, show p + (k - p) = k by omega]
  congr 1
  rw [List.drop_take, List.drop_take, List.take_take, Nat.min_eq_left (by omega)]
/-- behind the line: the base is the left side -/
theorem ch_two {o a b : List ByteArray} {p q s : Nat} (hd : o.drop p = a.drop q) (P : ByteArray) : ∀ (l : List (Nat × Nat × Nat)) (u : Cu ByteArray), (∀ t ∈ l, t.1 + q = t.2.1 + p) → TK o a b l u.i u.j u.k → Pt o a b u → HL u → p ≤ u.i → s ≤ u.k → u.i + q = u.j + p → mgT u.out = P ++ cat ((b.take u.k).drop s) → mgN u.out = 0 →
    p ≤ (chT o a b l u).i ∧ s ≤ (chT o a b l u).k ∧ (chT o a b l u).i + q = (chT o a b l u).j + p ∧ mgT (chT o a b l u).out = P ++ cat ((b.take (chT o a b l u).k).drop s) ∧ mgN (chT o a b l u).out = 0
  | [], u, _, _, _, _, h1, h2, h3, h4, h5 => ⟨h1, h2, h3, h4, h5⟩
  | (i, j, k) :: l, u, ht, ⟨k1, k2, k3, ⟨k4, k5, k6, k7, k8⟩, k9⟩, hp, hl, h1, h2, h3, h4, h5 => by
    have t1 := ht (i, j, k) (by simp)
    simp only at t1
    rw [chT]
    have hb := betw_pt hp hl (i := i) (j := j) (k := k) ⟨k1, by omega⟩ ⟨k2, by omega⟩ ⟨k3, by omega⟩
    obtain ⟨m1, m2⟩ := mg_betw (o := o) (a := a) (b := b) (u := u) (i := i) (j := j) (k := k) k3 k1 k2 (drop_move hd h1 h3 t1)
    have hs : o.getD i default = o[i] := by simp [List.getD_eq_getElem?_getD, k4]
    rw [hs]
    obtain ⟨s1, s2⟩ := stab_pt (u := betw o a b u i j k) hb k4 k5 k6 k7 k8
    obtain ⟨c1, c2⟩ := mg_cadd (cs := (betw o a b u i j k).out) hb.ok o[i]
    refine ch_two hd P l _ (fun t h => ht t (by simp [h])) k9 s1 s2 (show p ≤ i + 1 by omega) (show s ≤ k + 1 by omega) (show i + 1 + q = j + 1 + p by omega) ?_ (by rw [← h5, ← m2]; exact c2)
    show mgT (cadd (betw o a b u i j k).out o[i]) = P ++ cat ((b.take (k + 1)).drop s)
    rw [c1, m1, h4, ByteArray.append_assoc, ByteArray.append_assoc, ← ByteArray.append_assoc (b := cat ((b.take k).drop u.k)), cat_more b h2 k3]
    congr 1
    rw [List.take_succ_eq_append_getElem k6, List.drop_append_of_le_length (by rw [List.length_take]; omega), cat_app, cat_one, k8]
theorem apart_plain {m : ByteArray} {A B X Y : List ByteArray} (hA : m ∉ A) (hX : m ∉ X) :
    mgT (chunks (A ++ m :: B) (X ++ m :: B) (A ++ m :: Y)) = cat (X ++ m :: Y) ∧ mgN (chunks (A ++ m :: B) (X ++ m :: B) (A ++ m :: Y)) = 0 := by
  obtain ⟨T1, T2, eT, hT1, hT2⟩ := tri_mid (B := B) (Y := Y) hA hX
  generalize ho : A ++ m :: B = o at *
  generalize ha : X ++ m :: B = a at *
  generalize hb : A ++ m :: Y = b at *
  have lo : o.length = A.length + (B.length + 1) := by rw [← ho]; simp
  have la : a.length = X.length + (B.length + 1) := by rw [← ha]; simp
  have hn : o.take A.length = b.take A.length := by rw [← ho, ← hb, List.take_left, List.take_left]
  have hn1 : o.take (A.length + 1) = b.take (A.length + 1) := by rw [← ho, ← hb, show A ++ m :: B = (A ++ [m]) ++ B by simp, show A ++ m :: Y = (A ++ [m]) ++ Y by simp, show A.length + 1 = (A ++ [m]).length by simp, List.take_left, List.take_left]
  have hd : o.drop A.length = a.drop X.length := by rw [← ho, ← ha, List.drop_left, List.drop_left]
  have hT := tri_ok _ (kn o a) (kn o b) 0 0 0 (Nat.le_refl _) (kn_ok o a) (kn_ok o b)
  rw [eT] at hT
  have h0 : Pt o a b ⟨0, 0, 0, []⟩ := ⟨Nat.zero_le _, Nat.zero_le _, Nat.zero_le _, rfl, rfl, rfl, fun c h => by simp at h, fun n h => by simp at h⟩
  have eA : T1 ++ (A.length, X.length, A.length) :: T2 = (T1 ++ [(A.length, X.length, A.length)]) ++ T2 := by simp
  have hTa : TK o a b (T1 ++ [(A.length, X.length, A.length)]) 0 0 0 := by rw [eA] at hT; exact hT.pre
  obtain ⟨p1, p2⟩ := chT_pt (T1 ++ [(A.length, X.length, A.length)]) ⟨0, 0, 0, []⟩ hTa h0 (fun c h => by simp at h)
  obtain ⟨q1, q2⟩ := ch_one (a := a) hn1 (T1 ++ [(A.length, X.length, A.length)]) ⟨0, 0, 0, []⟩ (fun t ht => by
    rcases List.mem_append.1 ht with h | h
    · have := hT1 t h; exact ⟨by omega, this.2⟩
    · simp only [List.mem_singleton] at h; subst h; exact ⟨by simp, rfl⟩) rfl (Nat.zero_le _) (fun c h => by simp at h)
  have ei : (chT o a b (T1 ++ [(A.length, X.length, A.length)]) ⟨0, 0, 0, []⟩).i = A.length + 1 := by rw [chT_app]; rfl
  have ej : (chT o a b (T1 ++ [(A.length, X.length, A.length)]) ⟨0, 0, 0, []⟩).j = X.length + 1 := by rw [chT_app]; rfl
  have ek : (chT o a b (T1 ++ [(A.length, X.length, A.length)]) ⟨0, 0, 0, []⟩).k = A.length + 1 := by rw [chT_app]; rfl
  have ec : chunks o a b = (betw o a b (chT o a b T2 (chT o a b (T1 ++ [(A.length, X.length, A.length)]) ⟨0, 0, 0, []⟩)) o.length a.length b.length).out := by
    rw [chunks, eT, eA, chT_app]
  generalize chT o a b (T1 ++ [(A.length, X.length, A.length)]) ⟨0, 0, 0, []⟩ = u at *
  obtain ⟨t1, t2⟩ := mg_left q2
  rw [p1.pl, ej] at t1
  have hm : a.take (X.length + 1) = X ++ [m] := by rw [← ha, show X ++ m :: B = (X ++ [m]) ++ B by simp, show X.length + 1 = (X ++ [m]).length by simp, List.take_left]
  rw [hm, cat_app, cat_one] at t1
  have hk0 : cat ((b.take u.k).drop (A.length + 1)) = ByteArray.empty := by
    rw [ek, List.drop_eq_nil_of_le (by rw [List.length_take]; omega)]; rfl
  have hTb := hT.suf
  have hT2k : TK o a b T2 u.i u.j u.k := by rw [ei, ej, ek]; exact hTb
  obtain ⟨r1, r2, r3, r4, r5⟩ := ch_two (s := A.length + 1) hd (cat X ++ m) T2 u hT2 hT2k p1 p2 (by omega) (by omega) (by rw [ei, ej]; omega) (by rw [t1, hk0, ByteArray.append_empty]) t2
  obtain ⟨z1, z2⟩ := chT_pt T2 u hT2k p1 p2
  rw [ec]
  generalize chT o a b T2 u = v at *
  obtain ⟨w1, w2⟩ := mg_betw (o := o) (a := a) (b := b) (u := v) (i := o.length) (j := a.length) (k := b.length) z1.k z1.i z1.j (drop_move hd r1 r3 (by omega))
  rw [w1, w2, r4, r5, ByteArray.append_assoc, cat_more b r2 z1.k]
  refine ⟨?_, rfl⟩
  rw [List.take_length, ← hb]
  have : (A ++ m :: Y).drop (A.length + 1) = Y := by simp [List.drop_append]
  rw [this, ByteArray.append_assoc, cat_app, cat_cons]
end Go.Proofs.Ytlfenddhppoflaa
