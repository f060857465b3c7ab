/-
  Plain: what is left and told when a record is taken back.
-/
import Derived.Test.YtkonlklieacjoaaDoorUlw
set_option linter.unusedSimpArgs false
set_option linter.unusedVariables false
namespace Go.Tr
open Go Go.Lib
set_option maxRecDepth 20000
theorem nodup_erase {l : List ByteArray} (hn : l.Nodup) {i : Nat} (hi : i < l.length) (q : ByteArray) : q ∈ l.eraseIdx i ↔ q ∈ l ∧ q ≠ l[i] := by
 rw [List.mem_eraseIdx_iff_getElem]
 have pw := List.pairwise_iff_getElem.1 hn
 constructor
 ·rintro ⟨j, hj, hne, rfl⟩
  refine ⟨List.getElem_mem _, fun e => ?_⟩
  rcases Nat.lt_trichotomy j i with h | h | h
  ·exact pw j i hj hi h e
  ·exact hne h
  ·exact pw i j hi hj h e.symm
 ·rintro ⟨hq, hne⟩
  obtain ⟨j, hj, rfl⟩ := List.getElem_of_mem hq
  exact ⟨j, hj, fun e => hne (by subst e; rfl), rfl⟩
theorem planF_spec : ∀ (n : Nat) (L : List Chg) (T : Tri), L.length < n → ∃ M : List Chg, M.Sublist L ∧ backS M T = .ok (planF n L T).1 ∧ ((L.map Chg.p).Nodup → ∀ q, q ∈ (planF n L T).2 ↔ q ∈ L.map Chg.p ∧ q ∉ M.map Chg.p)
 | 0, L, T, h => by omega
 | n + 1, L, T, h => by
  rw [planF]
  cases hb : backS L T with
  | ok U => exact ⟨L, List.Sublist.refl L, hb, fun _ q => by simp⟩
  | error i =>
   have hi := backS_lt hb
   obtain ⟨M, h1, h2, h3⟩ := planF_spec n (L.eraseIdx i) T (by rw [List.length_eraseIdx_of_lt hi]; omega)
   refine ⟨M, h1.trans (List.eraseIdx_sublist L i), h2, fun hn q => ?_⟩
   have hi' : i < (L.map Chg.p).length := by simpa using hi
   have hp : (L.getD i default).p = (L.map Chg.p)[i] := by simp [List.getD_eq_getElem?_getD, hi]
   have hm : (L.eraseIdx i).map Chg.p = (L.map Chg.p).eraseIdx i := map_erase _ _ _
   have hn' : ((L.eraseIdx i).map Chg.p).Nodup := by rw [hm]; exact hn.sublist (List.eraseIdx_sublist _ _)
   dsimp only
   rw [List.mem_cons, h3 hn' q, hm, nodup_erase hn hi', hp]
   constructor
   ·rintro (rfl | ⟨⟨a, b⟩, d⟩)
    ·refine ⟨List.getElem_mem _, fun hq => ?_⟩
     have hs := h1.map Chg.p
     rw [hm] at hs
     exact ((nodup_erase hn hi' _).1 (hs.subset hq)).2 rfl
    ·exact ⟨a, d⟩
   ·rintro ⟨a, d⟩
    by_cases e : q = (L.map Chg.p)[i]
    ·exact .inl e
    ·exact .inr ⟨⟨a, e⟩, d⟩
theorem walk_get {k : Nat} {f : Nat × Chg → Bool} (q : ByteArray) : ∀ {l : List (Nat × Chg)} {t u : List Ent}, Tree t → walkG k f l t = .ok u →
  ((∀ x ∈ l, f x = true → x.2.p ≠ q) → getN u q = getN t q) ∧ (∀ n, (∃ x ∈ l, f x = true ∧ x.2.p = q) → (∀ x ∈ l, f x = true → x.2.p = q → x.2.b k = n) → getN u q = n)
 | [], t, u, ht, h => by
  cases h
  exact ⟨fun _ => rfl, fun n ⟨x, hx, _⟩ => by simp at hx⟩
 | x :: r, t, u, ht, h => by
  rw [walkG] at h
  split at h
  ·rename_i hf
   split at h
   ·rename_i hE
    obtain ⟨i1, i2⟩ := walk_get q (ht.put hE) h
    have hg := ht.put_get hE q
    constructor
    ·intro hno
     rw [i1 fun y hy => hno y (by simp [hy]), hg, if_neg (fun e => hno x (by simp) hf e.symm)]
    ·intro n hex hall
     by_cases hr : ∃ y ∈ r, f y = true ∧ y.2.p = q
     ·exact i2 n hr fun y hy => hall y (by simp [hy])
     ·have hxq : x.2.p = q := by
       obtain ⟨y, hy, a, b⟩ := hex
       rcases List.mem_cons.1 hy with rfl | hy
       ·exact b
       ·exact absurd ⟨y, hy, a, b⟩ hr
      rw [i1 fun y hy a b => hr ⟨y, hy, a, b⟩, hg, if_pos hxq.symm]
      exact hall x (by simp) hf hxq
   ·cases h
  ·rename_i hf
   obtain ⟨i1, i2⟩ := walk_get q ht h
   constructor
   ·exact fun hno => i1 fun y hy => hno y (by simp [hy])
   ·rintro n ⟨y, hy, a, b⟩ hall
    refine i2 n ?_ fun y hy => hall y (by simp [hy])
    rcases List.mem_cons.1 hy with rfl | hy
    ·exact absurd a hf
    ·exact ⟨y, hy, a, b⟩
theorem one_get {k : Nat} {M : List Chg} {t u : List Ent} (ht : Tree t) (h : oneG k yes (lab M) t = .ok u) (q : ByteArray) :
  ((∀ c ∈ M, c.p = q → c.b k = c.a k) → getN u q = getN t q) ∧ (∀ c ∈ M, c.p = q → c.b k ≠ c.a k → (∀ d ∈ M, d.p = q → d = c) → getN u q = c.b k) := by
 obtain ⟨v, h1, h2⟩ := bindX_ok h
 have hv := walkG_tree ht h1
 obtain ⟨a1, a2⟩ := walk_get q ht h1
 obtain ⟨b1, b2⟩ := walk_get q hv h2
 have hact : ∀ {pass : Bool} {x : Nat × Chg}, (yes x && act k pass x.2) = true → x.2.b k ≠ x.2.a k ∧ decide ((x.2.b k).1 = 0) = pass := fun {pass x} hx => by
  rw [Bool.and_eq_true] at hx
  exact act_kind hx.2
 constructor
 ·intro hc
  rw [b1 fun x hx hf e => (hact hf).1 (hc _ (lab_mem hx) e), a1 fun x hx hf e => (hact hf).1 (hc _ (lab_mem (List.mem_reverse.1 hx)) e)]
 ·intro c hcM hq hne huniq
  obtain ⟨x, hx, hxc⟩ := mem_lab hcM
  cases hk : decide ((c.b k).1 = 0) with
  | true =>
   have hf : (yes x && act k true x.2) = true := by
    rw [hxc, act_of hne hk]; rfl
   rw [b1 fun y hy hfy e => by
    have := (hact hfy).2
    rw [huniq _ (lab_mem hy) e, hk] at this; cases this]
   refine a2 _ ⟨x, List.mem_reverse.2 hx, hf, by rw [hxc]; exact hq⟩ fun y hy _ e => ?_
   rw [huniq _ (lab_mem (List.mem_reverse.1 hy)) e]
  | false =>
   have hf : (yes x && act k false x.2) = true := by
    rw [hxc, act_of hne hk]; rfl
   refine b2 _ ⟨x, hx, hf, by rw [hxc]; exact hq⟩ fun y hy _ e => ?_
   rw [huniq _ (lab_mem hy) e]
theorem back_one {M : List Chg} {T U : Tri} (h : backS M T = .ok U) {k : Nat} (hk : k < 3) : oneG k yes (lab M) (tr T k) = .ok (tr U k) := by
 obtain ⟨x, h1, e⟩ := bindX_ok h
 obtain ⟨y, h2, e⟩ := bindX_ok e
 obtain ⟨z, h3, e⟩ := bindX_ok e
 cases e
 rcases three hk with rfl | rfl | rfl
 ·exact h1
 ·exact h2
 ·exact h3
theorem rise_nodup {L : List Chg} (h : riseC L) : (L.map Chg.p).Nodup := by
 unfold riseC at h
 exact List.pairwise_map.2 (h.imp fun h => blt_ne' h)
theorem nodup_uniq {L : List Chg} (h : (L.map Chg.p).Nodup) {c d : Chg} (hc : c ∈ L) (hd : d ∈ L) (e : c.p = d.p) : c = d := by
 have pw : L.Pairwise fun x y => x.p ≠ y.p := List.pairwise_map.1 h
 have pw := List.pairwise_iff_getElem.1 pw
 obtain ⟨i, hi, rfl⟩ := List.getElem_of_mem hc
 obtain ⟨j, hj, rfl⟩ := List.getElem_of_mem hd
 rcases Nat.lt_trichotomy i j with h | h | h
 ·exact absurd e (pw i j hi hj h)
 ·subst h; rfl
 ·exact absurd e.symm (pw j i hj hi h)
structure Leaves (A B S : Tri) (L : List Chg) (q : ByteArray) (U : Tri) (told : Prop) : Prop where
 tree : Tree3 U
 inn : told → q ∈ L.map Chg.p
 stale : ∀ c ∈ L, c.p = q → ripe c S = false → told
 keep : ∀ k, k < 3 → (q ∉ L.map Chg.p ∨ told ∨ getN (tr A k) q = getN (tr B k) q) → getN (tr U k) q = getN (tr S k) q
 back : ∀ k, k < 3 → q ∈ L.map Chg.p → ¬ told → getN (tr A k) q ≠ getN (tr B k) q → getN (tr U k) q = getN (tr A k) q
theorem leaves {sp : Int} {A B S : Tri} (hS : Tree3 S) (q : ByteArray) : Leaves A B S (changesS sp A B) q (undoP (changesS sp A B) S).1 (q ∈ (undoP (changesS sp A B) S).2) := by
 have hn := rise_nodup (chS_rise sp A B)
 have hab : ∀ c ∈ changesS sp A B, ∀ k, k < 3 → c.b k = getN (tr A k) c.p ∧ c.a k = getN (tr B k) c.p := fun c hc k hk => by
  obtain ⟨-, h2⟩ := chS_mem.1 hc
  refine ⟨?_, ?_⟩
  ·conv => lhs; rw [h2]
   exact chgAt_b _ _ _ _ hk
  ·conv => lhs; rw [h2]
   exact chgAt_a _ _ _ _ hk
 generalize changesS sp A B = L at *
 obtain ⟨M, m1, m2, m3⟩ := planF_spec ((L.filter fun c => ripe c S).length + 1) (L.filter fun c => ripe c S) S (Nat.lt_succ_self _)
 have hsub : M.Sublist L := m1.trans List.filter_sublist
 have hrn : ((L.filter fun c => ripe c S).map Chg.p).Nodup := hn.sublist (List.filter_sublist.map _)
 have m3 := m3 hrn
 have e1 : (undoP L S).1 = (planF ((L.filter fun c => ripe c S).length + 1) (L.filter fun c => ripe c S) S).1 := rfl
 have told : q ∈ (undoP L S).2 ↔ (∃ c ∈ L, c.p = q ∧ ripe c S = false) ∨ (q ∈ (L.filter fun c => ripe c S).map Chg.p ∧ q ∉ M.map Chg.p) := by
  unfold undoP planS
  rw [List.mem_append, m3 q]
  refine or_congr ?_ Iff.rfl
  simp only [List.mem_map, List.mem_filter, Bool.not_eq_true']
  constructor
  ·rintro ⟨c, ⟨a, b⟩, d⟩; exact ⟨c, a, d, b⟩
  ·rintro ⟨c, a, d, b⟩; exact ⟨c, ⟨a, b⟩, d⟩
 -- who is taken back is not told
 have notM : q ∈ (undoP L S).2 → q ∉ M.map Chg.p := fun h hM => by
  rcases told.1 h with ⟨c, hc, hp, hr⟩ | ⟨-, h⟩
  ·obtain ⟨d, hd, hdp⟩ := List.mem_map.1 hM
   have := nodup_uniq hn (hsub.subset hd) hc (by rw [hdp, hp])
   subst this
   have := (List.mem_filter.1 (m1.subset hd)).2
   rw [hr] at this; cases this
  ·exact h hM
 refine ⟨by rw [e1]; exact planF_tree hS _ _, fun h => ?_, fun c hc hp hr => told.2 (.inl ⟨c, hc, hp, hr⟩), fun k hk h => ?_, fun k hk hin hnt hne => ?_⟩
 ·rcases told.1 h with ⟨c, hc, hp, -⟩ | ⟨h, -⟩
  ·exact List.mem_map.2 ⟨c, hc, hp⟩
  ·exact (List.filter_sublist.map _).subset h
 ·rw [e1]
  refine (one_get (hS.tr k) (back_one m2 hk) q).1 fun c hc hp => ?_
  have hcL := hsub.subset hc
  rcases h with h | h | h
  ·exact absurd (List.mem_map.2 ⟨c, hcL, hp⟩) h
  ·exact absurd (List.mem_map.2 ⟨c, hc, hp⟩) (notM h)
  ·obtain ⟨a, b⟩ := hab c hcL k hk
   rw [a, b, hp]; exact h
 ·obtain ⟨c, hc, hp⟩ := List.mem_map.1 hin
  have hr : ripe c S = true := by
   cases h : ripe c S with
   | true => rfl
   | false => exact absurd (told.2 (.inl ⟨c, hc, hp, h⟩)) hnt
  have hM : q ∈ M.map Chg.p := Classical.byContradiction fun h => hnt (told.2 (.inr ⟨List.mem_map.2 ⟨c, List.mem_filter.2 ⟨hc, hr⟩, hp⟩, h⟩))
  obtain ⟨d, hd, hdp⟩ := List.mem_map.1 hM
  have := nodup_uniq hn (hsub.subset hd) hc (by rw [hdp, hp])
  subst this
  obtain ⟨a, b⟩ := hab d hc k hk
  rw [e1, (one_get (hS.tr k) (back_one m2 hk) q).2 d hd hdp (by rw [a, b, hdp]; exact hne) fun x hx hxp => nodup_uniq hn (hsub.subset hx) hc (by rw [hxp, hdp]), a, hdp]
end Go.Tr
