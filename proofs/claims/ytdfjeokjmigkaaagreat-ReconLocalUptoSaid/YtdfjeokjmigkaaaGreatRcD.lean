/-
  Recon: ay many things are said ay lW are entries, at the most: plain.
-/
import Derived.Test.YtdfjeokjmigkaaaGreatRcB
set_option linter.unusedSimpArgs false
set_option linter.unusedVariables false
namespace Go.Rc
open Go Go.Tr Go.Eng Go.Dk
variable {mg : (Int × ByteArray) → (Int × ByteArray) → (Int × ByteArray) → Bool}
theorem qJe (s : ByteArray) (i j : Nat) : (s.extract i j).data.toList = (s.data.toList.drop i).take (j - i) := by
 rw [ByteArray.data_extract, Array.toList_extract, List.extract_eq_take_drop]
def lV : List UInt8 → List UInt8
 | [] => []
 | c :: r => if c = 47 then r else c :: r
theorem qYx (s : ByteArray) : (qJ s).data.toList = lV s.data.toList := by
 unfold qJ
 have hs : stroke.data.toList = [47] := rfl
 rw [hs]
 cases h : s.data.toList with
 | nil => simp [lV, h]
 | cons c r =>
  by_cases hc : c = 47
  ·subst hc
   rw [if_pos (by simp), qJe, h]
   have : s.size = r.length + 1 := by rw [Lib.size_eq, h]; rfl
   rw [this]
   simp [lV]
  ·rw [if_neg (by simp [Ne.symm hc]), h]
   simp [lV, hc]
theorem qGt (s : ByteArray) : (vol s).data.toList = s.data.toList.take (nU s.data.toList) := by
 rw [vol, qJe, List.drop_zero, Nat.sub_zero]
theorem wK (p top : ByteArray) : (jK p top).data.toList = (lV (p.data.toList.drop top.data.toList.length)).take (nU (lV (p.data.toList.drop top.data.toList.length))) := by
 have e : (p.extract top.size p.size).data.toList = p.data.toList.drop top.data.toList.length := by
  rw [qJe, Lib.size_eq top, List.take_of_length_le]
  rw [List.length_drop, ← Lib.size_eq]; omega
 rw [jK, qGt, qYx, e]
theorem qKn : ∀ (l : List UInt8), ∀ c ∈ l.take (nU l), c ≠ 47
 | [], c, h => by simp at h
 | x :: r, c, h => by
  rw [nU] at h
  split at h
  ·simp at h
  ·rename_i hx
   rw [List.take_succ_cons, List.mem_cons] at h
   rcases h with rfl | h
   ·exact hx
   ·exact qKn r c h
theorem qL3 : ∀ (f t : List UInt8), (∀ c ∈ f, c ≠ 47) → (t = [] ∨ ∃ r, t = 47 :: r) → nU (f ++ t) = f.length
 | [], t, _, ht => by
  rcases ht with rfl | ⟨r, rfl⟩
  ·rfl
  ·simp [nU]
 | c :: f, t, hf, ht => by
  rw [List.cons_append, nU, if_neg (hf c (by simp)), qL3 f t (fun x hx => hf x (by simp [hx])) ht]; rfl
theorem qEv (a b : ByteArray) (hb : b ≠ { data := #[] }) : (qB7 a b).data.toList = if a = { data := #[] } then b.data.toList else a.data.toList ++ 47 :: b.data.toList := by
 unfold qB7
 split
 ·rfl
 ·simp [stroke]
theorem oU {p q : ByteArray} (h : cF p q = true) (hq : q ≠ { data := #[] }) : ∃ t, p.data.toList = q.data.toList ++ t ∧ (t = [] ∨ ∃ r, t = 47 :: r) := by
 unfold cF at h
 simp only [Bool.or_eq_true, decide_eq_true_eq] at h
 rcases h with (h | h) | h
 ·exact absurd h hq
 ·subst h; exact ⟨[], by simp, .inl rfl⟩
 ·obtain ⟨r, hr⟩ := List.isPrefixOf_iff_prefix.1 h
  refine ⟨47 :: r, ?_, .inr ⟨r, rfl⟩⟩
  rw [← hr]
  simp [stroke]
theorem qHn {top q : ByteArray} {e0 e : Ent} (h : bN top e0 = some q) (hu : cF e.1 q = true) : bN top e = some q := by
 have hsz := (tD h).1
 unfold bN at h
 split at h
 ·cases h
 ·rename_i hn
  simp only [not_or, Option.some.injEq] at hn h
  obtain ⟨h1, h2, h3⟩ := hn
  have hq0 : q ≠ { data := #[] } := fun x => by rw [x] at hsz; exact absurd hsz (by show ¬ _ < 0; omega)
  obtain ⟨t, ht, hts⟩ := oU hu hq0
  obtain ⟨f, hf⟩ : ∃ f, jK e0.1 top = f := ⟨_, rfl⟩
  rw [hf] at h h3
  have hfr : ∀ c ∈ f.data.toList, c ≠ 47 := by
   rw [← hf, wK]; exact qKn _
  have hfn : f.data.toList ≠ [] := fun x => h3 (jY (by rw [x]))
  have hql : q.data.toList = if top = { data := #[] } then f.data.toList else top.data.toList ++ 47 :: f.data.toList := by
   rw [← h]; exact qEv _ _ h3
  have hne : e.1 ≠ top := fun x => by
   have : e.1.size = q.size + t.length := by rw [Lib.size_eq, ht, List.length_append, ← Lib.size_eq]
   rw [x] at this; omega
  have hun : cF e.1 top = true := by
   unfold cF
   by_cases ht0 : top = { data := #[] }
   ·have : top = ByteArray.empty := ht0
    rw [decide_eq_true this]; rfl
   ·rw [if_neg ht0] at hql
    have : (top ++ stroke).data.toList.isPrefixOf e.1.data.toList = true := by
     rw [List.isPrefixOf_iff_prefix]
     refine ⟨f.data.toList ++ t, ?_⟩
     rw [ht, hql]
     simp [stroke]
    rw [this]; simp
  have hfi : jK e.1 top = f := by
   refine jY ?_
   have key : lV (e.1.data.toList.drop top.data.toList.length) = f.data.toList ++ t := by
    rw [ht, hql]
    by_cases ht0 : top = { data := #[] }
    ·rw [if_pos ht0, ht0]
     cases hx : f.data.toList with
     | nil => exact absurd hx hfn
     | cons c r =>
      have : c ≠ 47 := hfr c (by rw [hx]; simp)
      simp [lV, this]
    ·rw [if_neg ht0, List.append_assoc, List.drop_append_of_le_length (Nat.le_refl _), List.drop_of_length_le (Nat.le_refl _)]
     simp [lV]
   rw [wK, key, qL3 _ _ hfr hts, List.take_append_of_le_length (Nat.le_refl _), List.take_of_length_le (Nat.le_refl _)]
  unfold bN
  rw [if_neg (by rw [hfi]; simp only [not_or]; exact ⟨hne, by rw [hun]; decide, h3⟩), hfi, h]
theorem zEb {x : Option ByteArray} : ∀ {ns : List ByteArray}, ns.Nodup → (ns.map fun q => if x = some q then 1 else 0).sum ≤ if x.isSome = true then 1 else 0
 | [], _ => by simp
 | a :: r, h => by
  rw [List.nodup_cons] at h
  have ih := zEb (x := x) h.2
  rw [List.map_cons, List.sum_cons]
  by_cases hx : x = some a
  ·have h0 : ∀ (l : List ByteArray), a ∉ l → (l.map fun q => if x = some q then 1 else 0).sum = 0 := by
    intro l
    induction l with
    | nil => intro _; rfl
    | cons b l il =>
     intro hb
     rw [List.mem_cons, not_or] at hb
     rw [List.map_cons, List.sum_cons, il hb.2, if_neg (fun y => hb.1 (by rw [hx] at y; exact (Option.some.inj y)))]
   rw [if_pos hx, h0 r h.1, hx]
   simp
  ·rw [if_neg hx]; omega
theorem qXl (f g : ByteArray → Nat) : ∀ (ns : List ByteArray), (ns.map fun q => f q + g q).sum = (ns.map f).sum + (ns.map g).sum
 | [] => rfl
 | a :: r => by simp only [List.map_cons, List.sum_cons, qXl f g r]; omega
theorem qGw {f g : ByteArray → Nat} : ∀ {ns : List ByteArray}, (∀ q ∈ ns, f q ≤ g q) → (ns.map f).sum ≤ (ns.map g).sum
 | [], _ => Nat.le_refl _
 | a :: r, h => by
  have h1 := h a (by simp)
  have h2 := qGw (ns := r) fun q hq => h q (by simp [hq])
  simp only [List.map_cons, List.sum_cons]; omega
theorem qXk {top : ByteArray} {ns : List ByteArray} (hn : ns.Nodup) : ∀ (E : List Ent), (ns.map fun q => E.countP fun e => decide (bN top e = some q)).sum ≤ E.countP fun e => (bN top e).isSome
 | [] => by
  have : ∀ (l : List ByteArray), (l.map fun q => List.countP (fun e => decide (bN top e = some q)) ([] : List Ent)).sum = 0 := by
   intro l
   induction l with
   | nil => rfl
   | cons a r ih => rw [List.map_cons, List.sum_cons, ih]; rfl
  rw [this]; exact Nat.zero_le _
 | e :: r => by
  have ih := qXk (top := top) hn r
  have ho := zEb (x := bN top e) hn
  simp only [List.countP_cons, decide_eq_true_eq]
  rw [qXl]
  omega
theorem qLp {f g : Ent → Bool} (h : ∀ e, f e = true → g e = true) : ∀ {E : List Ent}, (∃ e ∈ E, g e = true ∧ f e = false) → E.countP f + 1 ≤ E.countP g
 | [], ⟨e, he, _⟩ => by cases he
 | a :: r, ⟨e, he, h1, h2⟩ => by
  have hle : r.countP f ≤ r.countP g := List.countP_mono_left fun x _ hx => h x hx
  rw [List.countP_cons, List.countP_cons]
  rcases List.mem_cons.1 he with rfl | he
  ·rw [h1, h2]; simp; omega
  ·have := qLp h ⟨e, he, h1, h2⟩
   cases hf : f a with
   | true => rw [h a hf]; simp; omega
   | false => simp; split <;> omega
theorem xN (top : ByteArray) (es : List Ent) : ((fC top es).map fun e => e.1).Nodup := by
 have h := qCg (top := top) es [] List.Pairwise.nil
 refine List.pairwise_map.2 (h.imp fun {a b} hab e => ?_)
 rw [e, wS] at hab; cases hab
def mu (top : ByteArray) (E : List Ent) : Nat := E.countP fun e => (bN top e).isSome
theorem qLw (A H S : List Ent) : ∀ (k : Nat) (top : ByteArray), (bE mg A H S k top).length ≤ mu top (A ++ H ++ S)
 | 0, top => Nat.zero_le _
 | k + 1, top => by
  rw [bE, List.length_flatMap]
  refine Nat.le_trans (qGw (g := fun q => (A ++ H ++ S).countP fun e => decide (bN top e = some q)) fun q hq => ?_) (qXk (xN top _) _)
  obtain ⟨x, hx, hxq⟩ := List.mem_map.1 hq
  rcases gZ (A ++ H ++ S) [] hx with h0 | ⟨e0, he0, hn0⟩
  ·cases h0
  rw [hxq] at hn0
  have h1 : 1 ≤ (A ++ H ++ S).countP fun e => decide (bN top e = some q) := List.countP_pos_iff.2 ⟨e0, he0, decide_eq_true hn0⟩
  unfold fX
  split
  ·split
   ·exact Nat.zero_le _
   ·exact h1
  ·split
   ·rename_i hd
    have hH : ∃ e ∈ H, e.1 = q := by
     have h := hd.1
     unfold iN at h
     cases hf : H.find? (fun e => decide (e.1 = q)) with
     | none => rw [hf] at h; exact absurd h (by decide)
     | some e => exact ⟨e, List.mem_of_find?_eq_some hf, by simpa using List.find?_some hf⟩
    obtain ⟨e, he, heq⟩ := hH
    have ih := qLw A H S k q
    have hc : (A ++ H ++ S).countP (fun e => (bN q e).isSome) + 1 ≤ (A ++ H ++ S).countP fun e => decide (bN top e = some q) := by
     refine qLp (fun y hy => ?_) ⟨e, by simp [he], ?_, ?_⟩
     ·refine decide_eq_true (qHn hn0 ?_)
      unfold bN at hy
      split at hy
      ·cases hy
      ·rename_i hz
       simp only [not_or] at hz
       simpa using hz.2.1
     ·refine decide_eq_true (qHn hn0 ?_)
      unfold cF
      rw [heq]; simp
     ·unfold bN
      rw [if_pos (.inl heq)]; rfl
    unfold mu at ih
    rw [List.length_append]
    split
    ·rw [List.length_nil]; omega
    ·rw [List.length_singleton]; omega
   ·split
    ·exact h1
    ·split
     ·exact h1
     ·exact h1
theorem qFv (A H S : List Ent) (k : Nat) (top : ByteArray) : (bE mg A H S k top).length ≤ A.length + H.length + S.length := by
 refine Nat.le_trans (qLw A H S k top) ?_
 unfold mu
 refine Nat.le_trans List.countP_le_length ?_
 rw [List.length_append, List.length_append]
 exact Nat.le_refl _
end Go.Rc
