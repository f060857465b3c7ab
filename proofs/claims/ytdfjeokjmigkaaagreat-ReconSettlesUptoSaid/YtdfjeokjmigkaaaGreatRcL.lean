/-
  Recon: what is said below one name hangs on what lies mY: plain.
-/
import Derived.Test.YtdfjeokjmigkaaaGreatDiffM
import Derived.Test.YtdfjeokjmigkaaaGreatMgG
import Derived.Test.YtdfjeokjmigkaaaGreatRcE
section
set_option linter.unusedSimpArgs false
set_option linter.unusedVariables false
set_option maxRecDepth 20000
namespace Go.Proofs.YtdfjeokjmigkaaaGreat
open Go Go.Eng Go.RowKit Go.Tr Go.Dk Go.Rc Go.DiffM
def mgR (a h s : Int × ByteArray) : Bool := okM (qZ h s (qJo (gK a) h.2 s.2) (qJp (gK a) h.2 s.2) (mK (gK a) h.2 s.2))
theorem qYv {a : Int × ByteArray} (h : a.2.size ≤ 4096) : (gK a).size ≤ 4096 := by
 unfold gK
 split
 ·exact h
 ·exact Nat.zero_le _
theorem qR0 : zEm mgR := fun a h s ha hh hs =>
 ⟨_, zB2 a h s _ _ _ (zLl (gK a) h.2 s.2 (Nat.le_trans (qYv ha) (by decide)) (Nat.le_trans hh (by decide)) (Nat.le_trans hs (by decide)))⟩
end Go.Proofs.YtdfjeokjmigkaaaGreat
end
section
set_option linter.unusedSimpArgs false
set_option linter.unusedVariables false
namespace Go.Rc
open Go Go.Tr Go.Eng Go.Dk
variable {mg : (Int × ByteArray) → (Int × ByteArray) → (Int × ByteArray) → Bool}
theorem jP {p q : ByteArray} {t : List UInt8} (h : p.data.toList = q.data.toList ++ t) (ht : t = [] ∨ ∃ r, t = 47 :: r) : bR p q = true := by
 unfold bR
 rcases ht with rfl | ⟨r, rfl⟩
 ·have : p = q := iN (by rw [h, List.append_nil])
  rw [decide_eq_true this]; simp
 ·have : (q ++ stroke).data.toList.isPrefixOf p.data.toList = true := by
   rw [List.isPrefixOf_iff_prefix]
   exact ⟨r, by rw [h]; simp [stroke]⟩
  rw [this]; simp
theorem qR (p : ByteArray) : bR p { data := #[] } = true := by
 unfold bR
 have : ({ data := #[] } : ByteArray) = ByteArray.empty := rfl
 rw [decide_eq_true this]; rfl
theorem qFh (p : ByteArray) : bR p p = true := jP (t := []) (by simp) (.inl rfl)
theorem qQ {a b c : ByteArray} (h1 : bR a b = true) (h2 : bR b c = true) : bR a c = true := by
 by_cases hc : c = { data := #[] }
 ·rw [hc]; exact qR a
 ·obtain ⟨t2, e2, k2⟩ := gQ h2 hc
  have hb : b ≠ { data := #[] } := fun h => by
   rw [h] at e2
   have e3 := congrArg List.length e2
   rw [List.length_append] at e3
   have e4 : c.data.toList.length = 0 := by
    have : (({ data := #[] } : ByteArray).data.toList).length = 0 := rfl
    omega
   exact hc (iN (by rw [List.length_eq_zero_iff.1 e4]))
  obtain ⟨t1, e1, k1⟩ := gQ h1 hb
  refine jP (t := t2 ++ t1) (by rw [e1, e2, List.append_assoc]) ?_
  rcases k2 with rfl | ⟨r, rfl⟩
  ·exact k1
  ·exact .inr ⟨r ++ t1, rfl⟩
theorem qB1 {p q : ByteArray} {e : Ent} (h : bC p e = some q) (hs : ∀ r, e.1.data.toList ≠ 47 :: r) : bR q p = true ∧ bR e.1 q = true ∧ bR e.1 p = true := by
 unfold bC at h
 split at h
 ·cases h
 ·rename_i hn
  simp only [not_or, Option.some.injEq] at hn h
  obtain ⟨h1, h2, h3⟩ := hn
  have hu : bR e.1 p = true := by simpa using h2
  obtain ⟨f, hf⟩ : ∃ f, iD e.1 p = f := ⟨_, rfl⟩
  rw [hf] at h h3
  have hfn : f.data.toList ≠ [] := fun x => h3 (iN (by rw [x]))
  have hql : q.data.toList = if p = { data := #[] } then f.data.toList else p.data.toList ++ 47 :: f.data.toList := by
   rw [← h]; exact qB4 _ _ h3
  have hfl : f.data.toList = (kK (e.1.data.toList.drop p.data.toList.length)).take (mZ (kK (e.1.data.toList.drop p.data.toList.length))) := by rw [← hf, nY]
  have hrest : ∀ (l : List UInt8), ∃ t, l = l.take (mZ l) ++ t ∧ (t = [] ∨ ∃ r, t = 47 :: r) := by
   intro l
   induction l with
   | nil => exact ⟨[], rfl, .inl rfl⟩
   | cons c r ih =>
    rw [mZ]
    split
    ·rename_i hc
     exact ⟨c :: r, rfl, .inr ⟨r, by rw [hc]⟩⟩
    ·obtain ⟨t, e, k⟩ := ih
     exact ⟨t, by rw [List.take_succ_cons, List.cons_append, ← e], k⟩
  obtain ⟨t, ht, hk⟩ := hrest (kK (e.1.data.toList.drop p.data.toList.length))
  rw [← hfl] at ht
  by_cases hp : p = { data := #[] }
  ·rw [if_pos hp] at hql
   refine ⟨by rw [hp]; exact qR q, ?_, hu⟩
   have hd : e.1.data.toList.drop p.data.toList.length = e.1.data.toList := by rw [hp]; rfl
   rw [hd] at ht
   cases hx : e.1.data.toList with
   | nil =>
    rw [hx] at ht
    have : f.data.toList = [] := by
     have e3 := congrArg List.length ht
     simp only [kK, List.length_nil, List.length_append] at e3
     exact List.length_eq_zero_iff.1 (by omega)
    exact absurd this hfn
   | cons c r =>
    rw [hx] at ht
    by_cases hc : c = 47
    ·subst hc
     exact absurd hx (hs r)
    ·simp only [kK, if_neg hc] at ht
     exact jP (t := t) (by rw [hx, ht, hql]) hk
  ·rw [if_neg hp] at hql
   refine ⟨jP (t := 47 :: f.data.toList) hql (.inr ⟨_, rfl⟩), ?_, hu⟩
   obtain ⟨u, hu1, hu2⟩ := gQ hu hp
   have hd : e.1.data.toList.drop p.data.toList.length = u := by rw [hu1, List.drop_append_of_le_length (Nat.le_refl _), List.drop_of_length_le (Nat.le_refl _)]; rfl
   rw [hd] at ht
   rcases hu2 with rfl | ⟨r, rfl⟩
   ·exact absurd (iN (by rw [hu1, List.append_nil])) h1
   ·simp only [kK, if_pos] at ht
    exact jP (t := t) (by rw [hu1, ht, hql, List.append_assoc]; rfl) hk
theorem qHa {p q : ByteArray} {e : Ent} (h : bC p e = some q) : bR e.1 p = true ∧ bR q p = true := by
 unfold bC at h
 split at h
 ·cases h
 ·rename_i hn
  simp only [not_or, Option.some.injEq] at hn h
  obtain ⟨h1, h2, h3⟩ := hn
  have hu : bR e.1 p = true := by simpa using h2
  refine ⟨hu, ?_⟩
  by_cases hp : p = { data := #[] }
  ·rw [hp]; exact qR q
  ·have hql := qB4 p (iD e.1 p) h3
   rw [h, if_neg hp] at hql
   exact jP hql (.inr ⟨_, rfl⟩)
theorem qRz {T : ByteArray} {e : Ent} (hT : T ≠ { data := #[] }) (hf : ∀ c ∈ T.data.toList, c ≠ 47) (hu : bR e.1 T = true) : bC { data := #[] } e = some T := by
 obtain ⟨t, ht, hts⟩ := gQ hu hT
 have hTn : T.data.toList ≠ [] := fun x => hT (iN (by rw [x]))
 have key : kK (e.1.data.toList.drop (({ data := #[] } : ByteArray).data.toList).length) = T.data.toList ++ t := by
  show kK e.1.data.toList = _
  rw [ht]
  cases hx : T.data.toList with
  | nil => exact absurd hx hTn
  | cons c r =>
   have : c ≠ 47 := hf c (by rw [hx]; simp)
   simp [kK, this]
 have hfi : iD e.1 { data := #[] } = T := by
  refine iN ?_
  rw [nY, key, qNh _ _ hf hts, List.take_append_of_le_length (Nat.le_refl _), List.take_of_length_le (Nat.le_refl _)]
 have hne : e.1 ≠ { data := #[] } := fun x => by
  rw [x] at ht
  have e3 := congrArg List.length ht
  rw [List.length_append] at e3
  have : (({ data := #[] } : ByteArray).data.toList).length = 0 := rfl
  exact hTn (List.length_eq_zero_iff.1 (by omega))
 unfold bC
 rw [if_neg (by rw [hfi, qR]; simp only [not_or]; exact ⟨hne, by decide, hT⟩), hfi]
 rfl
theorem qGr {p : ByteArray} {f : Ent → Bool} : ∀ (es : List Ent) (L : LN), (∀ e ∈ es, f e = false → bC p e = none) → (es.filter f).foldl (bK p) L = es.foldl (bK p) L
 | [], L, _ => rfl
 | e :: r, L, h => by
  have ih := fun L => qGr r L fun x hx => h x (by simp [hx])
  cases hf : f e with
  | true => rw [List.filter_cons_of_pos hf, List.foldl_cons, List.foldl_cons, ih]
  | false =>
   rw [List.filter_cons_of_neg (by rw [hf]; decide), List.foldl_cons, ih]
   have : bK p L e = L := by rw [bK, h e (by simp) hf]
   rw [this]
theorem qNq {t : List Ent} {p T : ByteArray} (h : bR p T = true) : cP (cP t T) p = cP t p := by
 unfold cP
 rw [List.filter_filter]
 congr 1
 funext e
 cases hp : bR e.1 p with
 | false => rfl
 | true => rw [qQ hp h]; rfl
theorem qA2 {t : List Ent} {p T : ByteArray} (h : bR p T = true) : eF (cP t T) p = eF t p := by
 unfold eF cP
 rw [List.find?_filter]
 congr 3
 funext e
 by_cases he : e.1 = p
 ·rw [he, h]; simp
 ·simp [he]
theorem qLv {r r' : ByteArray → LN} {A H S : List Ent} {p T : ByteArray} (h : bR p T = true) (hr : r' p = r p) : cK mg r' (cP A T) (cP H T) (cP S T) p = cK mg r A H S p := by
 unfold cK
 rw [qNq h, qNq h, qNq h, qA2 h, qA2 h, qA2 h, hr]
theorem zB1 {A H S : List Ent} {p T : ByteArray} (h : bR p T = true) : cG p (cP A T ++ cP H T ++ cP S T) = cG p (A ++ H ++ S) := by
 unfold cG cP
 rw [← List.filter_append, ← List.filter_append]
 refine qGr _ _ fun e _ hf => ?_
 cases hn : bC p e with
 | none => rfl
 | some q =>
  have := qQ (qHa hn).1 h
  rw [this] at hf; cases hf
theorem qM9 {A H S : List Ent} {T : ByteArray} : ∀ (k : Nat) (p : ByteArray), bR p T = true → aL mg (cP A T) (cP H T) (cP S T) k p = aL mg A H S k p
 | 0, _, _ => rfl
 | k + 1, p, h => by
  rw [aL, aL, zB1 h]
  have key : ∀ (l : List ByteArray), (∀ q ∈ l, bR q T = true) → l.flatMap (cK mg (aL mg (cP A T) (cP H T) (cP S T) k) (cP A T) (cP H T) (cP S T)) = l.flatMap (cK mg (aL mg A H S k) A H S) := by
   intro l
   induction l with
   | nil => intro _; rfl
   | cons q r ih =>
    intro hl
    rw [List.flatMap_cons, List.flatMap_cons, ih fun x hx => hl x (by simp [hx]), qLv (hl q (by simp)) (qM9 k q (hl q (by simp)))]
  refine key _ fun q hq => ?_
  obtain ⟨x, hx, rfl⟩ := List.mem_map.1 hq
  rcases dG (A ++ H ++ S) [] hx with h0 | ⟨e, he, hn⟩
  ·cases h0
  ·exact qQ (qHa hn).2 h
theorem pY {r : ByteArray → LN} {A H S : List Ent} {p : ByteArray} {x : ByteArray × Int} (hx : x ∈ cK mg r A H S p) : x.1 = p ∨ x ∈ r p := by
 unfold cK at hx
 split at hx
 ·split at hx
  ·cases hx
  ·rw [List.mem_singleton] at hx; exact .inl (by rw [hx])
 ·split at hx
  ·rcases List.mem_append.1 hx with hx | hx
   ·split at hx
    ·cases hx
    ·rw [List.mem_singleton] at hx; exact .inl (by rw [hx])
   ·exact .inr hx
  ·split at hx
   ·rw [List.mem_singleton] at hx; exact .inl (by rw [hx])
   ·split at hx
    ·rw [List.mem_singleton] at hx; exact .inl (by rw [hx])
    ·rw [List.mem_singleton] at hx; exact .inl (by rw [hx])
theorem qDp {A H S : List Ent} : ∀ (k : Nat) (p : ByteArray), ∀ x ∈ aL mg A H S k p, bR x.1 p = true
 | 0, _, x, hx => by simp [aL] at hx
 | k + 1, p, x, hx => by
  rw [aL] at hx
  obtain ⟨q, hq, hx⟩ := List.mem_flatMap.1 hx
  obtain ⟨y, hy, rfl⟩ := List.mem_map.1 hq
  rcases dG (A ++ H ++ S) [] hy with h0 | ⟨e, he, hn⟩
  ·cases h0
  ·rcases pY hx with h | h
   ·rw [h]; exact (qHa hn).2
   ·exact qQ (qDp k _ x h) (qHa hn).2
theorem qN {A H S : List Ent} {k : Nat} {q : ByteArray} {x : ByteArray × Int} (hx : x ∈ cK mg (aL mg A H S k) A H S q) : bR x.1 q = true := by
 rcases pY hx with h | h
 ·rw [h]; exact qFh q
 ·exact qDp k q x h
theorem zKz {q : ByteArray} {v : Int} {L : LN} : q ∈ (put q v L).map (fun e => e.1) := by
 induction L with
 | nil => simp [put]
 | cons y r ih =>
  obtain ⟨t, y⟩ := y
  rw [put]
  (repeat' split) <;> first | (simp; done) | (rw [List.map_cons, List.mem_cons]; exact .inr ih)
theorem zFj {q s : ByteArray} {v : Int} {L : LN} (h : s ∈ L.map (fun e => e.1)) : s ∈ (put q v L).map (fun e => e.1) := by
 induction L with
 | nil => cases h
 | cons y r ih =>
  obtain ⟨t, y⟩ := y
  rw [List.map_cons, List.mem_cons] at h
  rw [put]
  (repeat' split) <;> rcases h with h | h <;> simp_all
theorem uT {top q : ByteArray} : ∀ (es : List Ent) (L : LN), (q ∈ L.map (fun e => e.1) ∨ ∃ e ∈ es, bC top e = some q) → q ∈ (es.foldl (bK top) L).map (fun e => e.1)
 | [], L, h => by
  rcases h with h | ⟨e, he, _⟩
  ·exact h
  ·cases he
 | e :: r, L, h => by
  rw [List.foldl_cons]
  refine uT r _ ?_
  rcases h with h | ⟨x, hx, hn⟩
  ·refine .inl ?_
   unfold bK
   split
   ·exact zFj h
   ·exact h
  ·rcases List.mem_cons.1 hx with rfl | hx
   ·refine .inl ?_
    rw [bK, hn]
    exact zKz
   ·exact .inr ⟨x, hx, hn⟩
theorem qEw {T : ByteArray} {g : ByteArray → LN} : ∀ {N : List ByteArray}, (∀ q ∈ N, q ≠ T → g q = []) → T ∉ N → N.flatMap g = []
 | [], _, _ => rfl
 | a :: r, h, hT => by
  rw [List.mem_cons, not_or] at hT
  rw [List.flatMap_cons, h a (by simp) (Ne.symm hT.1), qEw (fun q hq => h q (by simp [hq])) hT.2]; rfl
theorem qP9 {T : ByteArray} {g : ByteArray → LN} : ∀ {N : List ByteArray}, N.Nodup → (∀ q ∈ N, q ≠ T → g q = []) → T ∈ N → N.flatMap g = g T
 | [], _, _, hT => by cases hT
 | a :: r, hn, h, hT => by
  rw [List.nodup_cons] at hn
  rw [List.flatMap_cons]
  by_cases ha : a = T
  ·subst ha
   rw [qEw (fun q hq => h q (by simp [hq])) hn.1, List.append_nil]
  ·rw [h a (by simp) ha, List.nil_append]
   rcases List.mem_cons.1 hT with hT | hT
   ·exact absurd hT.symm ha
   ·exact qP9 hn.2 (fun q hq => h q (by simp [hq])) hT
theorem qR4 {A H S : List Ent} {T : ByteArray} (hT : T ≠ { data := #[] }) (hTf : ∀ c ∈ T.data.toList, c ≠ 47) (hs : ∀ e ∈ A ++ H ++ S, ∀ r, e.1.data.toList ≠ 47 :: r) (k : Nat) :
  aL mg (cP A T) (cP H T) (cP S T) (k + 1) { data := #[] } = (aL mg A H S (k + 1) { data := #[] }).filter fun x => bR x.1 T := by
 rw [aL, aL, List.filter_flatMap]
 obtain ⟨E, hE⟩ : ∃ E, A ++ H ++ S = E := ⟨_, rfl⟩
 have hE2 : cP A T ++ cP H T ++ cP S T = E.filter fun e => bR e.1 T := by
  rw [← hE, List.filter_append, List.filter_append]; rfl
 rw [hE2, hE]
 rw [hE] at hs
 have hN := sQ { data := #[] } E
 have hN2 := sQ { data := #[] } (E.filter fun e => bR e.1 T)
 have hmem : ∀ q, q ∈ (cG { data := #[] } E).map (fun e => e.1) → ∃ e ∈ E, bC { data := #[] } e = some q := fun q hq => by
  obtain ⟨x, hx, rfl⟩ := List.mem_map.1 hq
  rcases dG E [] hx with h0 | h
  ·cases h0
  ·exact h
 have hmem2 : ∀ q, q ∈ (cG { data := #[] } (E.filter fun e => bR e.1 T)).map (fun e => e.1) → q = T := fun q hq => by
  obtain ⟨x, hx, rfl⟩ := List.mem_map.1 hq
  rcases dG (E.filter fun e => bR e.1 T) [] hx with h0 | ⟨e, he, hn⟩
  ·cases h0
  ·have := qRz hT hTf (List.mem_filter.1 he).2
   rw [this] at hn
   exact (Option.some.inj hn).symm
 have hiff : T ∈ (cG { data := #[] } (E.filter fun e => bR e.1 T)).map (fun e => e.1) ↔ T ∈ (cG { data := #[] } E).map (fun e => e.1) := by
  constructor
  ·intro h
   obtain ⟨x, hx, hxT⟩ := List.mem_map.1 h
   rcases dG (E.filter fun e => bR e.1 T) [] hx with h0 | ⟨e, he, hn⟩
   ·cases h0
   ·rw [hxT] at hn
    exact uT E [] (.inr ⟨e, (List.mem_filter.1 he).1, hn⟩)
  ·intro h
   obtain ⟨e, he, hn⟩ := hmem T h
   exact uT _ [] (.inr ⟨e, List.mem_filter.2 ⟨he, (qB1 hn (hs e he)).2.1⟩, hn⟩)
 have side : ∀ q ∈ (cG { data := #[] } E).map (fun e => e.1), q ≠ T → (cK mg (aL mg A H S k) A H S q).filter (fun x => bR x.1 T) = [] := fun q hq h => by
  rw [List.filter_eq_nil_iff]
  intro x hx hu
  obtain ⟨e, he, hn⟩ := hmem q hq
  have h1 := qAr (e := ((x.1, (0, x.1)) : Ent)) hn (qN hx)
  have h2 := qRz (e := ((x.1, (0, x.1)) : Ent)) hT hTf hu
  rw [h1] at h2
  exact h (Option.some.inj h2)
 by_cases hT2 : T ∈ (cG { data := #[] } E).map (fun e => e.1)
 ·rw [qP9 hN2 (fun q hq h => absurd (hmem2 q hq) h) (hiff.2 hT2), qP9 hN side hT2, qLv (qFh T) (qM9 k T (qFh T))]
  refine (List.filter_eq_self.2 fun x hx => ?_).symm
  exact qN hx
 ·rw [qEw (fun q hq h => absurd (hmem2 q hq) h) (fun h => hT2 (hiff.1 h)), qEw side hT2]
end Go.Rc
end
