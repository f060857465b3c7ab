/-
  Recon: what is said below one name hangs on what lies lW: plain.
-/
import Derived.Test.YtdfjeokjmigkaaaGreatRcM
import Derived.Test.YtdfjeokjmigkaaaGreatMgG
import Derived.Test.YtdfjeokjmigkaaaGreatRcD
section
set_option linter.unusedSimpArgs false
set_option linter.unusedVariables false
set_option maxRecDepth 20000
namespace Go.Proofs.YtdfjeokjmigkaaaGreat
open Go Go.Eng Go.RowKit Go.Tr Go.Dk Go.Rc Go.DiffM
def mgR (a h s : Int × ByteArray) : Bool := okM (rA h s (qUh (qB9 a) h.2 s.2) (qUi (qB9 a) h.2 s.2) (qZ (qB9 a) h.2 s.2))
theorem qXa {a : Int × ByteArray} (h : a.2.size ≤ 4096) : (qB9 a).size ≤ 4096 := by
 unfold qB9
 split
 ·exact h
 ·exact Nat.zero_le _
theorem zL7 : zCy mgR := fun a h s ha hh hs =>
 ⟨_, zAg a h s _ _ _ (zJt (qB9 a) h.2 s.2 (Nat.le_trans (qXa ha) (by decide)) (Nat.le_trans hh (by decide)) (Nat.le_trans hs (by decide)))⟩
end Go.Proofs.YtdfjeokjmigkaaaGreat
end
section
set_option linter.unusedSimpArgs false
set_option linter.unusedVariables false
namespace Go.Rc
open Go Go.Tr Go.Eng Go.Dk
variable {mg : (Int × ByteArray) → (Int × ByteArray) → (Int × ByteArray) → Bool}
theorem iT {p q : ByteArray} {t : List UInt8} (h : p.data.toList = q.data.toList ++ t) (ht : t = [] ∨ ∃ r, t = 47 :: r) : cF p q = true := by
 unfold cF
 rcases ht with rfl | ⟨r, rfl⟩
 ·have : p = q := jY (by rw [h, List.append_nil])
  rw [decide_eq_true this]; simp
 ·have : (q ++ stroke).data.toList.isPrefixOf p.data.toList = true := by
   rw [List.isPrefixOf_iff_prefix]
   exact ⟨r, by rw [h]; simp [stroke]⟩
  rw [this]; simp
theorem uD (p : ByteArray) : cF p { data := #[] } = true := by
 unfold cF
 have : ({ data := #[] } : ByteArray) = ByteArray.empty := rfl
 rw [decide_eq_true this]; rfl
theorem qEk (p : ByteArray) : cF p p = true := iT (t := []) (by simp) (.inl rfl)
theorem uC {a b c : ByteArray} (h1 : cF a b = true) (h2 : cF b c = true) : cF a c = true := by
 by_cases hc : c = { data := #[] }
 ·rw [hc]; exact uD a
 ·obtain ⟨t2, e2, k2⟩ := oU h2 hc
  have hb : b ≠ { data := #[] } := fun h => by
   rw [h] at e2
   have e3 := congrArg List.length e2
   rw [List.length_append] at e3
   have e4 : c.data.toList.length = 0 := by
    have : (({ data := #[] } : ByteArray).data.toList).length = 0 := rfl
    omega
   exact hc (jY (by rw [List.length_eq_zero_iff.1 e4]))
  obtain ⟨t1, e1, k1⟩ := oU h1 hb
  refine iT (t := t2 ++ t1) (by rw [e1, e2, List.append_assoc]) ?_
  rcases k2 with rfl | ⟨r, rfl⟩
  ·exact k1
  ·exact .inr ⟨r ++ t1, rfl⟩
theorem zAf {p q : ByteArray} {e : Ent} (h : bN p e = some q) (hs : ∀ r, e.1.data.toList ≠ 47 :: r) : cF q p = true ∧ cF e.1 q = true ∧ cF e.1 p = true := by
 unfold bN at h
 split at h
 ·cases h
 ·rename_i hn
  simp only [not_or, Option.some.injEq] at hn h
  obtain ⟨h1, h2, h3⟩ := hn
  have hu : cF e.1 p = true := by simpa using h2
  obtain ⟨f, hf⟩ : ∃ f, jK e.1 p = f := ⟨_, rfl⟩
  rw [hf] at h h3
  have hfn : f.data.toList ≠ [] := fun x => h3 (jY (by rw [x]))
  have hql : q.data.toList = if p = { data := #[] } then f.data.toList else p.data.toList ++ 47 :: f.data.toList := by
   rw [← h]; exact qEv _ _ h3
  have hfl : f.data.toList = (lV (e.1.data.toList.drop p.data.toList.length)).take (nU (lV (e.1.data.toList.drop p.data.toList.length))) := by rw [← hf, wK]
  have hrest : ∀ (l : List UInt8), ∃ t, l = l.take (nU l) ++ t ∧ (t = [] ∨ ∃ r, t = 47 :: r) := by
   intro l
   induction l with
   | nil => exact ⟨[], rfl, .inl rfl⟩
   | cons c r ih =>
    rw [nU]
    split
    ·rename_i hc
     exact ⟨c :: r, rfl, .inr ⟨r, by rw [hc]⟩⟩
    ·obtain ⟨t, e, k⟩ := ih
     exact ⟨t, by rw [List.take_succ_cons, List.cons_append, ← e], k⟩
  obtain ⟨t, ht, hk⟩ := hrest (lV (e.1.data.toList.drop p.data.toList.length))
  rw [← hfl] at ht
  by_cases hp : p = { data := #[] }
  ·rw [if_pos hp] at hql
   refine ⟨by rw [hp]; exact uD q, ?_, hu⟩
   have hd : e.1.data.toList.drop p.data.toList.length = e.1.data.toList := by rw [hp]; rfl
   rw [hd] at ht
   cases hx : e.1.data.toList with
   | nil =>
    rw [hx] at ht
    have : f.data.toList = [] := by
     have e3 := congrArg List.length ht
     simp only [lV, List.length_nil, List.length_append] at e3
     exact List.length_eq_zero_iff.1 (by omega)
    exact absurd this hfn
   | cons c r =>
    rw [hx] at ht
    by_cases hc : c = 47
    ·subst hc
     exact absurd hx (hs r)
    ·simp only [lV, if_neg hc] at ht
     exact iT (t := t) (by rw [hx, ht, hql]) hk
  ·rw [if_neg hp] at hql
   refine ⟨iT (t := 47 :: f.data.toList) hql (.inr ⟨_, rfl⟩), ?_, hu⟩
   obtain ⟨u, hu1, hu2⟩ := oU hu hp
   have hd : e.1.data.toList.drop p.data.toList.length = u := by rw [hu1, List.drop_append_of_le_length (Nat.le_refl _), List.drop_of_length_le (Nat.le_refl _)]; rfl
   rw [hd] at ht
   rcases hu2 with rfl | ⟨r, rfl⟩
   ·exact absurd (jY (by rw [hu1, List.append_nil])) h1
   ·simp only [lV, if_pos] at ht
    exact iT (t := t) (by rw [hu1, ht, hql, List.append_assoc]; rfl) hk
theorem qGa {p q : ByteArray} {e : Ent} (h : bN p e = some q) : cF e.1 p = true ∧ cF q p = true := by
 unfold bN at h
 split at h
 ·cases h
 ·rename_i hn
  simp only [not_or, Option.some.injEq] at hn h
  obtain ⟨h1, h2, h3⟩ := hn
  have hu : cF e.1 p = true := by simpa using h2
  refine ⟨hu, ?_⟩
  by_cases hp : p = { data := #[] }
  ·rw [hp]; exact uD q
  ·have hql := qEv p (jK e.1 p) h3
   rw [h, if_neg hp] at hql
   exact iT hql (.inr ⟨_, rfl⟩)
theorem qQk {T : ByteArray} {e : Ent} (hT : T ≠ { data := #[] }) (hf : ∀ c ∈ T.data.toList, c ≠ 47) (hu : cF e.1 T = true) : bN { data := #[] } e = some T := by
 obtain ⟨t, ht, hts⟩ := oU hu hT
 have hTn : T.data.toList ≠ [] := fun x => hT (jY (by rw [x]))
 have key : lV (e.1.data.toList.drop (({ data := #[] } : ByteArray).data.toList).length) = T.data.toList ++ t := by
  show lV e.1.data.toList = _
  rw [ht]
  cases hx : T.data.toList with
  | nil => exact absurd hx hTn
  | cons c r =>
   have : c ≠ 47 := hf c (by rw [hx]; simp)
   simp [lV, this]
 have hfi : jK e.1 { data := #[] } = T := by
  refine jY ?_
  rw [wK, key, qL3 _ _ hf hts, List.take_append_of_le_length (Nat.le_refl _), List.take_of_length_le (Nat.le_refl _)]
 have hne : e.1 ≠ { data := #[] } := fun x => by
  rw [x] at ht
  have e3 := congrArg List.length ht
  rw [List.length_append] at e3
  have : (({ data := #[] } : ByteArray).data.toList).length = 0 := rfl
  exact hTn (List.length_eq_zero_iff.1 (by omega))
 unfold bN
 rw [if_neg (by rw [hfi, uD]; simp only [not_or]; exact ⟨hne, by decide, hT⟩), hfi]
 rfl
theorem qFr {p : ByteArray} {f : Ent → Bool} : ∀ (es : List Ent) (L : LN), (∀ e ∈ es, f e = false → bN p e = none) → (es.filter f).foldl (bF p) L = es.foldl (bF p) L
 | [], L, _ => rfl
 | e :: r, L, h => by
  have ih := fun L => qFr r L fun x hx => h x (by simp [hx])
  cases hf : f e with
  | true => rw [List.filter_cons_of_pos hf, List.foldl_cons, List.foldl_cons, ih]
  | false =>
   rw [List.filter_cons_of_neg (by rw [hf]; decide), List.foldl_cons, ih]
   have : bF p L e = L := by rw [bF, h e (by simp) hf]
   rw [this]
theorem qMc {t : List Ent} {p T : ByteArray} (h : cF p T = true) : fB (fB t T) p = fB t p := by
 unfold fB
 rw [List.filter_filter]
 congr 1
 funext e
 cases hp : cF e.1 p with
 | false => rfl
 | true => rw [uC hp h]; rfl
theorem qH7 {t : List Ent} {p T : ByteArray} (h : cF p T = true) : iN (fB t T) p = iN t p := by
 unfold iN fB
 rw [List.find?_filter]
 congr 3
 funext e
 by_cases he : e.1 = p
 ·rw [he, h]; simp
 ·simp [he]
theorem qKl {r r' : ByteArray → LN} {A H S : List Ent} {p T : ByteArray} (h : cF p T = true) (hr : r' p = r p) : fX mg r' (fB A T) (fB H T) (fB S T) p = fX mg r A H S p := by
 unfold fX
 rw [qMc h, qMc h, qMc h, qH7 h, qH7 h, qH7 h, hr]
theorem zAe {A H S : List Ent} {p T : ByteArray} (h : cF p T = true) : fC p (fB A T ++ fB H T ++ fB S T) = fC p (A ++ H ++ S) := by
 unfold fC fB
 rw [← List.filter_append, ← List.filter_append]
 refine qFr _ _ fun e _ hf => ?_
 cases hn : bN p e with
 | none => rfl
 | some q =>
  have := uC (qGa hn).1 h
  rw [this] at hf; cases hf
theorem qLv {A H S : List Ent} {T : ByteArray} : ∀ (k : Nat) (p : ByteArray), cF p T = true → bE mg (fB A T) (fB H T) (fB S T) k p = bE mg A H S k p
 | 0, _, _ => rfl
 | k + 1, p, h => by
  rw [bE, bE, zAe h]
  have key : ∀ (l : List ByteArray), (∀ q ∈ l, cF q T = true) → l.flatMap (fX mg (bE mg (fB A T) (fB H T) (fB S T) k) (fB A T) (fB H T) (fB S T)) = l.flatMap (fX mg (bE mg A H S k) A H S) := by
   intro l
   induction l with
   | nil => intro _; rfl
   | cons q r ih =>
    intro hl
    rw [List.flatMap_cons, List.flatMap_cons, ih fun x hx => hl x (by simp [hx]), qKl (hl q (by simp)) (qLv k q (hl q (by simp)))]
  refine key _ fun q hq => ?_
  obtain ⟨x, hx, rfl⟩ := List.mem_map.1 hq
  rcases gZ (A ++ H ++ S) [] hx with h0 | ⟨e, he, hn⟩
  ·cases h0
  ·exact uC (qGa hn).2 h
theorem qEi {r : ByteArray → LN} {A H S : List Ent} {p : ByteArray} {x : ByteArray × Int} (hx : x ∈ fX mg r A H S p) : x.1 = p ∨ x ∈ r p := by
 unfold fX at hx
 split at hx
 ·split at hx
  ·cases hx
  ·rw [List.mem_singleton] at hx; exact .inl (by rw [hx])
 ·split at hx
  ·rcases List.mem_append.1 hx with hx | hx
   ·split at hx
    ·cases hx
    ·rw [List.mem_singleton] at hx; exact .inl (by rw [hx])
   ·exact .inr hx
  ·split at hx
   ·rw [List.mem_singleton] at hx; exact .inl (by rw [hx])
   ·split at hx
    ·rw [List.mem_singleton] at hx; exact .inl (by rw [hx])
    ·rw [List.mem_singleton] at hx; exact .inl (by rw [hx])
theorem qJs {A H S : List Ent} : ∀ (k : Nat) (p : ByteArray), ∀ x ∈ bE mg A H S k p, cF x.1 p = true
 | 0, _, x, hx => by simp [bE] at hx
 | k + 1, p, x, hx => by
  rw [bE] at hx
  obtain ⟨q, hq, hx⟩ := List.mem_flatMap.1 hx
  obtain ⟨y, hy, rfl⟩ := List.mem_map.1 hq
  rcases gZ (A ++ H ++ S) [] hy with h0 | ⟨e, he, hn⟩
  ·cases h0
  ·rcases qEi hx with h | h
   ·rw [h]; exact (qGa hn).2
   ·exact uC (qJs k _ x h) (qGa hn).2
theorem qGs {A H S : List Ent} {k : Nat} {q : ByteArray} {x : ByteArray × Int} (hx : x ∈ fX mg (bE mg A H S k) A H S q) : cF x.1 q = true := by
 rcases qEi hx with h | h
 ·rw [h]; exact qEk q
 ·exact qJs k q x h
theorem zH7 {q : ByteArray} {v : Int} {L : LN} : q ∈ (put q v L).map (fun e => e.1) := by
 induction L with
 | nil => simp [put]
 | cons y r ih =>
  obtain ⟨t, y⟩ := y
  rw [put]
  (repeat' split) <;> first | (simp; done) | (rw [List.map_cons, List.mem_cons]; exact .inr ih)
theorem zDu {q s : ByteArray} {v : Int} {L : LN} (h : s ∈ L.map (fun e => e.1)) : s ∈ (put q v L).map (fun e => e.1) := by
 induction L with
 | nil => cases h
 | cons y r ih =>
  obtain ⟨t, y⟩ := y
  rw [List.map_cons, List.mem_cons] at h
  rw [put]
  (repeat' split) <;> rcases h with h | h <;> simp_all
theorem qEq {top q : ByteArray} : ∀ (es : List Ent) (L : LN), (q ∈ L.map (fun e => e.1) ∨ ∃ e ∈ es, bN top e = some q) → q ∈ (es.foldl (bF top) L).map (fun e => e.1)
 | [], L, h => by
  rcases h with h | ⟨e, he, _⟩
  ·exact h
  ·cases he
 | e :: r, L, h => by
  rw [List.foldl_cons]
  refine qEq r _ ?_
  rcases h with h | ⟨x, hx, hn⟩
  ·refine .inl ?_
   unfold bF
   split
   ·exact zDu h
   ·exact h
  ·rcases List.mem_cons.1 hx with rfl | hx
   ·refine .inl ?_
    rw [bF, hn]
    exact zH7
   ·exact .inr ⟨x, hx, hn⟩
theorem qDx {T : ByteArray} {g : ByteArray → LN} : ∀ {N : List ByteArray}, (∀ q ∈ N, q ≠ T → g q = []) → T ∉ N → N.flatMap g = []
 | [], _, _ => rfl
 | a :: r, h, hT => by
  rw [List.mem_cons, not_or] at hT
  rw [List.flatMap_cons, h a (by simp) (Ne.symm hT.1), qDx (fun q hq => h q (by simp [hq])) hT.2]; rfl
theorem qNt {T : ByteArray} {g : ByteArray → LN} : ∀ {N : List ByteArray}, N.Nodup → (∀ q ∈ N, q ≠ T → g q = []) → T ∈ N → N.flatMap g = g T
 | [], _, _, hT => by cases hT
 | a :: r, hn, h, hT => by
  rw [List.nodup_cons] at hn
  rw [List.flatMap_cons]
  by_cases ha : a = T
  ·subst ha
   rw [qDx (fun q hq => h q (by simp [hq])) hn.1, List.append_nil]
  ·rw [h a (by simp) ha, List.nil_append]
   rcases List.mem_cons.1 hT with hT | hT
   ·exact absurd hT.symm ha
   ·exact qNt hn.2 (fun q hq => h q (by simp [hq])) hT
theorem qQo {A H S : List Ent} {T : ByteArray} (hT : T ≠ { data := #[] }) (hTf : ∀ c ∈ T.data.toList, c ≠ 47) (hs : ∀ e ∈ A ++ H ++ S, ∀ r, e.1.data.toList ≠ 47 :: r) (k : Nat) :
  bE mg (fB A T) (fB H T) (fB S T) (k + 1) { data := #[] } = (bE mg A H S (k + 1) { data := #[] }).filter fun x => cF x.1 T := by
 rw [bE, bE, List.filter_flatMap]
 obtain ⟨E, hE⟩ : ∃ E, A ++ H ++ S = E := ⟨_, rfl⟩
 have hE2 : fB A T ++ fB H T ++ fB S T = E.filter fun e => cF e.1 T := by
  rw [← hE, List.filter_append, List.filter_append]; rfl
 rw [hE2, hE]
 rw [hE] at hs
 have hN := xN { data := #[] } E
 have hN2 := xN { data := #[] } (E.filter fun e => cF e.1 T)
 have hmem : ∀ q, q ∈ (fC { data := #[] } E).map (fun e => e.1) → ∃ e ∈ E, bN { data := #[] } e = some q := fun q hq => by
  obtain ⟨x, hx, rfl⟩ := List.mem_map.1 hq
  rcases gZ E [] hx with h0 | h
  ·cases h0
  ·exact h
 have hmem2 : ∀ q, q ∈ (fC { data := #[] } (E.filter fun e => cF e.1 T)).map (fun e => e.1) → q = T := fun q hq => by
  obtain ⟨x, hx, rfl⟩ := List.mem_map.1 hq
  rcases gZ (E.filter fun e => cF e.1 T) [] hx with h0 | ⟨e, he, hn⟩
  ·cases h0
  ·have := qQk hT hTf (List.mem_filter.1 he).2
   rw [this] at hn
   exact (Option.some.inj hn).symm
 have hiff : T ∈ (fC { data := #[] } (E.filter fun e => cF e.1 T)).map (fun e => e.1) ↔ T ∈ (fC { data := #[] } E).map (fun e => e.1) := by
  constructor
  ·intro h
   obtain ⟨x, hx, hxT⟩ := List.mem_map.1 h
   rcases gZ (E.filter fun e => cF e.1 T) [] hx with h0 | ⟨e, he, hn⟩
   ·cases h0
   ·rw [hxT] at hn
    exact qEq E [] (.inr ⟨e, (List.mem_filter.1 he).1, hn⟩)
  ·intro h
   obtain ⟨e, he, hn⟩ := hmem T h
   exact qEq _ [] (.inr ⟨e, List.mem_filter.2 ⟨he, (zAf hn (hs e he)).2.1⟩, hn⟩)
 have side : ∀ q ∈ (fC { data := #[] } E).map (fun e => e.1), q ≠ T → (fX mg (bE mg A H S k) A H S q).filter (fun x => cF x.1 T) = [] := fun q hq h => by
  rw [List.filter_eq_nil_iff]
  intro x hx hu
  obtain ⟨e, he, hn⟩ := hmem q hq
  have h1 := qHn (e := ((x.1, (0, x.1)) : Ent)) hn (qGs hx)
  have h2 := qQk (e := ((x.1, (0, x.1)) : Ent)) hT hTf hu
  rw [h1] at h2
  exact h (Option.some.inj h2)
 by_cases hT2 : T ∈ (fC { data := #[] } E).map (fun e => e.1)
 ·rw [qNt hN2 (fun q hq h => absurd (hmem2 q hq) h) (hiff.2 hT2), qNt hN side hT2, qKl (qEk T) (qLv k T (qEk T))]
  refine (List.filter_eq_self.2 fun x hx => ?_).symm
  exact qGs hx
 ·rw [qDx (fun q hq h => absurd (hmem2 q hq) h) (fun h => hT2 (hiff.1 h)), qDx side hT2]
end Go.Rc
end
