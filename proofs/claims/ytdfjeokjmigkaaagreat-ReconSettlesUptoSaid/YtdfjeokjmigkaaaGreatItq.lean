/-
  slices.Sorted(maps.Keys(m)) in a region, with maps beside the state: a new row of the keys ay they rise.
-/
import Derived.Test.YtdfjeokjmigkaaaGreatTrC
import Derived.Sort.KeysCollected
import Derived.Sort.Walk0
import Derived.Test.YtdfjeokjmigkaaaGreatDk
section
set_option linter.unusedSimpArgs false
set_option linter.unusedVariables false
namespace Go.Tr
open Go Go.Sort Go.Proofs
def qWc (out : List ByteArray) (s : ByteArray) : List ByteArray := out.takeWhile (fun x => !blt s x) ++ s :: out.dropWhile (fun x => !blt s x)
def qY9 (l : List ByteArray) : List ByteArray := l.foldl qWc []
def uA (t : List ByteArray) : Prop := t.Pairwise fun x y => blt y x = false
theorem zBv {a b c : ByteArray} (h1 : blt b a = false) (h2 : blt c b = false) : blt c a = false := by
 cases e : blt c a with
 | false => rfl
 | true =>
  rcases qQn a b with h | h | h
  ·rw [qG e h] at h2; cases h2
  ·rw [← h, e] at h2; cases h2
  ·rw [h] at h1; cases h1
theorem qWb {s : ByteArray} : ∀ {out : List ByteArray}, uA out → uA (qWc out s) := by
 intro out h
 unfold qWc
 induction out with
 | nil => simp [uA]
 | cons x r ih =>
  obtain ⟨hx, hr⟩ := List.pairwise_cons.1 h
  cases hb : blt s x with
  | false =>
   simp only [List.takeWhile_cons, List.dropWhile_cons, hb, Bool.not_false, if_true, List.cons_append]
   refine List.pairwise_cons.2 ⟨fun y hy => ?_, ih hr⟩
   rcases List.mem_append.1 hy with hy | hy
   ·exact hx y ((List.takeWhile_sublist _).subset hy)
   ·rcases List.mem_cons.1 hy with rfl | hy
    ·exact hb
    ·exact hx y ((List.dropWhile_sublist _).subset hy)
  | true =>
   simp only [List.takeWhile_cons, List.dropWhile_cons, hb, Bool.not_true, Bool.false_eq_true, if_false, List.nil_append]
   refine List.pairwise_cons.2 ⟨fun y hy => ?_, h⟩
   rcases List.mem_cons.1 hy with rfl | hy
   ·exact qCw hb
   ·exact zBv (qCw hb) (hx y hy)
theorem zCi (out : List ByteArray) (s : ByteArray) : (qWc out s).Perm (s :: out) := by
 unfold qWc
 refine List.perm_middle.trans (List.Perm.cons s ?_)
 rw [List.takeWhile_append_dropWhile]
theorem qGs : ∀ (t out : List ByteArray), uA out → uA (t.foldl qWc out)
 | [], out, h => h
 | e :: t, out, h => by rw [List.foldl_cons]; exact qGs t _ (qWb h)
theorem qKf : ∀ (t out : List ByteArray), (t.foldl qWc out).Perm (out ++ t)
 | [], out => by simp
 | e :: t, out => by
  rw [List.foldl_cons]
  refine (qKf t _).trans ?_
  refine (List.Perm.append_right t (zCi out e)).trans ?_
  exact (List.perm_middle (l₁ := out)).symm
theorem qQ7 (t : List ByteArray) : uA (qY9 t) := qGs t [] .nil
theorem qUu (t : List ByteArray) : (qY9 t).Perm t := qKf t []
theorem qQ8 {l X : List ByteArray} (h : uA X) (hp : X.Perm l) : X = qY9 l := by
 refine List.Perm.eq_of_pairwise (le := fun x y : ByteArray => blt y x = false) (fun a b ha hb h1 h2 => ?_) h (qQ7 l) (hp.trans (qUu l).symm)
 rcases qQn a b with h | h | h
 ·rw [h] at h2; cases h2
 ·exact h
 ·rw [h] at h1; cases h1
def byL (l : List ByteArray) : List (List UInt8) := l.map fun s => s.data.toList
theorem zJw (l : List ByteArray) : (byL l).map (fun x => (⟨x.toArray⟩ : ByteArray)) = l := by
 unfold byL
 rw [List.map_map]
 conv => rhs; rw [← List.map_id l]
 exact List.map_congr_left fun s _ => rfl
theorem qR1 (l : List ByteArray) : ((byL l).mergeSort fun x y => decide (x ≤ y)).map (fun x => (⟨x.toArray⟩ : ByteArray)) = qY9 l := by
 refine qQ8 ?_ ?_
 ·unfold uA
  rw [List.pairwise_map]
  have h := List.pairwise_mergeSort (le := fun x y : List UInt8 => decide (x ≤ y)) (fun a b c h1 h2 => by
   simp only [decide_eq_true_eq] at *; exact List.le_trans h1 h2) (fun a b => by
   simp only [Bool.or_eq_true, decide_eq_true_eq]; exact List.le_total a b) (byL l)
  refine h.imp fun {a b} hab => ?_
  simp only [decide_eq_true_eq] at hab
  rw [blt, Lib.toList_data, Lib.toList_data, bytesLess_eq, decide_eq_false_iff_not]
  exact List.not_lt.2 hab
 ·have := (List.mergeSort_perm (byL l) fun x y => decide (x ≤ y)).map (fun x => (⟨x.toArray⟩ : ByteArray))
  rwa [zJw] at this
end Go.Tr
end
section
set_option linter.unusedSimpArgs false
set_option linter.unusedVariables false
namespace Go.Dk
open Go Go.Tr Go.Eng Go.RowKit Go.Maps Go.Sort Go.Proofs
def iM {α : Type} (L : List (ByteArray × α)) : List ByteArray := L.map (·.1)
theorem qV7 {α : Type} {L : List (ByteArray × α)} (h : qGy L) : uA (iM L) := by
 unfold uA iM
 rw [List.pairwise_map]
 exact h.imp fun {a b} hab => by
  cases e : blt b.1 a.1 with
  | false => rfl
  | true => have := qG hab e; rw [yR] at this; cases this
theorem qV6 {α : Type} {L : List (ByteArray × α)} (h : qGy L) : (byL (iM L)).Nodup := by
 unfold byL iM
 rw [List.map_map]
 refine List.pairwise_map.2 (h.imp fun {a b} hab e => ?_)
 have : a.1 = b.1 := iN e
 rw [this, yR] at hab; cases hab
theorem zGo {α : Type} {f : α → Value} {L : List (ByteArray × α)} {P : Program} {k : TypeId} {w : World} {b n : Nat} {D : DataW Value} (hR : qGy L) (hr : Reads D (tab f L)) (hown : w.ownsMap P k qMt b n D) (hk : P.underlying k = some .string)
  {ss : List (List UInt8)} (hp : ss.Perm (strKeys D)) : (ss.mergeSort fun x y => decide (x ≤ y)).map encStr = (iM L).map (fun s => Value.string s) ∧ ss.length = L.length := by
 have hC : Collected D (fun _ => false) (byL (iM L)) := ⟨qV6 hR, fun x => by
  rw [hr.has]
  simp only [and_true]
  rw [tab, Option.isSome_map]
  constructor
  ·intro hx
   obtain ⟨s, hs, rfl⟩ := List.mem_map.1 hx
   obtain ⟨e, he, rfl⟩ := List.mem_map.1 hs
   rw [oQ, qMq hR he]; rfl
  ·intro hx
   cases hl : iA L (mkB x) with
   | none => rw [hl] at hx; cases hx
   | some y =>
    refine List.mem_map.2 ⟨mkB x, List.mem_map.2 ⟨_, qFs hl, rfl⟩, ?_⟩
    exact (qVz.1 rfl).symm⟩
 have hC2 := hC.perm hown (string_keyed hk) hk fun _ => rfl
 have hpp := hp.trans hC2.symm
 refine ⟨?_, by rw [hpp.length_eq]; simp [byL, iM]⟩
 have e1 : (ss.mergeSort fun x y => decide (x ≤ y)) = (byL (iM L)).mergeSort fun x y => decide (x ≤ y) := mergeSort_of_perm hpp
 rw [e1]
 have e2 := qR1 (iM L)
 rw [← qQ8 (qV7 hR) (List.Perm.refl _)] at e2
 have e3 := congrArg (List.map fun s : ByteArray => Value.string s) e2
 rw [List.map_map] at e3
 rw [← e3]
 exact List.map_congr_left fun x _ => rfl
end Go.Dk
namespace Go.Eng
open Go Go.RowKit Go.Maps Go.Sort Go.Dk Go.Proofs
section
variable {P : Program} {N : Nat} {all more : List Oper} {Q : tV} {g : MS} {S : HS}
theorem Good.setE {c : Ctx} {l : Env} {w : World} {ρ : Nat → Value} {xs : Nat → List Value} {v : Value} {h : HV} (G : Good c S (lk l) w ρ xs) (hr : RepH w (c.A ρ S.st) c.n0 ρ v h) (d : Nat) : Good c (S.set (some d) h) (lk (stp (some d) v l)) w ρ xs := by
 refine ⟨G.rows, G.apart, fun k x hk => ?_, G.kept, G.a0⟩
 simp only [HS.set, hlk] at hk
 simp only [stp, lk]
 by_cases e : d = k
 ·rw [if_pos e] at hk ⊢
  simp only [Option.some.injEq] at hk
  subst hk
  exact ⟨v, rfl, hr⟩
 ·rw [if_neg e] at hk ⊢; exact G.env k x hk
theorem zJ8 {α : Type} {f : α → Value} {L : List (ByteArray × α)} {o1 o2 : Oper} {m : Operand} {fK fS fI tM t1 t2 d1 d2 i r n kT : Nat} (nid : Nat) (hR : qGy L) (hn : n ≤ 1099511627776) (hk : P.underlying kT = some .string)
  (h1 : o1.op = .call ⟨.value (.func fK), #[m], #[t1]⟩) (h2 : o2.op = .call ⟨.value (.func fS), #[.tmp d1], #[t2]⟩) (hg1 : o1.guard = none) (hg2 : o2.guard = none) (hd1 : o1.dst = some d1) (hd2 : o2.dst = some d2) (hl1 : eV N (some d1) = true) (hl2 : eV N (some d2) = true)
  (hc1 : aE P fK = true) (hc2 : aE P fS = true)
  (hK : ∀ (b : Nat) (W : World), Calls P fK #[.map (some b)] W (fun e w' => e = .returned (.func (.func fI) #[] #[.pointer (some ⟨W.heap.size, 0, none⟩)]) ∧ w' = W.alloc (.cells #[.map (some b)] tM)))
  (hS : ∀ (b nn : Nat) (D0 : DataW Value) (w : World) (hown : w.ownsMap P kT qMt b nn D0) (hmax : Maps.size D0 ≤ maxLen) (hbytes : Maps.size D0 * 16 ≤ 140737488355328),
   Calls P fS #[.func (.func fI) #[] #[.pointer (some ⟨w.heap.size, 0, none⟩)]] (w.alloc (.cells #[.map (some b)] tM)) fun e w' => ∃ (v : Value) (ss : List (List UInt8)), e = .returned v ∧ ss.Perm (strKeys D0) ∧
    w'.ownsRow (w.alloc (.cells #[.map (some b)] tM)).heap.size kT 1 v ss.length ((ss.mergeSort (fun x y => decide (x ≤ y))).map encStr) ∧ (v = .slice none 0 0 ↔ ss = []) ∧ Below (w.alloc (.cells #[.map (some b)] tM)).heap.size (w.alloc (.cells #[.map (some b)] tM)) w')
  (hi : g[i]? = some (.map r kT n (tab f L))) (hm : hev S.env m = some (.v (.map (some r))))
  (h : HVM P N all Q more g ((((S.kill (only nid)).row nid (.sl true kT 1 (aR (iM L)))).set (some d1) .junk).set (some d2) (.own nid))) : HVM P N all Q (o1 :: o2 :: more) g S := fun c F l w hkk I M => by
 have I0 := I
 obtain ⟨ρ, xs, G⟩ := I
 obtain ⟨vm, m1, m2⟩ := G.ev (aW _ l) hm
 have := aX m2; subst this
 obtain ⟨D, hown, hrd⟩ := M.ok i _ hi
 have hsz := hown.size_le
 have hk' : ∀ v, bJ N (stp (some d1) v l) = true := fun v => jC hkk (fun k e => by cases e; exact cY hl1)
 unfold wpList
 rw [qDi I0 F hkk (by rw [hg1]; rfl), if_pos rfl]
 have hv1 : aQ P l o1.op o1.type w (fun u w1 => u = .func (.func fI) #[] #[.pointer (some ⟨w.heap.size, 0, none⟩)] ∧ w1 = w.alloc (.cells #[.map (some r)] tM)) (fun u w1 => u = .func (.func fI) #[] #[.pointer (some ⟨w.heap.size, 0, none⟩)] ∧ w1 = w.alloc (.cells #[.map (some r)] tM)) := by
  rw [h1]
  unfold aQ
  have e1 : evs l [m] = some [.map (some r)] := by simp only [evs, m1]
  simp only [aG, bP, e1, G.fn (aW _ _) (show fnH (hev S.env (.func fK)) = some fK from rfl)]
  exact ⟨hc1, Calls.mono (hK r w) fun e w' ⟨he, hw⟩ => by subst he; exact oY ⟨rfl, hw⟩⟩
 refine .inl (eK ((iV (fun x X hx => tN F hkk hx) hv1).mono fun u w1 ⟨e1, e2⟩ => ?_))
 subst e1; subst e2
 rw [hd1, tX]
 -- behind the first
 have hB1 : Below w.heap.size w (w.alloc (.cells #[.map (some r)] tM)) := (Below.refl _ _).alloc (Nat.le_refl _) _
 have I1 : Inv c (S.set (some d1) (.v (.func (.func fI) #[] #[.pointer (some ⟨w.heap.size, 0, none⟩)]))) (lk (stp (some d1) (.func (.func fI) #[] #[.pointer (some ⟨w.heap.size, 0, none⟩)]) l)) (w.alloc (.cells #[.map (some r)] tM)) := InvV.set ⟨ρ, xs, G.below hB1, .v _⟩ (some d1)
 have hk1 := hk' (.func (.func fI) #[] #[.pointer (some ⟨w.heap.size, 0, none⟩)])
 generalize hl' : stp (some d1) (.func (.func fI) #[] #[.pointer (some ⟨w.heap.size, 0, none⟩)]) l = l1 at I1 hk1 ⊢
 unfold wpList
 rw [qDi I1 F hk1 (by rw [hg2]; rfl), if_pos rfl]
 have hv2 : aQ P l1 o2.op o2.type (w.alloc (.cells #[.map (some r)] tM)) (fun u w2 => Own w2 w.heap.size kT 1 u L.length ((iM L).map fun s => Value.string s) ∧ Below w.heap.size w w2) (fun u w2 => Own w2 w.heap.size kT 1 u L.length ((iM L).map fun s => Value.string s) ∧ Below w.heap.size w w2) := by
  rw [h2]
  unfold aQ
  have e1 : evs l1 [.tmp d1] = some [.func (.func fI) #[] #[.pointer (some ⟨w.heap.size, 0, none⟩)]] := by
   subst hl'
   simp only [evs, ev, stp, lk, if_true]
  obtain ⟨ρ1, xs1, G1⟩ := I1
  simp only [aG, bP, e1, G1.fn (aW _ _) (show fnH (hev _ (.func fS)) = some fS from rfl)]
  refine ⟨hc2, Calls.mono (hS r n D w hown (by simp only [maxLen]; omega) (by omega)) ?_⟩
  rintro e w2 ⟨v, ss, rfl, hp, hrow, hnil, hB2⟩
  obtain ⟨k1, k2⟩ := zGo hR hrd hown hk hp
  rw [k1, k2] at hrow
  refine oY ⟨⟨hrow.1, ?_⟩, hB1.trans (hB2.mono (by simp))⟩
  rcases hrow.2 with hx | ⟨g', cap, cur, a1, a2, a3⟩
  ·exact .inl hx
  ·exact .inr ⟨g', cap, cur, a1, by simp at a2; omega, a3⟩
 refine .inl (eK ((iV (fun x X hx => tN F hk1 hx) hv2).mono fun u w2 ⟨hO, hB⟩ => ?_))
 rw [hd2, tX]
 have hk2 : bJ N (stp (some d2) u l1) = true := jC hk1 (fun k e => by cases e; exact cY hl2)
 have hlk : ∀ b, u.ownBlock = some b → w.heap.size ≤ b := fun b hb => by
  rcases hO.2 with ⟨rfl, _⟩ | ⟨g', cap, cur, rfl, a2, _⟩
  ·cases hb
  ·simp only [Value.ownBlock, Option.some.injEq] at hb; subst hb; exact a2
 have Gn := G.new nid (.sl true kT 1 (aR (iM L))) ((iM L).map fun s => Value.string s) u hB hlk (fun _ _ => by
  have hlen : (aR (iM L)).length = L.length := by simp [aR, iM]
  refine ⟨?_, ⟨fun x hx => ?_, fun a q ha hq => ?_⟩, fun b hb => ?_⟩
  ·rw [aF]
   show Own w2 0 kT 1 u (aR (iM L)).length _
   rw [hlen]
   refine ⟨hO.1, ?_⟩
   rcases hO.2 with hx | ⟨g', cap, cur, a1, a2, a3⟩
   ·exact .inl hx
   ·exact .inr ⟨g', cap, cur, a1, Nat.zero_le _, a3⟩
  ·obtain ⟨s, _, rfl⟩ := List.mem_map.1 hx; rfl
  ·have ha' : a < (iM L).length := by simpa [aR] using ha
   have hg : (aR (iM L))[a] = [FV.v (.string (iM L)[a])] := by simp [aR, qAi]
   have hq0 : q = 0 := by simp only [hg, List.length_cons, List.length_nil] at hq; omega
   subst hq0
   refine ⟨.string (iM L)[a], by simp [ha'], rfl, ?_⟩
   simp only [hg, List.getElem_cons_zero]
   exact .v _
  ·rw [aF] at hb
   have := hlk b hb
   have hw0 := G.kept.size
   have := c.hn
   exact ⟨.inl (by omega), fun _ => by omega⟩)
 subst hl'
 have Ga := Gn.setE (v := .func (.func fI) #[] #[.pointer (some ⟨w.heap.size, 0, none⟩)]) (.junk _) d1
 have ro : RepH w2 (c.A (eE ρ nid u) ((((S.kill (only nid)).row nid (.sl true kT 1 (aR (iM L)))).set (some d1) .junk)).st) c.n0 (eE ρ nid u) u (.own nid) := by
  have := RepH.own (w := w2) (A := c.A (eE ρ nid u) ((((S.kill (only nid)).row nid (.sl true kT 1 (aR (iM L)))).set (some d1) .junk)).st) (n0 := c.n0) (ρ := eE ρ nid u) nid (by
   rw [aF]
   rcases hO.2 with ⟨rfl, _⟩ | ⟨g', cap, cur, rfl, _⟩ <;> rfl)
  rw [aF] at this
  exact this
 have Gb := Ga.setE ro d2
 exact h c F _ _ hk2 ⟨_, _, Gb⟩ (M.block fun b hb _ => hB.block b hb.lt)
end
end Go.Eng
end
