/-
  slices.Sorted(maps.Keys(m)) in a region, with maps beside the state: a new row of the keys ay they rise.
-/
import Derived.Test.YtdfjeokjmigkaaaGreatDk
import Derived.Test.YtdfjeokjmigkaaaGreatSrp
set_option linter.unusedSimpArgs false
set_option linter.unusedVariables false
namespace Go.Dk
open Go Go.Tr Go.Eng Go.RowKit Go.Maps Go.Sort Go.Proofs
def gV {α : Type} (L : List (ByteArray × α)) : List ByteArray := L.map (·.1)
theorem qUq {α : Type} {L : List (ByteArray × α)} (h : qFy L) : sF (gV L) := by
 unfold sF gV
 rw [List.pairwise_map]
 exact h.imp fun {a b} hab => by
  cases e : blt b.1 a.1 with
  | false => rfl
  | true => have := pD hab e; rw [wS] at this; cases this
theorem qUp {α : Type} {L : List (ByteArray × α)} (h : qFy L) : (byL (gV L)).Nodup := by
 unfold byL gV
 rw [List.map_map]
 refine List.pairwise_map.2 (h.imp fun {a b} hab e => ?_)
 have : a.1 = b.1 := jY e
 rw [this, wS] at hab; cases hab
theorem zEx {α : Type} {f : α → Value} {L : List (ByteArray × α)} {P : Program} {k : TypeId} {w : World} {b n : Nat} {D : DataW Value} (hR : qFy L) (hr : Reads D (tab f L)) (hown : w.ownsMap P k qLh b n D) (hk : P.underlying k = some .string)
  {ss : List (List UInt8)} (hp : ss.Perm (strKeys D)) : (ss.mergeSort fun x y => decide (x ≤ y)).map encStr = (gV L).map (fun s => Value.string s) ∧ ss.length = L.length := by
 have hC : Collected D (fun _ => false) (byL (gV L)) := ⟨qUp hR, fun x => by
  rw [hr.has]
  simp only [and_true]
  rw [tab, Option.isSome_map]
  constructor
  ·intro hx
   obtain ⟨s, hs, rfl⟩ := List.mem_map.1 hx
   obtain ⟨e, he, rfl⟩ := List.mem_map.1 hs
   rw [nL, qLd hR he]; rfl
  ·intro hx
   cases hl : gL L (mkB x) with
   | none => rw [hl] at hx; cases hx
   | some y =>
    refine List.mem_map.2 ⟨mkB x, List.mem_map.2 ⟨_, qEr hl, rfl⟩, ?_⟩
    exact (qUg.1 rfl).symm⟩
 have hC2 := hC.perm hown (string_keyed hk) hk fun _ => rfl
 have hpp := hp.trans hC2.symm
 refine ⟨?_, by rw [hpp.length_eq]; simp [byL, gV]⟩
 have e1 : (ss.mergeSort fun x y => decide (x ≤ y)) = (byL (gV L)).mergeSort fun x y => decide (x ≤ y) := mergeSort_of_perm hpp
 rw [e1]
 have e2 := qQl (gV L)
 rw [← qPs (qUq hR) (List.Perm.refl _)] at e2
 have e3 := congrArg (List.map fun s : ByteArray => Value.string s) e2
 rw [List.map_map] at e3
 rw [← e3]
 exact List.map_congr_left fun x _ => rfl
end Go.Dk
namespace Go.Eng
open Go Go.RowKit Go.Maps Go.Sort Go.Dk Go.Proofs
section
variable {P : Program} {N : Nat} {all more : List Oper} {Q : rY} {g : MS} {S : HS}
theorem Good.setE {c : Ctx} {l : Env} {w : World} {ρ : Nat → Value} {xs : Nat → List Value} {v : Value} {h : HV} (G : Good c S (lk l) w ρ xs) (hr : RepH w (c.A ρ S.st) c.n0 ρ v h) (d : Nat) : Good c (S.set (some d) h) (lk (stp (some d) v l)) w ρ xs := by
 refine ⟨G.rows, G.apart, fun k x hk => ?_, G.kept, G.a0⟩
 simp only [HS.set, hlk] at hk
 simp only [stp, lk]
 by_cases e : d = k
 ·rw [if_pos e] at hk ⊢
  simp only [Option.some.injEq] at hk
  subst hk
  exact ⟨v, rfl, hr⟩
 ·rw [if_neg e] at hk ⊢; exact G.env k x hk
theorem zHh {α : Type} {f : α → Value} {L : List (ByteArray × α)} {o1 o2 : Oper} {m : Operand} {fK fS fI tM t1 t2 d1 d2 i r n kT : Nat} (nid : Nat) (hR : qFy L) (hn : n ≤ 1099511627776) (hk : P.underlying kT = some .string)
  (h1 : o1.op = .call ⟨.value (.func fK), #[m], #[t1]⟩) (h2 : o2.op = .call ⟨.value (.func fS), #[.tmp d1], #[t2]⟩) (hg1 : o1.guard = none) (hg2 : o2.guard = none) (hd1 : o1.dst = some d1) (hd2 : o2.dst = some d2) (hl1 : eF N (some d1) = true) (hl2 : eF N (some d2) = true)
  (hc1 : aD P fK = true) (hc2 : aD P fS = true)
  (hK : ∀ (b : Nat) (W : World), Calls P fK #[.map (some b)] W (fun e w' => e = .returned (.func (.func fI) #[] #[.pointer (some ⟨W.heap.size, 0, none⟩)]) ∧ w' = W.alloc (.cells #[.map (some b)] tM)))
  (hS : ∀ (b nn : Nat) (D0 : DataW Value) (w : World) (hown : w.ownsMap P kT qLh b nn D0) (hmax : Maps.size D0 ≤ maxLen) (hbytes : Maps.size D0 * 16 ≤ 140737488355328),
   Calls P fS #[.func (.func fI) #[] #[.pointer (some ⟨w.heap.size, 0, none⟩)]] (w.alloc (.cells #[.map (some b)] tM)) fun e w' => ∃ (v : Value) (ss : List (List UInt8)), e = .returned v ∧ ss.Perm (strKeys D0) ∧
    w'.ownsRow (w.alloc (.cells #[.map (some b)] tM)).heap.size kT 1 v ss.length ((ss.mergeSort (fun x y => decide (x ≤ y))).map encStr) ∧ (v = .slice none 0 0 ↔ ss = []) ∧ Below (w.alloc (.cells #[.map (some b)] tM)).heap.size (w.alloc (.cells #[.map (some b)] tM)) w')
  (hi : g[i]? = some (.map r kT n (tab f L))) (hm : hev S.env m = some (.v (.map (some r))))
  (h : HVM P N all Q more g ((((S.kill (only nid)).row nid (.sl true kT 1 (aQ (gV L)))).set (some d1) .junk).set (some d2) (.own nid))) : HVM P N all Q (o1 :: o2 :: more) g S := fun c F l w hkk I M => by
 have I0 := I
 obtain ⟨ρ, xs, G⟩ := I
 obtain ⟨vm, m1, m2⟩ := G.ev (aU _ l) hm
 have := aV m2; subst this
 obtain ⟨D, hown, hrd⟩ := M.ok i _ hi
 have hsz := hown.size_le
 have hk' : ∀ v, bD N (stp (some d1) v l) = true := fun v => iG hkk (fun k e => by cases e; exact cT hl1)
 unfold wpList
 rw [qCj I0 F hkk (by rw [hg1]; rfl), if_pos rfl]
 have hv1 : aN P l o1.op o1.type w (fun u w1 => u = .func (.func fI) #[] #[.pointer (some ⟨w.heap.size, 0, none⟩)] ∧ w1 = w.alloc (.cells #[.map (some r)] tM)) (fun u w1 => u = .func (.func fI) #[] #[.pointer (some ⟨w.heap.size, 0, none⟩)] ∧ w1 = w.alloc (.cells #[.map (some r)] tM)) := by
  rw [h1]
  unfold aN
  have e1 : evs l [m] = some [.map (some r)] := by simp only [evs, m1]
  simp only [aG, bK, e1, G.fn (aU _ _) (show fnH (hev S.env (.func fK)) = some fK from rfl)]
  exact ⟨hc1, Calls.mono (hK r w) fun e w' ⟨he, hw⟩ => by subst he; exact nV ⟨rfl, hw⟩⟩
 refine .inl (dZ ((iA (fun x X hx => rS F hkk hx) hv1).mono fun u w1 ⟨e1, e2⟩ => ?_))
 subst e1; subst e2
 rw [hd1, sC]
 -- behind the first
 have hB1 : Below w.heap.size w (w.alloc (.cells #[.map (some r)] tM)) := (Below.refl _ _).alloc (Nat.le_refl _) _
 have I1 : Inv c (S.set (some d1) (.v (.func (.func fI) #[] #[.pointer (some ⟨w.heap.size, 0, none⟩)]))) (lk (stp (some d1) (.func (.func fI) #[] #[.pointer (some ⟨w.heap.size, 0, none⟩)]) l)) (w.alloc (.cells #[.map (some r)] tM)) := InvV.set ⟨ρ, xs, G.below hB1, .v _⟩ (some d1)
 have hk1 := hk' (.func (.func fI) #[] #[.pointer (some ⟨w.heap.size, 0, none⟩)])
 generalize hl' : stp (some d1) (.func (.func fI) #[] #[.pointer (some ⟨w.heap.size, 0, none⟩)]) l = l1 at I1 hk1 ⊢
 unfold wpList
 rw [qCj I1 F hk1 (by rw [hg2]; rfl), if_pos rfl]
 have hv2 : aN P l1 o2.op o2.type (w.alloc (.cells #[.map (some r)] tM)) (fun u w2 => Own w2 w.heap.size kT 1 u L.length ((gV L).map fun s => Value.string s) ∧ Below w.heap.size w w2) (fun u w2 => Own w2 w.heap.size kT 1 u L.length ((gV L).map fun s => Value.string s) ∧ Below w.heap.size w w2) := by
  rw [h2]
  unfold aN
  have e1 : evs l1 [.tmp d1] = some [.func (.func fI) #[] #[.pointer (some ⟨w.heap.size, 0, none⟩)]] := by
   subst hl'
   simp only [evs, ev, stp, lk, if_true]
  obtain ⟨ρ1, xs1, G1⟩ := I1
  simp only [aG, bK, e1, G1.fn (aU _ _) (show fnH (hev _ (.func fS)) = some fS from rfl)]
  refine ⟨hc2, Calls.mono (hS r n D w hown (by simp only [maxLen]; omega) (by omega)) ?_⟩
  rintro e w2 ⟨v, ss, rfl, hp, hrow, hnil, hB2⟩
  obtain ⟨k1, k2⟩ := zEx hR hrd hown hk hp
  rw [k1, k2] at hrow
  refine nV ⟨⟨hrow.1, ?_⟩, hB1.trans (hB2.mono (by simp))⟩
  rcases hrow.2 with hx | ⟨g', cap, cur, a1, a2, a3⟩
  ·exact .inl hx
  ·exact .inr ⟨g', cap, cur, a1, by simp at a2; omega, a3⟩
 refine .inl (dZ ((iA (fun x X hx => rS F hk1 hx) hv2).mono fun u w2 ⟨hO, hB⟩ => ?_))
 rw [hd2, sC]
 have hk2 : bD N (stp (some d2) u l1) = true := iG hk1 (fun k e => by cases e; exact cT hl2)
 have hlk : ∀ b, u.ownBlock = some b → w.heap.size ≤ b := fun b hb => by
  rcases hO.2 with ⟨rfl, _⟩ | ⟨g', cap, cur, rfl, a2, _⟩
  ·cases hb
  ·simp only [Value.ownBlock, Option.some.injEq] at hb; subst hb; exact a2
 have Gn := G.new nid (.sl true kT 1 (aQ (gV L))) ((gV L).map fun s => Value.string s) u hB hlk (fun _ _ => by
  have hlen : (aQ (gV L)).length = L.length := by simp [aQ, gV]
  refine ⟨?_, ⟨fun x hx => ?_, fun a q ha hq => ?_⟩, fun b hb => ?_⟩
  ·rw [aF]
   show Own w2 0 kT 1 u (aQ (gV L)).length _
   rw [hlen]
   refine ⟨hO.1, ?_⟩
   rcases hO.2 with hx | ⟨g', cap, cur, a1, a2, a3⟩
   ·exact .inl hx
   ·exact .inr ⟨g', cap, cur, a1, Nat.zero_le _, a3⟩
  ·obtain ⟨s, _, rfl⟩ := List.mem_map.1 hx; rfl
  ·have ha' : a < (gV L).length := by simpa [aQ] using ha
   have hg : (aQ (gV L))[a] = [FV.v (.string (gV L)[a])] := by simp [aQ, xD]
   have hq0 : q = 0 := by simp only [hg, List.length_cons, List.length_nil] at hq; omega
   subst hq0
   refine ⟨.string (gV L)[a], by simp [ha'], rfl, ?_⟩
   simp only [hg, List.getElem_cons_zero]
   exact .v _
  ·rw [aF] at hb
   have := hlk b hb
   have hw0 := G.kept.size
   have := c.hn
   exact ⟨.inl (by omega), fun _ => by omega⟩)
 subst hl'
 have Ga := Gn.setE (v := .func (.func fI) #[] #[.pointer (some ⟨w.heap.size, 0, none⟩)]) (.junk _) d1
 have ro : RepH w2 (c.A (dW ρ nid u) ((((S.kill (only nid)).row nid (.sl true kT 1 (aQ (gV L)))).set (some d1) .junk)).st) c.n0 (dW ρ nid u) u (.own nid) := by
  have := RepH.own (w := w2) (A := c.A (dW ρ nid u) ((((S.kill (only nid)).row nid (.sl true kT 1 (aQ (gV L)))).set (some d1) .junk)).st) (n0 := c.n0) (ρ := dW ρ nid u) nid (by
   rw [aF]
   rcases hO.2 with ⟨rfl, _⟩ | ⟨g', cap, cur, rfl, _⟩ <;> rfl)
  rw [aF] at this
  exact this
 have Gb := Ga.setE ro d2
 exact h c F _ _ hk2 ⟨_, _, Gb⟩ (M.block fun b hb _ => hB.block b hb.lt)
end
end Go.Eng
