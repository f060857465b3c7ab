/-
  A call of a disk leaves all other paths ay they are: plain.
-/
import Derived.Test.YtojolcpblacjjaaGreatDoorTrC
import Derived.Sort.KeysCollected
import Derived.Sort.Walk0
import Derived.Test.YtojolcpblacjjaaGreatDoorMt
import Derived.Test.YtojolcpblacjjaaGreatDoorDk
import Derived.Test.YtojolcpblacjjaaGreatDoorDkI
section
set_option linter.unusedSimpArgs false
set_option linter.unusedVariables false
namespace Go.Tr
open Go Go.Sort Go.Proofs
def qWf (out : List ByteArray) (s : ByteArray) : List ByteArray := out.takeWhile (fun x => !blt s x) ++ s :: out.dropWhile (fun x => !blt s x)
def qAe (l : List ByteArray) : List ByteArray := l.foldl qWf []
def rC (t : List ByteArray) : Prop := t.Pairwise fun x y => blt y x = false
theorem zAp {a b c : ByteArray} (h1 : blt b a = false) (h2 : blt c b = false) : blt c a = false := by
 cases e : blt c a with
 | false => rfl
 | true =>
  rcases qFu a b with h | h | h
  ·rw [tL e h] at h2; cases h2
  ·rw [← h, e] at h2; cases h2
  ·rw [h] at h1; cases h1
theorem qWe {s : ByteArray} : ∀ {out : List ByteArray}, rC out → rC (qWf out s) := by
 intro out h
 unfold qWf
 induction out with
 | nil => simp [rC]
 | cons x r ih =>
  obtain ⟨hx, hr⟩ := List.pairwise_cons.1 h
  cases hb : blt s x with
  | false =>
   simp only [List.takeWhile_cons, List.dropWhile_cons, hb, Bool.not_false, if_true, List.cons_append]
   refine List.pairwise_cons.2 ⟨fun y hy => ?_, ih hr⟩
   rcases List.mem_append.1 hy with hy | hy
   ·exact hx y ((List.takeWhile_sublist _).subset hy)
   ·rcases List.mem_cons.1 hy with rfl | hy
    ·exact hb
    ·exact hx y ((List.dropWhile_sublist _).subset hy)
  | true =>
   simp only [List.takeWhile_cons, List.dropWhile_cons, hb, Bool.not_true, Bool.false_eq_true, if_false, List.nil_append]
   refine List.pairwise_cons.2 ⟨fun y hy => ?_, h⟩
   rcases List.mem_cons.1 hy with rfl | hy
   ·exact nG hb
   ·exact zAp (nG hb) (hx y hy)
theorem zA2 (out : List ByteArray) (s : ByteArray) : (qWf out s).Perm (s :: out) := by
 unfold qWf
 refine List.perm_middle.trans (List.Perm.cons s ?_)
 rw [List.takeWhile_append_dropWhile]
theorem qFe : ∀ (t out : List ByteArray), rC out → rC (t.foldl qWf out)
 | [], out, h => h
 | e :: t, out, h => by rw [List.foldl_cons]; exact qFe t _ (qWe h)
theorem qK3 : ∀ (t out : List ByteArray), (t.foldl qWf out).Perm (out ++ t)
 | [], out => by simp
 | e :: t, out => by
  rw [List.foldl_cons]
  refine (qK3 t _).trans ?_
  refine (List.Perm.append_right t (zA2 out e)).trans ?_
  exact (List.perm_middle (l₁ := out)).symm
theorem qRu (t : List ByteArray) : rC (qAe t) := qFe t [] .nil
theorem qGg (t : List ByteArray) : (qAe t).Perm t := qK3 t []
theorem qZ4 (t : List ByteArray) : (qAe t).length = t.length := (qGg t).length_eq
theorem qGh {l X : List ByteArray} (h : rC X) (hp : X.Perm l) : X = qAe l := by
 refine List.Perm.eq_of_pairwise (le := fun x y : ByteArray => blt y x = false) (fun a b ha hb h1 h2 => ?_) h (qRu l) (hp.trans (qGg l).symm)
 rcases qFu a b with h | h | h
 ·rw [h] at h2; cases h2
 ·exact h
 ·rw [h] at h1; cases h1
def byL (l : List ByteArray) : List (List UInt8) := l.map fun s => s.data.toList
theorem zFi (l : List ByteArray) : (byL l).map (fun x => (⟨x.toArray⟩ : ByteArray)) = l := by
 unfold byL
 rw [List.map_map]
 conv => rhs; rw [← List.map_id l]
 exact List.map_congr_left fun s _ => rfl
theorem qEp (l : List ByteArray) : ((byL l).mergeSort fun x y => decide (x ≤ y)).map (fun x => (⟨x.toArray⟩ : ByteArray)) = qAe l := by
 refine qGh ?_ ?_
 ·unfold rC
  rw [List.pairwise_map]
  have h := List.pairwise_mergeSort (le := fun x y : List UInt8 => decide (x ≤ y)) (fun a b c h1 h2 => by
   simp only [decide_eq_true_eq] at *; exact List.le_trans h1 h2) (fun a b => by
   simp only [Bool.or_eq_true, decide_eq_true_eq]; exact List.le_total a b) (byL l)
  refine h.imp fun {a b} hab => ?_
  simp only [decide_eq_true_eq] at hab
  rw [blt, Lib.toList_data, Lib.toList_data, bytesLess_eq, decide_eq_false_iff_not]
  exact List.not_lt.2 hab
 ·have := (List.mergeSort_perm (byL l) fun x y => decide (x ≤ y)).map (fun x => (⟨x.toArray⟩ : ByteArray))
  rwa [zFi] at this
end Go.Tr
end
section
set_option linter.unusedSimpArgs false
set_option linter.unusedVariables false
namespace Go.Dk
open Go Go.Tr Go.Eng Go.RowKit Go.Maps Go.Sort Go.Proofs
def dC {α : Type} (L : List (ByteArray × α)) : List ByteArray := L.map (·.1)
theorem qWc {α : Type} {L : List (ByteArray × α)} (h : gW L) : rC (dC L) := by
 unfold rC dC
 rw [List.pairwise_map]
 exact h.imp fun {a b} hab => by
  cases e : blt b.1 a.1 with
  | false => rfl
  | true => have := tL hab e; rw [lE] at this; cases this
theorem qWb {α : Type} {L : List (ByteArray × α)} (h : gW L) : (byL (dC L)).Nodup := by
 unfold byL dC
 rw [List.map_map]
 refine List.pairwise_map.2 (h.imp fun {a b} hab e => ?_)
 have : a.1 = b.1 := qLc e
 rw [this, lE] at hab; cases hab
theorem zDc {α : Type} {f : α → Value} {L : List (ByteArray × α)} {P : Program} {k : TypeId} {w : World} {b n : Nat} {D : DataW Value} (hR : gW L) (hr : Reads D (tab f L)) (hown : w.ownsMap P k qCn b n D) (hk : P.underlying k = some .string)
  {ss : List (List UInt8)} (hp : ss.Perm (strKeys D)) : (ss.mergeSort fun x y => decide (x ≤ y)).map encStr = (dC L).map (fun s => Value.string s) ∧ ss.length = L.length := by
 have hC : Collected D (fun _ => false) (byL (dC L)) := ⟨qWb hR, fun x => by
  rw [hr.has]
  simp only [and_true]
  rw [tab, Option.isSome_map]
  constructor
  ·intro hx
   obtain ⟨s, hs, rfl⟩ := List.mem_map.1 hx
   obtain ⟨e, he, rfl⟩ := List.mem_map.1 hs
   rw [gQ, nB hR he]; rfl
  ·intro hx
   cases hl : bC L (mkB x) with
   | none => rw [hl] at hx; cases hx
   | some y =>
    refine List.mem_map.2 ⟨mkB x, List.mem_map.2 ⟨_, jL hl, rfl⟩, ?_⟩
    exact (qHp.1 rfl).symm⟩
 have hC2 := hC.perm hown (string_keyed hk) hk fun _ => rfl
 have hpp := hp.trans hC2.symm
 refine ⟨?_, by rw [hpp.length_eq]; simp [byL, dC]⟩
 have e1 : (ss.mergeSort fun x y => decide (x ≤ y)) = (byL (dC L)).mergeSort fun x y => decide (x ≤ y) := mergeSort_of_perm hpp
 rw [e1]
 have e2 := qEp (dC L)
 rw [← qGh (qWc hR) (List.Perm.refl _)] at e2
 have e3 := congrArg (List.map fun s : ByteArray => Value.string s) e2
 rw [List.map_map] at e3
 rw [← e3]
 exact List.map_congr_left fun x _ => rfl
end Go.Dk
namespace Go.Eng
open Go Go.RowKit Go.Maps Go.Sort Go.Dk Go.Proofs
section
variable {P : Program} {N : Nat} {all more : List Oper} {Q : kK} {g : MS} {S : HS}
theorem Good.setE {c : Ctx} {l : Env} {w : World} {ρ : Nat → Value} {xs : Nat → List Value} {v : Value} {h : HV} (G : Good c S (lk l) w ρ xs) (hr : RepH w (c.A ρ S.st) c.n0 ρ v h) (d : Nat) : Good c (S.set (some d) h) (lk (stp (some d) v l)) w ρ xs := by
 refine ⟨G.rows, G.apart, fun k x hk => ?_, G.kept, G.a0⟩
 simp only [HS.set, hlk] at hk
 simp only [stp, lk]
 by_cases e : d = k
 ·rw [if_pos e] at hk ⊢
  simp only [Option.some.injEq] at hk
  subst hk
  exact ⟨v, rfl, hr⟩
 ·rw [if_neg e] at hk ⊢; exact G.env k x hk
theorem zFq {α : Type} {f : α → Value} {L : List (ByteArray × α)} {o1 o2 : Oper} {m : Operand} {fK fS fI tM t1 t2 d1 d2 i r n kT : Nat} (nid : Nat) (hR : gW L) (hn : n ≤ 1099511627776) (hk : P.underlying kT = some .string)
  (h1 : o1.op = .call ⟨.value (.func fK), #[m], #[t1]⟩) (h2 : o2.op = .call ⟨.value (.func fS), #[.tmp d1], #[t2]⟩) (hg1 : o1.guard = none) (hg2 : o2.guard = none) (hd1 : o1.dst = some d1) (hd2 : o2.dst = some d2) (hl1 : dP N (some d1) = true) (hl2 : dP N (some d2) = true)
  (hc1 : aJ P fK = true) (hc2 : aJ P fS = true)
  (hK : ∀ (b : Nat) (W : World), Calls P fK #[.map (some b)] W (fun e w' => e = .returned (.func (.func fI) #[] #[.pointer (some ⟨W.heap.size, 0, none⟩)]) ∧ w' = W.alloc (.cells #[.map (some b)] tM)))
  (hS : ∀ (b nn : Nat) (D0 : DataW Value) (w : World) (hown : w.ownsMap P kT qCn b nn D0) (hmax : Maps.size D0 ≤ maxLen) (hbytes : Maps.size D0 * 16 ≤ 140737488355328),
   Calls P fS #[.func (.func fI) #[] #[.pointer (some ⟨w.heap.size, 0, none⟩)]] (w.alloc (.cells #[.map (some b)] tM)) fun e w' => ∃ (v : Value) (ss : List (List UInt8)), e = .returned v ∧ ss.Perm (strKeys D0) ∧
    w'.ownsRow (w.alloc (.cells #[.map (some b)] tM)).heap.size kT 1 v ss.length ((ss.mergeSort (fun x y => decide (x ≤ y))).map encStr) ∧ (v = .slice none 0 0 ↔ ss = []) ∧ Below (w.alloc (.cells #[.map (some b)] tM)).heap.size (w.alloc (.cells #[.map (some b)] tM)) w')
  (hi : g[i]? = some (.map r kT n (tab f L))) (hm : hev S.env m = some (.v (.map (some r))))
  (h : HVM P N all Q more g ((((S.kill (only nid)).row nid (.sl true kT 1 (cR (dC L)))).set (some d1) .junk).set (some d2) (.own nid))) : HVM P N all Q (o1 :: o2 :: more) g S := fun c F l w hkk I M => by
 have I0 := I
 obtain ⟨ρ, xs, G⟩ := I
 obtain ⟨vm, m1, m2⟩ := G.ev (bN _ l) hm
 have := bS m2; subst this
 obtain ⟨D, hown, hrd⟩ := M.ok i _ hi
 have hsz := hown.size_le
 have hk' : ∀ v, bZ N (stp (some d1) v l) = true := fun v => eP hkk (fun k e => by cases e; exact eJ hl1)
 unfold wpList
 rw [pK I0 F hkk (by rw [hg1]; rfl), if_pos rfl]
 have hv1 : bM P l o1.op o1.type w (fun u w1 => u = .func (.func fI) #[] #[.pointer (some ⟨w.heap.size, 0, none⟩)] ∧ w1 = w.alloc (.cells #[.map (some r)] tM)) (fun u w1 => u = .func (.func fI) #[] #[.pointer (some ⟨w.heap.size, 0, none⟩)] ∧ w1 = w.alloc (.cells #[.map (some r)] tM)) := by
  rw [h1]
  unfold bM
  have e1 : evs l [m] = some [.map (some r)] := by simp only [evs, m1]
  simp only [aV, cD, e1, G.fn (bN _ _) (show fnH (hev S.env (.func fK)) = some fK from rfl)]
  exact ⟨hc1, Calls.mono (hK r w) fun e w' ⟨he, hw⟩ => by subst he; exact qDc ⟨rfl, hw⟩⟩
 refine .inl (dA ((gE (fun x X hx => lD F hkk hx) hv1).mono fun u w1 ⟨e1, e2⟩ => ?_))
 subst e1; subst e2
 rw [hd1, mC]
 -- behind the first
 have hB1 : Below w.heap.size w (w.alloc (.cells #[.map (some r)] tM)) := (Below.refl _ _).alloc (Nat.le_refl _) _
 have I1 : Inv c (S.set (some d1) (.v (.func (.func fI) #[] #[.pointer (some ⟨w.heap.size, 0, none⟩)]))) (lk (stp (some d1) (.func (.func fI) #[] #[.pointer (some ⟨w.heap.size, 0, none⟩)]) l)) (w.alloc (.cells #[.map (some r)] tM)) := InvV.set ⟨ρ, xs, G.below hB1, .v _⟩ (some d1)
 have hk1 := hk' (.func (.func fI) #[] #[.pointer (some ⟨w.heap.size, 0, none⟩)])
 generalize hl' : stp (some d1) (.func (.func fI) #[] #[.pointer (some ⟨w.heap.size, 0, none⟩)]) l = l1 at I1 hk1 ⊢
 unfold wpList
 rw [pK I1 F hk1 (by rw [hg2]; rfl), if_pos rfl]
 have hv2 : bM P l1 o2.op o2.type (w.alloc (.cells #[.map (some r)] tM)) (fun u w2 => Own w2 w.heap.size kT 1 u L.length ((dC L).map fun s => Value.string s) ∧ Below w.heap.size w w2) (fun u w2 => Own w2 w.heap.size kT 1 u L.length ((dC L).map fun s => Value.string s) ∧ Below w.heap.size w w2) := by
  rw [h2]
  unfold bM
  have e1 : evs l1 [.tmp d1] = some [.func (.func fI) #[] #[.pointer (some ⟨w.heap.size, 0, none⟩)]] := by
   subst hl'
   simp only [evs, ev, stp, lk, if_true]
  obtain ⟨ρ1, xs1, G1⟩ := I1
  simp only [aV, cD, e1, G1.fn (bN _ _) (show fnH (hev _ (.func fS)) = some fS from rfl)]
  refine ⟨hc2, Calls.mono (hS r n D w hown (by simp only [maxLen]; omega) (by omega)) ?_⟩
  rintro e w2 ⟨v, ss, rfl, hp, hrow, hnil, hB2⟩
  obtain ⟨k1, k2⟩ := zDc hR hrd hown hk hp
  rw [k1, k2] at hrow
  refine qDc ⟨⟨hrow.1, ?_⟩, hB1.trans (hB2.mono (by simp))⟩
  rcases hrow.2 with hx | ⟨g', cap, cur, a1, a2, a3⟩
  ·exact .inl hx
  ·exact .inr ⟨g', cap, cur, a1, by simp at a2; omega, a3⟩
 refine .inl (dA ((gE (fun x X hx => lD F hk1 hx) hv2).mono fun u w2 ⟨hO, hB⟩ => ?_))
 rw [hd2, mC]
 have hk2 : bZ N (stp (some d2) u l1) = true := eP hk1 (fun k e => by cases e; exact eJ hl2)
 have hlk : ∀ b, u.ownBlock = some b → w.heap.size ≤ b := fun b hb => by
  rcases hO.2 with ⟨rfl, _⟩ | ⟨g', cap, cur, rfl, a2, _⟩
  ·cases hb
  ·simp only [Value.ownBlock, Option.some.injEq] at hb; subst hb; exact a2
 have Gn := G.new nid (.sl true kT 1 (cR (dC L))) ((dC L).map fun s => Value.string s) u hB hlk (fun _ _ => by
  have hlen : (cR (dC L)).length = L.length := by simp [cR, dC]
  refine ⟨?_, ⟨fun x hx => ?_, fun a q ha hq => ?_⟩, fun b hb => ?_⟩
  ·rw [bH]
   show Own w2 0 kT 1 u (cR (dC L)).length _
   rw [hlen]
   refine ⟨hO.1, ?_⟩
   rcases hO.2 with hx | ⟨g', cap, cur, a1, a2, a3⟩
   ·exact .inl hx
   ·exact .inr ⟨g', cap, cur, a1, Nat.zero_le _, a3⟩
  ·obtain ⟨s, _, rfl⟩ := List.mem_map.1 hx; rfl
  ·have ha' : a < (dC L).length := by simpa [cR] using ha
   have hg : (cR (dC L))[a] = [FV.v (.string (dC L)[a])] := by simp [cR, qQc]
   have hq0 : q = 0 := by simp only [hg, List.length_cons, List.length_nil] at hq; omega
   subst hq0
   refine ⟨.string (dC L)[a], by simp [ha'], rfl, ?_⟩
   simp only [hg, List.getElem_cons_zero]
   exact .v _
  ·rw [bH] at hb
   have := hlk b hb
   have hw0 := G.kept.size
   have := c.hn
   exact ⟨.inl (by omega), fun _ => by omega⟩)
 subst hl'
 have Ga := Gn.setE (v := .func (.func fI) #[] #[.pointer (some ⟨w.heap.size, 0, none⟩)]) (.junk _) d1
 have ro : RepH w2 (c.A (gM ρ nid u) ((((S.kill (only nid)).row nid (.sl true kT 1 (cR (dC L)))).set (some d1) .junk)).st) c.n0 (gM ρ nid u) u (.own nid) := by
  have := RepH.own (w := w2) (A := c.A (gM ρ nid u) ((((S.kill (only nid)).row nid (.sl true kT 1 (cR (dC L)))).set (some d1) .junk)).st) (n0 := c.n0) (ρ := gM ρ nid u) nid (by
   rw [bH]
   rcases hO.2 with ⟨rfl, _⟩ | ⟨g', cap, cur, rfl, _⟩ <;> rfl)
  rw [bH] at this
  exact this
 have Gb := Ga.setE ro d2
 exact h c F _ _ hk2 ⟨_, _, Gb⟩ (M.block fun b hb _ => hB.block b hb.lt)
end
end Go.Eng
end
section
set_option linter.unusedSimpArgs false
set_option linter.unusedVariables false
namespace Go.Dk
open Go Go.Tr Go.Eng
def zC2 (x k : Int) (s : Nat) : Int := IntKind.u64.wrap (bits .xor .u64 x (x.fdiv (2 ^ min s IntKind.u64.bits)) * k)
def qDi (a b : Int) : Int :=
 let z := zC2 (zC2 (IntKind.u64.wrap (a + IntKind.u64.wrap (b * 11400714819323198485))) 13787848793156543929 30) 10723151780598845931 27
 bits .xor .u64 z (z.fdiv (2 ^ min 31 IntKind.u64.bits))
theorem qM2 (a b : Int) : 0 ≤ qDi a b ∧ qDi a b < 18446744073709551616 := by
 unfold qDi
 generalize zC2 _ _ _ = z
 generalize z.fdiv _ = y
 show 0 ≤ IntKind.u64.wrap _ ∧ IntKind.u64.wrap _ < _
 rw [IntKind.wrap_u64]
 omega
def xE (pick : Int) (x : Itm) : ByteArray :=
 if x.anew = true then (if 0 < pick.tmod ((x.data.size : Int) + 2) then x.data.extract 0 (pick.tmod ((x.data.size : Int) + 2) - 1).toNat else x.kept)
 else x.data.extract 0 ((x.kept.size : Int) + pick.tmod ((x.data.size : Int) - x.kept.size + 1)).toNat
def qCc (pick : Int) (x : Itm) : Itm := { x with kept := xE pick x, data := xE pick x, loose := false, anew := false }
def gA (loss : Int) : List ByteArray → Int → Dk → Dk
 | [], _, d => d
 | p :: r, n, d => if (aQ d p).loose = true then gA loss r (n + 1) (iY d p (qCc (qDi (IntKind.u64.wrap loss) (IntKind.u64.wrap (n + 1))) (aQ d p))) else gA loss r n d
def restart (d : Dk) (loss : Int) : Dk := { gA loss (dC d.L) 0 d with down := false, armed := -1 }
def LoI (x : Itm) : Prop := x.kept.size ≤ 2097152 ∧ x.data.size ≤ 2097152 ∧ (x.anew = false → x.kept.size ≤ x.data.size)
def Lo (d : Dk) : Prop := ∀ p, LoI (aQ d p)
theorem qLd {pick : Int} {x : Itm} (h : LoI x) : (xE pick x).size ≤ 2097152 := by
 obtain ⟨h1, h2, h3⟩ := h
 unfold xE
 split
 ·split
  ·rw [ByteArray.size_extract]; omega
  ·exact h1
 ·rw [ByteArray.size_extract]; omega
theorem qX1 {pick : Int} {x : Itm} (h : LoI x) : LoI (qCc pick x) := ⟨qLd h, qLd h, fun _ => Nat.le_refl _⟩
theorem zC4 {d : Dk} (h : Lo d) {p : ByteArray} {x : Itm} (hx : LoI x) : Lo (iY d p x) := fun q => by
 rw [qSz]
 split
 ·exact hx
 ·exact h q
theorem zGh {d : Dk} {B C : Int} (h : d.Ok B) (hC : 1 ≤ C) {p : ByteArray} {x : Itm} (hp : p.size ≤ 1048576) (hx : (x.data.size : Int) ≤ (aQ d p).data.size + C) : (iY d p x).Ok (B + C) := by
 have h1 := h.steps
 have h2 := h.stamps
 have h3 := h.armed
 have h4 := h.size
 have h5 := h.n
 have h6 := h.m
 have ht := qW0 p { x with stamp := d.stamps + 1 } h.rise
 refine ⟨vL _ _ h.rise, fun e he => ?_, ?_, by show ((d.n + 1 : Nat) : Int) ≤ _; omega, by show (d.m : Int) ≤ _; omega, by show 0 ≤ d.steps ∧ d.steps ≤ _; omega, by show 0 ≤ d.stamps + 1 ∧ d.stamps + 1 ≤ _; omega, h3⟩
 ·rcases qCb he with rfl | he
  ·exact hp
  ·exact h.keys e he
 ·show tot (put p _ d.L) ≤ _
  rw [ht]
  have : ((bC d.L p).getD itm0).data.size = (aQ d p).data.size := rfl
  rw [this]
  show tot d.L + (x.data.size : Int) - _ ≤ _
  omega
end Go.Dk
end
section
set_option linter.unusedSimpArgs false
set_option linter.unusedVariables false
set_option maxRecDepth 20000
namespace Go.Proofs.YtojolcpblacjjaaGreatDoor
open Go Go.Eng Go.RowKit Go.Tr Go.Dk
def mF (d : Dk) (p : ByteArray) : List ByteArray := (d.L.filter fun e => decide (par e.1 = p)).map fun e => e.1
def cW (d : Dk) (p : ByteArray) : Int × Dk :=
 if may d p 0 ≠ 0 then (may d p 0, d) else if has d p = false then (11, d) else if mF d p ≠ [] then (12, d) else if (aS d).1 ≠ 0 then aS d else
  (0, { (aS d).2 with L := del p d.L })
def qQd (d : Dk) (p : ByteArray) : Int := (aQ d p).stamp
def uB (f : ByteArray → ByteArray) (d : Dk) (p : ByteArray) : Int × Dk :=
 if fE d p ≠ 0 then (fE d p, d) else (0, iY d p { aQ d p with data := f (aQ d p).data, kept := f (aQ d p).kept })
end Go.Proofs.YtojolcpblacjjaaGreatDoor
end
