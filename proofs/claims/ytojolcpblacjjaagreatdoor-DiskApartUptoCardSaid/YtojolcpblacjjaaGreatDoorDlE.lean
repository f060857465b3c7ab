/-
  The disk's calls: List.
-/
import Derived.Test.YtojolcpblacjjaaGreatDoorSrK
import Derived.Test.YtojolcpblacjjaaGreatDoorItq
import Derived.Test.YtojolcpblacjjaaGreatDoorTrC
import Derived.Test.YtojolcpblacjjaaGreatDoorTyY
import Derived.Sort.OwnSorted
import Derived.Sort.Walk0
section
set_option linter.unusedSimpArgs false
set_option linter.unusedVariables false
set_option maxRecDepth 20000
namespace Go.Tr
open Go Go.Eng Go.RowKit Go.Proofs Go.Sort
end Go.Tr
namespace Go.Proofs.YtojolcpblacjjaaGreatDoor
open Go Go.Eng Go.RowKit Go.Tr Go.Lib Go.Sort Go.Proofs
def qD9 (l : List ByteArray) : List (List Value) := l.map fun s => [Value.string s]
theorem qQb (l : List ByteArray) : Uni 1 (qD9 l) := ⟨fun x hx => by obtain ⟨s, -, rfl⟩ := List.mem_map.1 hx; rfl, fun x hx v hv => by
 obtain ⟨s, -, rfl⟩ := List.mem_map.1 hx
 simp only [List.mem_singleton] at hv
 subst hv; rfl⟩
theorem qD7 (l : List ByteArray) : pln (qD9 l) = dD l := by simp [pln, qD9, dD, qQc]
theorem qKf (l : List ByteArray) : (qD9 l).flatten = (byL l).map encStr := by
 induction l with
 | nil => rfl
 | cons s r ih => simp only [qD9, List.map_cons, List.flatten_cons, List.singleton_append, byL] at *; rw [ih]
theorem qD8 (l : List ByteArray) : (qD9 l).length = l.length := by simp [qD9]
theorem qAe (l : List ByteArray) : (byL l).length = l.length := by simp [byL]
theorem zA0 {S : HS} {id : Nat} {nw : Bool} {l : List ByteArray} (hl : l.length ≤ 4194304) {K : HV → HS → Prop} (hr : rlk S.st id = some (.sl nw 9 1 (dD l))) (hK : K (.v (.tuple #[])) ⟨S.env, fX id (.sl nw 9 1 (dD (tZ l))) S.st⟩) :
  HAt Tryz.prog 69 [.own id] S K :=
 ⟨zLn, fun c look w ρ xs vs G R => by
  obtain ⟨R1, R2⟩ := R
  match vs, R1 with
  | [v0], _ =>
  have r0 := R2 0 (by simp) (by simp)
  simp only [List.getElem_cons_zero] at r0
  cases r0
  by_cases h0 : l = []
  ·subst h0
   obtain ⟨o1, o2, o3⟩ := dC G hr
   obtain ⟨ad, cap, e0⟩ := mH o1
   have e0' : ρ id = .slice ad 0 cap := e0
   rw [e0']
   refine Calls.mono (Any.slices_Sort_string_none Tryz.sortS ad cap w) ?_
   rintro e w' ⟨rfl, rfl⟩
   exact qAt ⟨_, _, hK, ρ, xs, G.same hr, .v _⟩
  ·have hpos := List.length_pos_iff.2 h0
   obtain ⟨g, cap, cur, e0, b1, b2, b3, b4, b5⟩ := zE2 G (qQb l) (by decide) (by rw [qD7]; exact hr) (by rw [qD8]; exact hpos)
   rw [qD8] at e0 b2 b5
   rw [qKf, Nat.mul_one] at b5
   rw [Nat.mul_one] at b4
   rw [e0]
   have hb : w.heap[g]? = some (.cells cur 9 (0, 0)) := b1
   have hH : Holds encStr w g 0 (byL l).toArray := holds_of_block hb (by rw [qAe]; exact b5)
   have hcon := Any.slices_Sort_string Tryz.sortS g 0 cap (byL l) w hH b1.lt (by rw [qAe]; omega)
   rw [qAe] at hcon
   refine Calls.mono hcon ?_
   rintro e w' ⟨rfl, n, os, rfl⟩
   have hg := grownBy_sorted (w := w) (g := g) (n := n) (os := os) ((byL l).mergeSort fun x y => decide (x ≤ y)).toArray
   have ho := ownsRow_sorted (w := w) (base := 0) (n := n) (os := os) (ss := byL l) (ts := (byL l).mergeSort fun x y => decide (x ≤ y)) (by simp) (Nat.zero_le g) hb (by rw [qAe]; exact b2) b3 (by rw [b4, Nat.mul_one])
   have hf : ((byL l).mergeSort fun x y => decide (x ≤ y)).map encStr = (qD9 (tZ l)).flatten := by
    rw [← qCt, qKf]
    generalize (byL l).mergeSort (fun x y => decide (x ≤ y)) = z
    unfold byL
    rw [List.map_map, List.map_map]
    exact List.map_congr_left fun s _ => rfl
   rw [qAe, hf] at ho
   have hc : l.length = (qD9 (tZ l)).length := by rw [qD8, qY0]
   have G2 := G.turnP (id := id) (ty := 9) (sz := 1) (nw := nw) (cs0 := qD9 l) (cs := qD9 (tZ l)) (qQb _) (by rw [qD7]; exact hr) (by rw [← hc]; exact e0) (w' := grow (putRow encStr (Sort.ahead w n) g 0 ((byL l).mergeSort fun x y => decide (x ≤ y)).toArray) os) (by rw [e0, ← hc]; exact ho) hg.os hg.tape hg.output hg.size (fun b hlt hne => hg.block b hlt fun e => hne (Option.some.inj e))
   rw [qD7] at G2
   exact qAt ⟨_, _, hK, ρ, _, G2, .v _⟩⟩
end Go.Proofs.YtojolcpblacjjaaGreatDoor
end
section
set_option linter.unusedSimpArgs false
set_option linter.unusedVariables false
set_option maxRecDepth 20000
namespace Go.Proofs.YtojolcpblacjjaaGreatDoor
open Go Go.Eng Go.RowKit Go.Tr Go.Dk
structure LiI (L : List (ByteArray × Itm)) (p : ByteArray) (left : List UInt8 → Bool) (os : List ByteArray) : Prop where
 nd : os.Nodup
 iff : ∀ s, s ∈ os ↔ (aT L s).isSome = true ∧ left s.data.toList = false ∧ par s = p
theorem qWu {q s : ByteArray} (h : q ≠ s) : (q.data.toList == s.data.toList) = false := by
 rw [beq_eq_false_iff_ne]
 intro e
 exact h (by rw [← gC q, e, gC])
theorem LiI.skip {L : List (ByteArray × Itm)} {p s : ByteArray} {left : List UInt8 → Bool} {os : List ByteArray} (h : LiI L p left os) (hn : par s ≠ p) : LiI L p (fun q => left q && !(q == s.data.toList)) os :=
 ⟨h.nd, fun q => by
  rw [h.iff q]
  by_cases hq : q = s
  ·subst hq; exact ⟨fun a => absurd a.2.2 hn, fun a => absurd a.2.2 hn⟩
  ·simp only [qWu hq, Bool.not_false, Bool.and_true]⟩
theorem LiI.push {L : List (ByteArray × Itm)} {p s : ByteArray} {left : List UInt8 → Bool} {os : List ByteArray} {x : Itm} (h : LiI L p left os) (hx : aT L s = some x) (hl : left s.data.toList = true) (hp : par s = p) : LiI L p (fun q => left q && !(q == s.data.toList)) (os ++ [s]) := by
 have hno : s ∉ os := fun hm => by
  have := ((h.iff s).1 hm).2.1
  rw [hl] at this
  cases this
 refine ⟨?_, fun q => ?_⟩
 ·rw [List.nodup_append]
  exact ⟨h.nd, by simp, fun a ha b hb => by
   rw [List.mem_singleton] at hb
   subst hb
   intro e
   subst e
   exact hno ha⟩
 ·rw [List.mem_append, List.mem_singleton, h.iff q]
  by_cases hq : q = s
  ·subst hq; simp [hx, hp]
  ·simp only [qWu hq, Bool.not_false, Bool.and_true, hq, or_false]
theorem zD9 (s : ByteArray) : ∀ (L : List (ByteArray × Itm)), (del s L).length ≤ L.length
 | [] => Nat.le_refl _
 | (k, x) :: r => by
  have := zD9 s r
  rw [del]
  split <;> simp only [List.length_cons] <;> omega
theorem zD8 (s : ByteArray) : ∀ (L : List (ByteArray × Itm)), (aT L s).isSome = true → (del s L).length + 1 ≤ L.length
 | [], h => by cases h
 | (k, x) :: r, h => by
  have h1 := zD9 s r
  have h2 := zD8 s r
  rw [aT] at h
  rw [del]
  split <;> rename_i hk
  ·simp only [List.length_cons]; omega
  ·rw [if_neg hk] at h
   have := h2 h
   simp only [List.length_cons]; omega
theorem qWq : ∀ (os : List ByteArray) (L : List (ByteArray × Itm)), os.Nodup → (∀ s ∈ os, (aT L s).isSome = true) → os.length ≤ L.length
 | [], _, _, _ => Nat.zero_le _
 | s :: r, L, hn, h => by
  rw [List.nodup_cons] at hn
  have h1 := qWq r (del s L) hn.2 fun q hq => by
   have hqs : q ≠ s := fun e => hn.1 (e ▸ hq)
   rw [mL, if_neg hqs]
   exact h q (List.mem_cons_of_mem _ hq)
  have h2 := zD8 s L (h s (List.mem_cons_self ..))
  simp only [List.length_cons]
  omega
theorem LiI.len {L : List (ByteArray × Itm)} {p : ByteArray} {left : List UInt8 → Bool} {os : List ByteArray} (h : LiI L p left os) : os.length ≤ L.length := qWq os L h.nd fun s hs => ((h.iff s).1 hs).1
theorem qUx {L : List (ByteArray × Itm)} (hr : gJ L) (p : ByteArray) : ((L.filter fun e => decide (par e.1 = p)).map fun e => e.1).Pairwise fun a b => blt a b = true := by
 rw [List.pairwise_map]
 exact List.Pairwise.filter _ hr
theorem zFi {L : List (ByteArray × Itm)} {p : ByteArray} {left : List UInt8 → Bool} {os : List ByteArray} (hr : gJ L) (h : LiI L p left os) (hz : ∀ s, left s = false) : tZ os = (L.filter fun e => decide (par e.1 = p)).map fun e => e.1 := by
 have h1 := qUx hr p
 refine (qEj (h1.imp fun {a b} h => ?_) ?_).symm
 ·exact lY h
 ·refine (List.perm_ext_iff_of_nodup (h1.imp fun {a b} h e => ?_) h.nd).2 fun q => ?_
  ·subst e
   have := lY h
   rw [h] at this
   cases this
  ·rw [h.iff q]
   simp only [List.mem_map, List.mem_filter, decide_eq_true_eq, hz, true_and]
   constructor
   ·rintro ⟨⟨k, x⟩, ⟨hm, hp⟩, rfl⟩
    exact ⟨by rw [lT hr hm]; rfl, hp⟩
   ·rintro ⟨hs, hp⟩
    obtain ⟨x, hx⟩ := Option.isSome_iff_exists.1 hs
    exact ⟨(q, x), ⟨iV hx, hp⟩, rfl⟩
set_option maxHeartbeats 1000000 in
theorem zHe (d : Dk) (B : Int) (hd : d.Ok B) (hB : B ≤ 1099511627776) (p : ByteArray) (hp : p.size ≤ 1048576) (hl : d.L.length ≤ 4194304) (r1 r2 : Nat) :
  HFunM Tryz.prog 36 [.ptr 0 6 0 0, .v (.string p)] [(0, .bx false 47 (d.cells r1 r2))] (d.maps kS r1 r2) (fun h st g => h = .own 1 ∧ st = [(0, .bx false 47 (d.cells r1 r2)), (1, .sl true 9 1 (dD (rA d p)))] ∧ g = d.maps kS r1 r2) := by
 refine jA (N := 31) Tryz.func36 rfl Tryz.ntmps36 Tryz.results36 (by simp) ?_
 obtain ⟨hri, hke, hto, -, -, -, -, -⟩ := hd
 obtain ⟨L, R, steps, stamps, armed, down, n, m⟩ := d
 simp only at hri hke hto hl
 simp only [bJ, cV]
 refine aA ?_; refine aC (fun K hK => ?_); simp (disch := omega) only [push_cast, ↓Int.cast_ofNat_Int, simprocAttr]; refine hK _ ?_; clear hK K
 refine aA ?_; refine aC (fun K hK => ?_); simp (disch := omega) only [push_cast, ↓Int.cast_ofNat_Int, simprocAttr]; refine hK _ ?_; clear hK K
 refine aA ?_; refine aA ?_; refine aC (fun K hK => ?_); simp (disch := omega) only [push_cast, ↓Int.cast_ofNat_Int, simprocAttr]; refine hK _ ?_; clear hK K
 refine aB ?_
 refine bE rfl ?_
 refine aW ?_; refine aA ?_; refine aA ?_; refine bD ?_; refine aH 4 (fun K1 hK1 => ?_); simp (disch := omega) only [push_cast, ↓Int.cast_ofNat_Int, simprocAttr]; refine hK1 _ ?_; (try clear hK1 K1)
 refine qNi (i := 0) mtI rfl rfl rfl rfl rfl fun it cnt => ?_
 refine aY ?_
 refine aB ?_; refine bQ ?_
 rw [show ([] : List (List FV)) = dD [] from rfl]
 refine qAk (ι := ((List UInt8 → Bool) × Nat × Option (ByteArray × Value)) × List ByteArray) (fun q => ⟨[(0, .ptr 0 6 0 0), (1, .v (.string p)), (5, .own 56), (15, .v (.pointer (some ⟨it, 0, none⟩)))], [(0, .bx false 47 [.v (.map (some r1)), .v (.map (some r2)), .v (.int .i64 steps), .v (.int .i64 stamps), .v (.int .i64 armed), .v (.bool down)]), (56, .sl true 9 1 (dD q.2))]⟩)
  (fun q => [.itr it r1 kS n (tab Itm.val L) q.1.1 q.1.2.1 q.1.2.2, .map r2 kS m (tab qQ7 R)]) (fun q => LiI L p q.1.1 q.2) (fun q => q.1.2.1) [0, 1, 5, 15] [0, 56] ((fun s => (tab Itm.val L s).isSome, cnt, none), []) rfl rfl ?_ ?_
 ·refine ⟨List.nodup_nil, fun s => ⟨fun h => (List.not_mem_nil h).elim, fun h => ?_⟩⟩
  have h1 : (tab Itm.val L s.data.toList).isSome = false := h.2.1
  rw [kN, h.1] at h1
  cases h1
 ·rintro ⟨⟨left, cn, cur⟩, os⟩ hI
  dsimp only at hI ⊢
  refine aA ?_
  refine bD ?_
  refine qTt (i := 0) mtI rfl rfl rfl rfl rfl (fun hz => ?_) (fun s w c' hle hM hsz hlt => ?_)
  ·refine aH 1 (fun K1 hK1 => ?_); simp (disch := omega) only [push_cast, ↓Int.cast_ofNat_Int, simprocAttr, aG, aE]; refine hK1 _ ?_; (try clear hK1 K1)
   refine aY ?_
   refine aA ?_
   refine bE rfl ?_
   refine kR ?_; refine fB ?_; refine fB ?_; refine kK ?_; refine aA ?_
   refine qYi (i := 0) rfl ?_
   have hol := hI.len
   refine aC (fun K hK => ?_); simp (disch := omega) only [push_cast, ↓Int.cast_ofNat_Int, simprocAttr]
   refine zA0 (l := os) (by omega) rfl ?_
   with_reducible refine aN ?_; simp (disch := omega) only [push_cast, ↓Int.cast_ofNat_Int, simprocAttr]
   refine hK _ ?_; clear hK K
   refine aA ?_; refine aC (fun K hK => ?_); simp (disch := omega) only [push_cast, ↓Int.cast_ofNat_Int, simprocAttr]; refine hK _ ?_; clear hK K
   refine aB ?_; refine aV ?_
   simp only [aD, aK, yH, yE, yK, yJ, aF, zS, zM, Nat.reduceEqDiff, reduceIte, reduceCtorEq]
   refine bP [0, 56] [] (by first | rfl | simp [bsL, MO.bs]) (by decide) (by decide) (by simp only [push_cast, simprocAttr]) (by simp only [push_cast, simprocAttr]) (by simp only [push_cast, simprocAttr]; rfl) (by simp only [push_cast, simprocAttr]; rfl) ?_
   refine ⟨rfl, ?_, rfl⟩
   rw [zFi hri hI hz]
   rfl
  ·obtain ⟨x, hx, rfl⟩ : ∃ x, aT L s = some x ∧ w = x.val := by
    rw [qAn] at hM
    cases hx : aT L s with
    | none => rw [hx] at hM; cases hM
    | some x => rw [hx] at hM; exact ⟨x, rfl, (Option.some.inj hM).symm⟩
   have hss := hke _ (iV hx)
   refine aH 1 (fun K1 hK1 => ?_); simp (disch := omega) only [push_cast, ↓Int.cast_ofNat_Int, simprocAttr, aG, aE, qPo, eD]; refine hK1 _ ?_; (try clear hK1 K1)
   refine aY ?_
   refine aA ?_
   refine bT rfl ?_
   refine aW ?_; refine aB ?_; refine bQ ?_; refine aA ?_
   refine bD ?_
   refine qNj (i := 0) rfl rfl rfl rfl rfl ?_
   refine aH 2 (fun K1 hK1 => ?_); simp (disch := omega) only [push_cast, ↓Int.cast_ofNat_Int, simprocAttr, aG, aE, qPo, eD]; refine hK1 _ ?_; (try clear hK1 K1)
   refine aY ?_
   refine aA ?_; refine aC (fun K hK => ?_); simp (disch := omega) only [push_cast, ↓Int.cast_ofNat_Int, simprocAttr]
   refine cG zKn (qQy s hss) (.cons (.v _) .nil) ?_
   with_reducible refine aN ?_; simp (disch := omega) only [push_cast, ↓Int.cast_ofNat_Int, simprocAttr]
   refine hK _ ?_; clear hK K
   refine aB ?_
   by_cases hv : par s = p
   ·refine bA rfl (fun _ => ?_) (fun hf => by simp [hv] at hf)
    have hol := hI.len
    refine aC (fun K hK => ?_); simp (disch := omega) only [push_cast, ↓Int.cast_ofNat_Int, simprocAttr, cQ]
    (repeat refine ⟨by first | omega | decide | ((repeat' apply And.intro) <;> first | omega | decide), ?_⟩)
    refine hK _ ?_; clear hK K
    refine bR ?_; refine aB ?_
    refine ⟨((fun q => left q && !(q == s.data.toList), c', some (s, x.val)), os ++ [s]), ?_, rfl, hI.push hx hle hv, hlt⟩
    simp only [dD, List.map_append, List.map_cons, List.map_nil]
    rfl
   ·refine bA rfl (fun ht => by simp [hv] at ht) (fun _ => ?_)
    refine aW ?_; refine bR ?_; refine aB ?_
    exact ⟨((fun q => left q && !(q == s.data.toList), c', some (s, x.val)), os), rfl, rfl, hI.skip hv, hlt⟩
end Go.Proofs.YtojolcpblacjjaaGreatDoor
end
