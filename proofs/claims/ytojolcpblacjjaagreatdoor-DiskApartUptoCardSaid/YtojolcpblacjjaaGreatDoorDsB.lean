/-
  The law DiskApart: the walk.
-/
import Derived.Test.YtojolcpblacjjaaGreatDoorDsP
import Derived.Test.YtojolcpblacjjaaGreatDoorDkW
import Derived.Test.YtojolcpblacjjaaGreatDoorSrK
set_option linter.unusedSimpArgs false
set_option linter.unusedVariables false
set_option maxRecDepth 20000
namespace Go.Dk
open Go Go.Eng Go.Tr Go.Proofs.YtojolcpblacjjaaGreatDoor
structure Stp where
 k : Int
 P : ByteArray
 Q : ByteArray
 N : Int
def zAy (s : Stp) : List FV := [.v (.int .i64 s.k), .v (.string s.P), .v (.string s.Q), .v (.int .i64 s.N)]
def oP (l : List Stp) : List (List FV) := l.map zAy
abbrev zGu (s : Stp) : HV := .agg [.v (.int .i64 s.k), .v (.string s.P), .v (.string s.Q), .v (.int .i64 s.N)]
theorem xA (l : List Stp) : (oP l).length = l.length := List.length_map _
theorem zAw (l : List Stp) : Wid 4 (oP l) = True := eq_true (qDn l fun _ => rfl)
theorem zAx {l : List Stp} {i : Nat} {d : List FV} (h : i < l.length) : (oP l).getD i d = [.v (.int .i64 l[i].k), .v (.string l[i].P), .v (.string l[i].Q), .v (.int .i64 l[i].N)] := by unfold oP; rw [pN h]; rfl
structure Stp.Ok (s : Stp) : Prop where
 P : s.P.size ≤ 1048576
 Q : s.Q.size ≤ 1048576
 N : -9223372036854775808 ≤ s.N ∧ s.N ≤ 9223372036854775807
def rG (l : List Stp) : Nat := (l.map fun s => s.Q.size).sum
theorem qYr {l : List Stp} {i : Nat} (h : i < l.length) : rG (l.take (i + 1)) = rG (l.take i) + l[i].Q.size := by
 unfold rG
 rw [List.take_succ_eq_append_getElem h, List.map_append, List.sum_append, List.map_cons, List.map_nil, List.sum_cons, List.sum_nil, Nat.add_zero]
theorem zEu (l : List Stp) (i : Nat) : rG (l.take i) ≤ rG l := by
 have : rG l = rG (l.take i) + rG (l.drop i) := by
  unfold rG
  rw [← List.sum_append, ← List.map_append, List.take_append_drop]
 omega
end Go.Dk
namespace Go.Proofs.YtojolcpblacjjaaGreatDoor
open Go Go.Eng Go.RowKit Go.Tr Go.Dk
set_option maxHeartbeats 16000000 in
theorem qTh (l : List Stp) (s : Stp) (p : ByteArray) (hl : ∀ x ∈ l, x.Ok) (hs : s.Ok) (hp : p.size ≤ 1048576) (hsum : rG l + s.Q.size ≤ 1048576) : HFun Tryz.prog 4 [.lst false (oP l), zGu s, .v (.string p)] (fun h st => h = .v (.bool true)) := by
 refine iL (N := 124) Tryz.func4 rfl Tryz.ntmps4 Tryz.results4 (by simp) ?_
 obtain ⟨k, P, Q, M⟩ := s
 obtain ⟨hP, hQ, hM1, hM2⟩ := hs
 dsimp only at hP hQ hM1 hM2 hsum
 refine zEo ?_
 refine aA ?_; refine aC (fun K hK => ?_); simp (disch := omega) only [push_cast, ↓Int.cast_ofNat_Int, simprocAttr]; refine hK _ ?_; clear hK K
 refine aA ?_
 refine bD ?_
 refine bL 128 [] cl5 (zGk) rfl rfl rfl rfl (by simp only [push_cast, simprocAttr]; exact rfl) (by decide) (by decide) (by decide) (by simp only [push_cast, simprocAttr]; try rfl) (by simp only [push_cast, simprocAttr]; try rfl) ?_
 rintro _ _ _ ⟨r1, r2, rfl, rfl, rfl⟩
 refine aH 1 (fun K1 hK1 => ?_); simp (disch := omega) only [push_cast, ↓Int.cast_ofNat_Int, simprocAttr, aG, aE, bJ]; refine hK1 _ ?_; (try clear hK1 K1)
 refine aY ?_
 refine aA ?_; refine aC (fun K hK => ?_); simp (disch := omega) only [push_cast, ↓Int.cast_ofNat_Int, simprocAttr]
 refine dU 136 [] cl7 (zG2) rfl (by decide) (by decide) (by simp only [push_cast, simprocAttr]; try rfl) (by simp only [push_cast, simprocAttr]; try rfl) ?_
 rintro _ _ ⟨rfl, rfl⟩
 refine aN ?_; simp (disch := omega) only [push_cast, ↓Int.cast_ofNat_Int, simprocAttr, eK]
 refine hK _ ?_; clear hK K
 refine aU [0, 2, 4, 7, 8] [32, 128, 136, 137] (by simp only [zZ, zR, zP, zQ, zN, zS, zM, zX, zU, Nat.reduceEqDiff, reduceIte]; exact rfl) ?_
 refine aA ?_; refine aA ?_
 refine qAj (ι := Unit) (fun _ => ⟨[(0, .lst false (oP l)), (2, .v (.string p)), (4, .ptr 32 4 0 0), (7, .ptr 128 6 0 0), (8, .ptr 136 6 0 0), (45, .v (.bool (decide (p = P) || (decide (p = Q) || (decide (k = 9) || decide (k = 8))))))],
   [(32, .bx true 29 [.v (.int .i64 k), .v (.string P), .v (.string Q), .v (.int .i64 M)]), (128, .bx true 47 [.v (.map (some r1)), .v (.map (some r2)), .v (.int .i64 0), .v (.int .i64 0), .v (.int .i64 (-1)), .v (.bool false)]), (136, .bx true 35 [.lst true (dT []), .own 137, .v (.int .i64 0), .v (.int .i64 0), .v (.int .i64 (-1)), .v (.bool false)]), (137, .sl true 76 2 (rms []))]⟩)
   (fun _ => Dk.new.maps kS r1 r2) (fun _ => True) [0, 2, 4, 7, 8, 45] [32, 128, 136, 137] ?_ ?_
 ·cases e1 : decide (p = P) with
  | true =>
   refine aC (fun K hK => ?_); simp (disch := omega) only [push_cast, ↓Int.cast_ofNat_Int, simprocAttr]
   refine cG cl6 qAf .nil ?_
   with_reducible refine aN ?_; simp (disch := omega) only [push_cast, ↓Int.cast_ofNat_Int, simprocAttr, e1]
   refine hK _ ?_; clear hK K
   exact ⟨(), rfl, rfl, trivial⟩
  | false =>
  cases e2 : decide (p = Q) with
  | true =>
   refine aC (fun K hK => ?_); simp (disch := omega) only [push_cast, ↓Int.cast_ofNat_Int, simprocAttr]
   refine cG cl6 qAf .nil ?_
   with_reducible refine aN ?_; simp (disch := omega) only [push_cast, ↓Int.cast_ofNat_Int, simprocAttr, e1, e2]
   refine hK _ ?_; clear hK K
   exact ⟨(), rfl, rfl, trivial⟩
  | false =>
  cases e3 : decide (k = 9) with
  | true =>
   refine aC (fun K hK => ?_); simp (disch := omega) only [push_cast, ↓Int.cast_ofNat_Int, simprocAttr]
   refine cG cl6 qAf .nil ?_
   with_reducible refine aN ?_; simp (disch := omega) only [push_cast, ↓Int.cast_ofNat_Int, simprocAttr, e1, e2, e3]
   refine hK _ ?_; clear hK K
   exact ⟨(), rfl, rfl, trivial⟩
  | false =>
   refine aC (fun K hK => ?_); simp (disch := omega) only [push_cast, ↓Int.cast_ofNat_Int, simprocAttr]
   refine cG cl6 qAf .nil ?_
   with_reducible refine aN ?_; simp (disch := omega) only [push_cast, ↓Int.cast_ofNat_Int, simprocAttr, e1, e2, e3]
   refine hK _ ?_; clear hK K
   exact ⟨(), rfl, rfl, trivial⟩
 rintro - -
 cases hb : (decide (p = P) || (decide (p = Q) || (decide (k = 9) || decide (k = 8)))) with
 | true =>
  refine bT rfl ?_
  refine aA ?_; refine aC (fun K hK => ?_); simp (disch := omega) only [push_cast, ↓Int.cast_ofNat_Int, simprocAttr]
  refine cG cl6 qAf .nil ?_
  with_reducible refine aN ?_; simp (disch := omega) only [push_cast, ↓Int.cast_ofNat_Int, simprocAttr]
  refine hK _ ?_; clear hK K
  refine aB ?_; refine aV ?_; refine bH ?_
  simp only [yA, yM, yH, yE, aQ, aZ, yK, yJ, zS, zM, Nat.reduceEqDiff, reduceIte, reduceCtorEq]
  exact bK rfl
 | false =>
 simp only [Bool.or_eq_false_iff, decide_eq_false_iff_not] at hb
 obtain ⟨hpP, hpQ, hk9, hk8⟩ := hb
 refine bE rfl ?_
 refine aU [0, 2, 4, 7, 8] [32, 128, 136, 137] (by simp only [zZ, zR, zP, zQ, zN, zS, zM, zX, zU, Nat.reduceEqDiff, reduceIte]; exact rfl) ?_
 refine aW ?_; refine aA ?_; refine aA ?_; refine aC (fun K hK => ?_); simp (disch := omega) only [push_cast, ↓Int.cast_ofNat_Int, simprocAttr]; refine hK _ ?_; clear hK K
 refine aB ?_; refine bQ ?_
 refine qAk (ι := Nat × Dk × LN × Bool × Bool) (fun q => ⟨[(0, .lst false (oP l)), (2, .v (.string p)), (4, .ptr 32 4 0 0), (7, .ptr 128 6 0 0), (8, .ptr 136 6 0 0), (9, .v (.int .i64 (q.1 : Int)))],
   [(32, .bx true 29 [.v (.int .i64 k), .v (.string P), .v (.string Q), .v (.int .i64 M)]), (128, .bx true 47 [.v (.map (some r1)), .v (.map (some r2)), .v (.int .i64 q.2.1.steps), .v (.int .i64 q.2.1.stamps), .v (.int .i64 q.2.1.armed), .v (.bool q.2.1.down)]), (136, .bx true 35 [.lst q.2.2.2.1 (dT q.2.1.L), .own 137, .v (.int .i64 q.2.1.steps), .v (.int .i64 q.2.1.stamps), .v (.int .i64 q.2.1.armed), .v (.bool q.2.1.down)]), (137, .sl q.2.2.2.2 76 2 (rms q.2.2.1))]⟩)
  (fun q => q.2.1.maps kS r1 r2) (fun q => q.1 ≤ l.length ∧ q.1 ≤ 60 ∧ Bd q.2.1 (rG (l.take q.1)) q.1 q.1 ∧ Rel q.2.1 q.2.2.1 q.1) (fun q => l.length - q.1) [0, 2, 4, 7, 8, 9] [32, 128, 136, 137] (0, Dk.new, [], true, true) rfl rfl
  ⟨Nat.zero_le _, Nat.zero_le _, Bd.new, ⟨fun _ => rfl, List.nodup_nil, Nat.le_refl _⟩⟩ ?_
 rintro ⟨i, d, R, fr, nw⟩ ⟨hil, hi60, hB, hR⟩
 dsimp only at hil hi60 hB hR ⊢
 have hsq := zEu l i
 have hS : rG (l.take i) ≤ 1048576 := by omega
 have ok := hB.ok hS (by omega) (by omega)
 have lo := hB.lo hS
 have rok := hB.rok hS (by omega) (by omega) hR (by omega)
 have hlen : d.L.length ≤ 1000 := by have := hB.len; omega
 by_cases hc : i < l.length ∧ i < 60
 ·obtain ⟨h1, h2⟩ := hc
  obtain ⟨s1, s2, s3, s4⟩ := hl _ (List.getElem_mem h1)
  have cd := zD6 d R fr nw 1073741824 ok (Int.le_refl _) rok lo hlen l[i].k l[i].P l[i].Q l[i].N s1 s2 s3 s4 r1 r2
  have hst := qYr h1
  have hB2 := hB.call (by omega) l[i].k s1 s2 l[i].N s4
  rw [← hst] at hB2
  simp only [bJ, rcj] at cd
  refine aA ?_; refine aA ?_; refine aC (fun K hK => ?_); simp (disch := omega) only [push_cast, ↓Int.cast_ofNat_Int, simprocAttr, xA]; refine hK _ ?_; clear hK K
  refine aB ?_
  refine bT rfl ?_
  refine aW ?_; refine aA ?_
  refine bQ ?_; refine bD ?_; refine aH 6 (fun K1 hK1 => ?_); simp (disch := omega) only [push_cast, ↓Int.cast_ofNat_Int, simprocAttr, xA, zAw, zAx h1]
  refine hK1 _ ?_; (try clear hK1 K1)
  refine bL 504 [128, 136, 137] cl8 (cd) rfl rfl rfl rfl (by simp only [push_cast, simprocAttr]; exact rfl) (by decide) (by decide) (by decide) (by simp only [push_cast, simprocAttr]; try rfl) (by simp only [push_cast, simprocAttr]; try rfl) ?_
  rintro _ _ _ ⟨rfl, R2, fr2, nw2, hR2, rfl, rfl⟩
  refine aH 0 (fun K1 hK1 => ?_); simp (disch := omega) only [push_cast, ↓Int.cast_ofNat_Int, simprocAttr, aG, aE]; refine hK1 _ ?_; (try clear hK1 K1)
  refine aY ?_
  refine bR ?_; refine aB ?_
  refine aC (fun K hK => ?_); simp (disch := omega) only [push_cast, ↓Int.cast_ofNat_Int, simprocAttr]; refine hK _ ?_; clear hK K
  refine aB ?_
  exact ⟨(i + 1, nX d l[i].k l[i].P l[i].Q l[i].N, R2, fr2, nw2), rfl, rfl, ⟨h1, h2, hB2, ⟨hR2.look, hR2.nod, by have := hR2.rl; have := hR.rl; show R2.length ≤ i + 1; omega⟩⟩, by show l.length - (i + 1) < l.length - i; omega⟩
 refine aA ?_; refine aA ?_
 refine qAj (ι := Unit) (fun _ => ⟨[(0, .lst false (oP l)), (2, .v (.string p)), (4, .ptr 32 4 0 0), (7, .ptr 128 6 0 0), (8, .ptr 136 6 0 0), (54, .v (.bool false))],
   [(32, .bx true 29 [.v (.int .i64 k), .v (.string P), .v (.string Q), .v (.int .i64 M)]), (128, .bx true 47 [.v (.map (some r1)), .v (.map (some r2)), .v (.int .i64 d.steps), .v (.int .i64 d.stamps), .v (.int .i64 d.armed), .v (.bool d.down)]), (136, .bx true 35 [.lst fr (dT d.L), .own 137, .v (.int .i64 d.steps), .v (.int .i64 d.stamps), .v (.int .i64 d.armed), .v (.bool d.down)]), (137, .sl nw 76 2 (rms R))]⟩)
   (fun _ => d.maps kS r1 r2) (fun _ => True) [0, 2, 4, 7, 8, 54] [32, 128, 136, 137] ?_ ?_
 ·by_cases h1 : i < l.length
  ·have h2 : ¬ i < 60 := fun h => hc ⟨h1, h⟩
   refine aC (fun K hK => ?_); simp (disch := omega) only [push_cast, ↓Int.cast_ofNat_Int, simprocAttr, xA]; refine hK _ ?_; clear hK K
   exact ⟨(), rfl, rfl, trivial⟩
  ·refine aC (fun K hK => ?_); simp (disch := omega) only [push_cast, ↓Int.cast_ofNat_Int, simprocAttr, xA]; refine hK _ ?_; clear hK K
   exact ⟨(), rfl, rfl, trivial⟩
 rintro - -
 refine bE rfl ?_
 refine kR ?_; refine fB ?_; refine fB ?_; refine kK ?_; refine aA ?_; refine aA ?_
 have cdn := zD5 d r1 r2
 have crd := qUi d p r1 r2 hp
 have ckd := qU1 d p r1 r2 hp
 have cst := qV4 d p r1 r2 hp
 have cd := zD6 d R fr nw 1073741824 ok (Int.le_refl _) rok lo hlen k P Q M hP hQ hM1 hM2 r1 r2
 obtain ⟨e, he⟩ : ∃ e, nX d k P Q M = e := ⟨_, rfl⟩
 have hfr : aT e.L p = aT d.L p := by rw [← he]; exact zFx d k P Q M hpP hpQ hk9
 have edn := zD5 e r1 r2
 have erd := qUi e p r1 r2 hp
 have ekd := qU1 e p r1 r2 hp
 have est := qV4 e p r1 r2 hp
 rw [zFw hfr] at ekd
 rw [zCz hfr] at est
 rw [he] at cd
 obtain ⟨kk, hkk⟩ : ∃ kk, gE d p = kk := ⟨_, rfl⟩
 obtain ⟨ss, hss⟩ : ∃ ss, qEc d p = ss := ⟨_, rfl⟩
 obtain ⟨⟨ra, rb⟩, hrd⟩ : ∃ z, mF d p = z := ⟨_, rfl⟩
 rw [hrd] at crd
 rw [hkk] at ckd ekd
 rw [hss] at cst est
 simp only [bJ, rcj] at cdn crd ckd cst cd edn erd ekd est
 refine aU [2, 4, 7, 8] [32, 128, 136, 137] (by simp only [zZ, zR, zP, zQ, zN, zS, zM, zX, zU, Nat.reduceEqDiff, reduceIte]; exact rfl) ?_
 refine aC (fun K hK => ?_); simp (disch := omega) only [push_cast, ↓Int.cast_ofNat_Int, simprocAttr]
 refine dU 520 [128] zKx (cdn) rfl (by decide) (by decide) (by simp only [push_cast, simprocAttr]; try rfl) (by simp only [push_cast, simprocAttr]; try rfl) ?_
 rintro _ _ ⟨rfl, rfl⟩
 refine aN ?_; simp (disch := omega) only [push_cast, ↓Int.cast_ofNat_Int, simprocAttr]
 refine hK _ ?_; clear hK K
 refine aB ?_
 cases hdn : d.down with
 | true =>
  refine bT rfl ?_
  refine aA ?_; refine aC (fun K hK => ?_); simp (disch := omega) only [push_cast, ↓Int.cast_ofNat_Int, simprocAttr]; refine hK _ ?_; clear hK K
  refine aB ?_; refine aV ?_; refine bH ?_
  simp only [yA, yM, yH, yE, aQ, aZ, yK, yJ, zS, zM, Nat.reduceEqDiff, reduceIte, reduceCtorEq]
  exact bK rfl
 | false =>
 rw [hdn] at cdn crd ckd cst cd
 refine bE rfl ?_
 refine aU [2, 4, 7, 8] [32, 128, 136, 137] (by simp only [zZ, zR, zP, zQ, zN, zS, zM, zX, zU, Nat.reduceEqDiff, reduceIte]; exact rfl) ?_
 refine aW ?_; refine aA ?_; refine bD ?_; refine aH 2 (fun K1 hK1 => ?_); simp (disch := omega) only [push_cast, ↓Int.cast_ofNat_Int, simprocAttr]; refine hK1 _ ?_; (try clear hK1 K1)
 refine bL 552 [128] zHv (crd) rfl rfl rfl rfl (by simp only [push_cast, simprocAttr]; exact rfl) (by decide) (by decide) (by decide) (by simp only [push_cast, simprocAttr]; try rfl) (by simp only [push_cast, simprocAttr]; try rfl) ?_
 rintro _ _ _ ⟨rfl, rfl, rfl⟩
 refine aH 5 (fun K1 hK1 => ?_); simp (disch := omega) only [push_cast, ↓Int.cast_ofNat_Int, simprocAttr, aG, aE]; refine hK1 _ ?_; (try clear hK1 K1)
 refine aY ?_
 refine aU [2, 4, 7, 8, 10, 11] [32, 128, 136, 137] (by simp only [zZ, zR, zP, zQ, zN, zS, zM, zX, zU, Nat.reduceEqDiff, reduceIte]; exact rfl) ?_
 refine aA ?_; refine bD ?_; refine aH 2 (fun K1 hK1 => ?_); simp (disch := omega) only [push_cast, ↓Int.cast_ofNat_Int, simprocAttr]; refine hK1 _ ?_; (try clear hK1 K1)
 refine bL 592 [128] zF5 (ckd) rfl rfl rfl rfl (by simp only [push_cast, simprocAttr]; exact rfl) (by decide) (by decide) (by decide) (by simp only [push_cast, simprocAttr]; try rfl) (by simp only [push_cast, simprocAttr]; try rfl) ?_
 rintro _ _ _ ⟨rfl, rfl, rfl⟩
 refine aH 2 (fun K1 hK1 => ?_); simp (disch := omega) only [push_cast, ↓Int.cast_ofNat_Int, simprocAttr, aG, aE]; refine hK1 _ ?_; (try clear hK1 K1)
 refine bL 616 [128] zHu (cst) rfl rfl rfl rfl (by simp only [push_cast, simprocAttr]; exact rfl) (by decide) (by decide) (by decide) (by simp only [push_cast, simprocAttr]; try rfl) (by simp only [push_cast, simprocAttr]; try rfl) ?_
 rintro _ _ _ ⟨rfl, rfl, rfl⟩
 refine aH 2 (fun K1 hK1 => ?_); simp (disch := omega) only [push_cast, ↓Int.cast_ofNat_Int, simprocAttr, aG, aE]; refine hK1 _ ?_; (try clear hK1 K1)
 refine aY ?_
 refine aU [2, 4, 7, 8, 10, 11, 12, 13] [32, 128, 136, 137] (by simp only [zZ, zR, zP, zQ, zN, zS, zM, zX, zU, Nat.reduceEqDiff, reduceIte]; exact rfl) ?_
 refine aA ?_; refine bD ?_; refine aH 3 (fun K1 hK1 => ?_); simp (disch := omega) only [push_cast, ↓Int.cast_ofNat_Int, simprocAttr]
 refine hK1 _ ?_; (try clear hK1 K1)
 refine bL 648 [128, 136, 137] cl8 (cd) rfl rfl rfl rfl (by simp only [push_cast, simprocAttr]; exact rfl) (by decide) (by decide) (by decide) (by simp only [push_cast, simprocAttr]; try rfl) (by simp only [push_cast, simprocAttr]; try rfl) ?_
 rintro _ _ _ ⟨rfl, R2, fr2, nw2, hR2, rfl, rfl⟩
 refine aH 0 (fun K1 hK1 => ?_); simp (disch := omega) only [push_cast, ↓Int.cast_ofNat_Int, simprocAttr, aG, aE]; refine hK1 _ ?_; (try clear hK1 K1)
 refine aY ?_
 refine aU [2, 7, 10, 11, 12, 13] [128, 136, 137] (by simp only [zZ, zR, zP, zQ, zN, zS, zM, zX, zU, Nat.reduceEqDiff, reduceIte]; exact rfl) ?_
 refine aA ?_; refine aA ?_; refine aC (fun K hK => ?_); simp (disch := omega) only [push_cast, ↓Int.cast_ofNat_Int, simprocAttr]
 refine dU 664 [128] zKx (edn) rfl (by decide) (by decide) (by simp only [push_cast, simprocAttr]; try rfl) (by simp only [push_cast, simprocAttr]; try rfl) ?_
 rintro _ _ ⟨rfl, rfl⟩
 refine aN ?_; simp (disch := omega) only [push_cast, ↓Int.cast_ofNat_Int, simprocAttr]
 refine hK _ ?_; clear hK K
 refine aB ?_
 have hx1 : decide (kk = kk) = true := decide_eq_true rfl
 have hx2 : decide (ss = ss) = true := decide_eq_true rfl
 cases hen : e.down with
 | true =>
  rw [hen] at ekd est
  refine bT rfl ?_
  refine aU [2, 7, 10, 11, 12, 13] [128, 136, 137] (by simp only [zZ, zR, zP, zQ, zN, zS, zM, zX, zU, Nat.reduceEqDiff, reduceIte]; exact rfl) ?_
  refine aA ?_; refine bD ?_; refine aH 2 (fun K1 hK1 => ?_); simp (disch := omega) only [push_cast, ↓Int.cast_ofNat_Int, simprocAttr]; refine hK1 _ ?_; (try clear hK1 K1)
  refine bL 688 [128] zF5 (ekd) rfl rfl rfl rfl (by simp only [push_cast, simprocAttr]; exact rfl) (by decide) (by decide) (by decide) (by simp only [push_cast, simprocAttr]; try rfl) (by simp only [push_cast, simprocAttr]; try rfl) ?_
  rintro _ _ _ ⟨rfl, rfl, rfl⟩
  refine aH 5 (fun K1 hK1 => ?_); simp (disch := omega) only [push_cast, ↓Int.cast_ofNat_Int, simprocAttr, aG, aE, hx1]; refine hK1 _ ?_; (try clear hK1 K1)
  refine bL 736 [128] zHu (est) rfl rfl rfl rfl (by simp only [push_cast, simprocAttr]; exact rfl) (by decide) (by decide) (by decide) (by simp only [push_cast, simprocAttr]; try rfl) (by simp only [push_cast, simprocAttr]; try rfl) ?_
  rintro _ _ _ ⟨rfl, rfl, rfl⟩
  refine aH 4 (fun K1 hK1 => ?_); simp (disch := omega) only [push_cast, ↓Int.cast_ofNat_Int, simprocAttr, aG, aE, hx2]; refine hK1 _ ?_; (try clear hK1 K1)
  refine aY ?_
  refine aB ?_; refine aV ?_; refine bH ?_
  simp only [yA, yM, yH, yE, aQ, aZ, yK, yJ, zS, zM, Nat.reduceEqDiff, reduceIte, reduceCtorEq]
  exact bK rfl
 | false =>
  rw [zFv hfr (by rw [hen, hdn])] at erd
  rw [hrd] at erd
  rw [hen] at ekd est erd
  have hx3 : decide (ra = ra) = true := decide_eq_true rfl
  have hx4 : decide (rb = rb) = true := decide_eq_true rfl
  refine bE rfl ?_
  refine aU [2, 7, 10, 11, 12, 13] [128, 136, 137] (by simp only [zZ, zR, zP, zQ, zN, zS, zM, zX, zU, Nat.reduceEqDiff, reduceIte]; exact rfl) ?_
  refine aW ?_; refine aA ?_; refine bD ?_; refine aH 2 (fun K1 hK1 => ?_); simp (disch := omega) only [push_cast, ↓Int.cast_ofNat_Int, simprocAttr]; refine hK1 _ ?_; (try clear hK1 K1)
  refine bL 792 [128] zHv (erd) rfl rfl rfl rfl (by simp only [push_cast, simprocAttr]; exact rfl) (by decide) (by decide) (by decide) (by simp only [push_cast, simprocAttr]; try rfl) (by simp only [push_cast, simprocAttr]; try rfl) ?_
  rintro _ _ _ ⟨rfl, rfl, rfl⟩
  refine aH 5 (fun K1 hK1 => ?_); simp (disch := omega) only [push_cast, ↓Int.cast_ofNat_Int, simprocAttr, aG, aE]; refine hK1 _ ?_; (try clear hK1 K1)
  refine aY ?_
  refine aU [2, 7, 10, 11, 12, 13, 14, 15] [128, 136, 137] (by simp only [zZ, zR, zP, zQ, zN, zS, zM, zX, zU, Nat.reduceEqDiff, reduceIte]; exact rfl) ?_
  refine aA ?_; refine bD ?_; refine aH 11 (fun K1 hK1 => ?_); simp (disch := omega) only [push_cast, ↓Int.cast_ofNat_Int, simprocAttr, hx3, hx4]; refine hK1 _ ?_; (try clear hK1 K1)
  refine bL 904 [128] zF5 (ekd) rfl rfl rfl rfl (by simp only [push_cast, simprocAttr]; exact rfl) (by decide) (by decide) (by decide) (by simp only [push_cast, simprocAttr]; try rfl) (by simp only [push_cast, simprocAttr]; try rfl) ?_
  rintro _ _ _ ⟨rfl, rfl, rfl⟩
  refine aH 6 (fun K1 hK1 => ?_); simp (disch := omega) only [push_cast, ↓Int.cast_ofNat_Int, simprocAttr, aG, aE, hx1]; refine hK1 _ ?_; (try clear hK1 K1)
  refine bL 960 [128] zHu (est) rfl rfl rfl rfl (by simp only [push_cast, simprocAttr]; exact rfl) (by decide) (by decide) (by decide) (by simp only [push_cast, simprocAttr]; try rfl) (by simp only [push_cast, simprocAttr]; try rfl) ?_
  rintro _ _ _ ⟨rfl, rfl, rfl⟩
  refine aH 4 (fun K1 hK1 => ?_); simp (disch := omega) only [push_cast, ↓Int.cast_ofNat_Int, simprocAttr, aG, aE, hx2]; refine hK1 _ ?_; (try clear hK1 K1)
  refine aY ?_
  refine aB ?_; refine aV ?_
  simp only [yA, yM, yH, yE, aQ, aZ, yK, yJ, zS, zM, Nat.reduceEqDiff, reduceIte, reduceCtorEq]
  exact bK rfl
end Go.Proofs.YtojolcpblacjjaaGreatDoor
