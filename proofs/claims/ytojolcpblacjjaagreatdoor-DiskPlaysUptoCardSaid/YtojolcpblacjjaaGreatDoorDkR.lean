/-
  The disk's call Restart: what was not synced is lost, by chance.
-/
import Derived.Test.YtojolcpblacjjaaGreatDoorDkH
import Derived.Test.YtojolcpblacjjaaGreatDoorDlC
import Derived.Test.YtojolcpblacjjaaGreatDoorItr
set_option linter.unusedSimpArgs false
set_option linter.unusedVariables false
set_option maxRecDepth 20000
namespace Go.Proofs.YtojolcpblacjjaaGreatDoor
open Go Go.Eng Go.RowKit Go.Tr Go.Dk
theorem zKp (a b : Int) : HFun Tryz.prog 64 [.v (.int .u64 a), .v (.int .u64 b)] (fun h st => h = .v (.int .u64 (qDi a b))) := by
 refine iB (N := 24) Tryz.func64 rfl Tryz.ntmps64 Tryz.results64 (by simp) ?_
 unfold qDi zC2
 refine zE ?_; refine zJ (fun K hK => ?_); simp (disch := omega) only [push_cast, ↓Int.cast_ofNat_Int, simprocAttr]; refine hK _ ?_; clear hK K
 refine zE ?_; refine zJ (fun K hK => ?_); simp (disch := omega) only [push_cast, ↓Int.cast_ofNat_Int, simprocAttr]; refine hK _ ?_; clear hK K
 generalize IntKind.u64.wrap (a + IntKind.u64.wrap (b * 11400714819323198485)) = x
 refine zE ?_; refine zJ (fun K hK => ?_); simp (disch := omega) only [push_cast, ↓Int.cast_ofNat_Int, simprocAttr]; (repeat refine ⟨by first | omega | decide | ((repeat' apply And.intro) <;> first | omega | decide), ?_⟩); refine hK _ ?_; clear hK K
 refine yB [4, 5] [] (by simp only [zZ, zR, zP, zQ, zN, zS, zM, zX, zU, Nat.reduceEqDiff, reduceIte]; exact rfl) ?_
 generalize IntKind.u64.wrap (bits .xor .u64 x (x.fdiv (2 ^ min 30 IntKind.u64.bits)) * 13787848793156543929) = y
 refine zE ?_; refine zJ (fun K hK => ?_); simp (disch := omega) only [push_cast, ↓Int.cast_ofNat_Int, simprocAttr]; (repeat refine ⟨by first | omega | decide | ((repeat' apply And.intro) <;> first | omega | decide), ?_⟩); refine hK _ ?_; clear hK K
 refine yB [4, 5] [] (by simp only [zZ, zR, zP, zQ, zN, zS, zM, zX, zU, Nat.reduceEqDiff, reduceIte]; exact rfl) ?_
 generalize IntKind.u64.wrap (bits .xor .u64 y (y.fdiv (2 ^ min 27 IntKind.u64.bits)) * 10723151780598845931) = z
 refine zE ?_; refine zJ (fun K hK => ?_); simp (disch := omega) only [push_cast, ↓Int.cast_ofNat_Int, simprocAttr]; (repeat refine ⟨by first | omega | decide | ((repeat' apply And.intro) <;> first | omega | decide), ?_⟩); refine hK _ ?_; clear hK K
 refine zA ?_; refine zW ?_
 simp only [yA, yM, yH, yE, aP, aX, yK, yJ, zS, zM, Nat.reduceEqDiff, reduceIte, reduceCtorEq]
 exact bJ rfl
set_option maxHeartbeats 4000000 in
theorem zAe (d : Dk) (B : Int) (hd : d.Ok B) (hB : B ≤ 1073741824) (hlo : Lo d) (hlen : d.L.length ≤ 1000) (loss : Int) (r1 r2 : Nat) :
  HFunM Tryz.prog 31 [.ptr 0 6 0 0, .v (.int .i64 loss)] [(0, .bx false 47 (d.cells r1 r2))] (d.maps kS r1 r2) (fun h st g => h = .v (.int .i64 0) ∧ st = [(0, .bx false 47 ((restart d loss).cells r1 r2))] ∧ g = (restart d loss).maps kS r1 r2) := by
 refine iU (N := 93) Tryz.func31 rfl Tryz.ntmps31 Tryz.results31 (by simp) ?_
 simp only [bG]
 refine aA ?_; refine aC (fun K hK => ?_); simp (disch := omega) only [push_cast, ↓Int.cast_ofNat_Int, simprocAttr]; refine hK _ ?_; clear hK K
 refine aA ?_; refine aA ?_; refine aC (fun K hK => ?_); simp (disch := omega) only [push_cast, ↓Int.cast_ofNat_Int, simprocAttr]; refine hK _ ?_; clear hK K
 refine aB ?_
 refine bB rfl ?_
 refine aU ?_; refine aA ?_; refine aC (fun K hK => ?_); simp (disch := omega) only [push_cast, ↓Int.cast_ofNat_Int, simprocAttr]; refine hK _ ?_; clear hK K
 rw [dB]
 refine aA ?_; refine aA ?_; refine bF ?_; refine aH 4 (fun K1 hK1 => ?_); simp (disch := omega) only [push_cast, ↓Int.cast_ofNat_Int, simprocAttr]; refine hK1 _ ?_; (try clear hK1 K1)
 refine zFq (i := 0) (fI := 78) (tM := 44) 144 hd.rise (by have := hd.n; omega) (by kernel_rfl) rfl rfl rfl rfl rfl rfl rfl rfl zMk zMl (fun b W => (callsIn_wide.1 (Tryz.mapsKeys (some b) W))) (fun b nn D0 w hown hmax hbytes => callsIn_wide.1 (Tryz.sortedKeys b nn D0 _ w hown hmax hbytes)) rfl rfl ?_
 refine aH 2 (fun K1 hK1 => ?_); simp (disch := omega) only [push_cast, ↓Int.cast_ofNat_Int, simprocAttr, aF, aD, cH]; refine hK1 _ ?_; (try clear hK1 K1)
 refine aW ?_
 obtain ⟨ks, hks⟩ : ∃ ks, dC d.L = ks := ⟨_, rfl⟩
 have hkl : ks.length = d.L.length := by rw [← hks]; simp [dC]
 have hksz : ∀ p ∈ ks, p.size ≤ 1048576 := fun p hp => by
  rw [← hks] at hp
  obtain ⟨e, he, rfl⟩ := List.mem_map.1 hp
  exact hd.keys e he
 have hre : restart d loss = { gA loss ks 0 d with down := false, armed := -1 } := by rw [restart, hks]
 rw [hks]
 refine aB ?_; refine bL ?_
 refine xJ (ι := Nat × Int × Dk) (fun q => ⟨[(0, .ptr 0 6 0 0), (1, .v (.int .i64 loss)), (5, .v (.int .i64 q.2.1)), (18, .own 144), (19, .v (.int .i64 (ks.length : Int))), (20, .v (.int .i64 (q.1 : Int)))],
   [(0, .bx false 47 [.v (.map (some r1)), .v (.map (some r2)), .v (.int .i64 q.2.2.steps), .v (.int .i64 q.2.2.stamps), .v (.int .i64 q.2.2.armed), .v (.bool q.2.2.down)]), (144, .sl true 9 1 (cR ks))]⟩)
  (fun q => q.2.2.maps kS r1 r2) (fun q => q.1 ≤ ks.length ∧ gA loss (ks.drop q.1) q.2.1 q.2.2 = gA loss ks 0 d ∧ q.2.2.Ok (B + q.1 * 2097153) ∧ Lo q.2.2 ∧ 0 ≤ q.2.1 ∧ q.2.1 ≤ q.1) (fun q => ks.length - q.1) [0, 1, 5, 18, 19, 20] [0, 144] (0, 0, d) rfl rfl
  ⟨Nat.zero_le _, rfl, qQw hd (by simp), hlo, Int.le_refl _, Int.le_refl _⟩ ?_
 rintro ⟨j, m, e⟩ ⟨hj, hgo, hO, hL, hm0, hm1⟩
 dsimp only at hj hgo hO hL hm0 hm1 ⊢
 rcases (Decidable.em (j < ks.length)).symm with h1 | h1
 ·have hjl : j = ks.length := by omega
  rw [hjl, List.drop_length] at hgo
  have hgo : e = gA loss ks 0 d := hgo
  refine aA ?_; refine aC (fun K hK => ?_); simp (disch := omega) only [push_cast, ↓Int.cast_ofNat_Int, simprocAttr]; refine hK _ ?_; clear hK K
  refine aA ?_
  refine bB rfl ?_
  refine iX ?_; refine dZ ?_; refine dZ ?_; refine iR ?_; refine aA ?_
  refine aC (fun K hK => ?_); simp (disch := omega) only [push_cast, ↓Int.cast_ofNat_Int, simprocAttr]; refine hK _ ?_; clear hK K
  refine aA ?_; refine aC (fun K hK => ?_); simp (disch := omega) only [push_cast, ↓Int.cast_ofNat_Int, simprocAttr]; refine hK _ ?_; clear hK K
  refine aB ?_; refine aY ?_
  simp only [aE, aL, yH, yE, yK, yJ, aG, zS, zM, Nat.reduceEqDiff, reduceIte, reduceCtorEq]
  refine bR [0] [] (by first | rfl | simp [bsL, MO.bs]) (by decide) (by decide) (by simp only [push_cast, simprocAttr]) (by simp only [push_cast, simprocAttr]) (by simp only [push_cast, simprocAttr]; rfl) (by simp only [push_cast, simprocAttr]; rfl) ?_
  refine ⟨rfl, ?_, ?_⟩
  ·rw [hre, ← hgo]
  ·rw [hre, ← hgo]; rfl
 have hlen2 : (ks.length : Int) ≤ 1000 := by omega
 obtain ⟨p, hp⟩ : ∃ p, p = ks[j] := ⟨_, rfl⟩
 have hgp : (cR ks).getD j [] = [FV.v (.string p)] := by
  rw [cR, List.getD_eq_getElem?_getD, List.getElem?_map, List.getElem?_eq_getElem h1, hp]; rfl
 have hps : p.size ≤ 1048576 := hksz p (by rw [hp]; exact List.getElem_mem h1)
 have hdr : ks.drop j = p :: ks.drop (j + 1) := by rw [hp]; exact List.drop_eq_getElem_cons h1
 rw [hdr, gA] at hgo
 have hLp := hL p
 obtain ⟨l1, l2, l3⟩ := hLp
 have hn2 := hO.n
 have hs2 := hO.stamps
 have hne : e.n < maxLen := by simp only [maxLen]; omega
 refine aA ?_; refine aC (fun K hK => ?_); simp (disch := omega) only [push_cast, ↓Int.cast_ofNat_Int, simprocAttr]; refine hK _ ?_; clear hK K
 refine aA ?_
 refine bY rfl ?_
 refine aU ?_; refine aA ?_; refine bL ?_; refine aA ?_; refine aC (fun K hK => ?_); simp (disch := omega) only [push_cast, ↓Int.cast_ofNat_Int, simprocAttr, cH, nL, hgp]; (repeat refine ⟨by first | omega | decide | ((repeat' apply And.intro) <;> first | omega | decide), ?_⟩); refine hK _ ?_; clear hK K
 rw [dB]
 refine aA ?_; refine bF ?_; refine aH 5 (fun K1 hK1 => ?_); simp (disch := omega) only [push_cast, ↓Int.cast_ofNat_Int, simprocAttr]; refine hK1 _ ?_; (try clear hK1 K1)
 refine eK (i := 0) mtI rfl rfl rfl rfl rfl rfl (mx hps) ?_
 refine aH 2 (fun K1 hK1 => ?_); simp (disch := omega) only [push_cast, ↓Int.cast_ofNat_Int, simprocAttr, aF, aD, eH, eQ]; refine hK1 _ ?_; (try clear hK1 K1)
 refine aW ?_
 have hxd : (bC e.L p).getD itm0 = aQ e p := rfl
 rw [hxd]
 obtain ⟨x, hx⟩ : ∃ x, aQ e p = x := ⟨_, rfl⟩
 rw [hx] at hgo l1 l2 l3 ⊢
 refine aT [0, 1, 5, 7, 8, 18, 19, 20] [0, 64, 144] (by simp only [zZ, zR, zP, zQ, zN, zS, zM, zX, zU, Nat.reduceEqDiff, reduceIte]; exact rfl) ?_
 refine aA ?_; refine aA ?_; refine aC (fun K hK => ?_); simp (disch := omega) only [push_cast, ↓Int.cast_ofNat_Int, simprocAttr]; refine hK _ ?_; clear hK K
 refine aB ?_
 cases hlo1 : x.loose with
 | false =>
  rw [hlo1, if_neg (by decide)] at hgo
  refine bY rfl ?_
  refine iX ?_; refine dZ ?_; refine iR ?_; refine aB ?_
  refine aC (fun K hK => ?_); simp (disch := omega) only [push_cast, ↓Int.cast_ofNat_Int, simprocAttr]; refine hK _ ?_; clear hK K
  refine aB ?_
  refine ⟨(j + 1, m, e), ?_, rfl, ⟨by show j + 1 ≤ _; omega, hgo, qQw hO (by push_cast; omega), hL, hm0, by show m ≤ ((j + 1 : Nat) : Int); push_cast; omega⟩, by show ks.length - (j + 1) < ks.length - j; omega⟩
  dsimp only
  rw [show (((j + 1 : Nat) : Int)) = (j : Int) + 1 from Int.natCast_succ j]
  rfl
 | true =>
  rw [hlo1, if_pos rfl] at hgo
  refine bB rfl ?_
  refine aU ?_; refine aA ?_; refine aC (fun K hK => ?_); simp (disch := omega) only [push_cast, ↓Int.cast_ofNat_Int, simprocAttr]; refine hK _ ?_; clear hK K
  have hmx := zKp (IntKind.u64.wrap loss) (IntKind.u64.wrap (m + 1))
  have hrg := qM2 (IntKind.u64.wrap loss) (IntKind.u64.wrap (m + 1))
  obtain ⟨pk, hpk⟩ : ∃ pk, qDi (IntKind.u64.wrap loss) (IntKind.u64.wrap (m + 1)) = pk := ⟨_, rfl⟩
  rw [hpk] at hgo hmx hrg
  refine aA ?_; refine aC (fun K hK => ?_); simp (disch := omega) only [push_cast, ↓Int.cast_ofNat_Int, simprocAttr]
  refine cG zMj hmx (.cons (.v _) (.cons (.v _) .nil)) ?_
  with_reducible refine aM ?_; simp (disch := omega) only [push_cast, ↓Int.cast_ofNat_Int, simprocAttr]
  refine hK _ ?_; clear hK K
  refine aT [0, 1, 5, 7, 8, 9, 18, 19, 20] [0, 64, 144] (by simp only [zZ, zR, zP, zQ, zN, zS, zM, zX, zU, Nat.reduceEqDiff, reduceIte]; exact rfl) ?_
  refine aA ?_; refine aA ?_; refine aC (fun K hK => ?_); simp (disch := omega) only [push_cast, ↓Int.cast_ofNat_Int, simprocAttr]; refine hK _ ?_; clear hK K
  refine aB ?_
  refine qLl (ι := Unit) (fun _ => ⟨[(0, .ptr 0 6 0 0), (1, .v (.int .i64 loss)), (5, .v (.int .i64 (m + 1))), (7, .v (.string p)), (8, .ptr 64 6 0 0), (18, .own 144), (19, .v (.int .i64 (ks.length : Int))), (20, .v (.int .i64 (j : Int)))],
   [(0, .bx false 47 [.v (.map (some r1)), .v (.map (some r2)), .v (.int .i64 e.steps), .v (.int .i64 e.stamps), .v (.int .i64 e.armed), .v (.bool e.down)]), (64, .bx true 65 [.v (.bool x.dir), .v (.string x.data), .v (.string (xE pk x)), .v (.bool true), .v (.bool x.anew), .v (.int .i64 x.stamp)]), (144, .sl true 9 1 (cR ks))]⟩)
   (fun _ => [.map r1 kS e.n (tab Itm.val e.L), .map r2 kS e.m (tab qSk e.R)]) (fun _ => True) [0, 1, 5, 7, 8, 18, 19, 20] [0, 64, 144] ?_ ?_
  ·cases han : x.anew with
   | true =>
    refine bY rfl ?_
    have hw1 : IntKind.u64.wrap ((x.data.size : Int) + 2) = (x.data.size : Int) + 2 := by rw [IntKind.wrap_u64]; omega
    obtain ⟨k, hk⟩ : ∃ k, pk.tmod ((x.data.size : Int) + 2) = k := ⟨_, rfl⟩
    have hk2 : 0 ≤ k ∧ k < (x.data.size : Int) + 2 := by
     rw [← hk, Int.tmod_eq_emod_of_nonneg hrg.1]
     exact ⟨Int.emod_nonneg _ (by omega), Int.emod_lt_of_pos _ (by omega)⟩
    have hcut : xE pk x = if 0 < k then x.data.extract 0 (k - 1).toNat else x.kept := by
     unfold xE
     rw [if_pos han, hk]
    rw [hcut]
    refine aA ?_; refine aC (fun K hK => ?_); simp (disch := omega) only [push_cast, ↓Int.cast_ofNat_Int, simprocAttr, hw1, hk]
    refine ⟨by omega, hK _ ?_⟩
    clear hK K
    refine aA ?_; refine aC (fun K hK => ?_); simp (disch := omega) only [push_cast, ↓Int.cast_ofNat_Int, simprocAttr]; refine hK _ ?_; clear hK K
    refine aB ?_
    by_cases hk0 : 0 < k
    ·rw [if_pos hk0]
     have hw2 : IntKind.u64.wrap (k - 1) = k - 1 := by rw [IntKind.wrap_u64]; omega
     refine aZ rfl (fun _ => ?_) (fun h => by simp [hk0] at h)
     refine aC (fun K hK => ?_); simp (disch := omega) only [push_cast, ↓Int.cast_ofNat_Int, simprocAttr, hw2]
     (repeat refine ⟨by first | omega | decide | ((repeat' apply And.intro) <;> first | omega | decide), ?_⟩)
     refine hK _ ?_; clear hK K
     refine aB ?_
     exact ⟨(), rfl, rfl, trivial⟩
    ·rw [if_neg hk0]
     refine aZ rfl (fun h => by simp [hk0] at h) (fun _ => ?_)
     refine aU ?_; refine aB ?_
     exact ⟨(), rfl, rfl, trivial⟩
   | false =>
    have l4 := l3 han
    obtain ⟨k, hk⟩ : ∃ k, pk.tmod ((x.data.size : Int) - x.kept.size + 1) = k := ⟨_, rfl⟩
    have hk2 : 0 ≤ k ∧ k < (x.data.size : Int) - x.kept.size + 1 := by
     rw [← hk, Int.tmod_eq_emod_of_nonneg hrg.1]
     exact ⟨Int.emod_nonneg _ (by omega), Int.emod_lt_of_pos _ (by omega)⟩
    have hw1 : IntKind.u64.wrap ((x.data.size : Int) - x.kept.size + 1) = (x.data.size : Int) - x.kept.size + 1 := by rw [IntKind.wrap_u64]; omega
    have hcut : xE pk x = x.data.extract 0 ((x.kept.size : Int) + k).toNat := by
     unfold xE
     rw [if_neg (by rw [han]; decide), hk]
    rw [hcut]
    refine bB rfl ?_
    skip
    refine qC3 ?_
    refine HW_drw 18 mixed (by kernel_rfl) (fun K hK => ?_)
    simp (disch := omega) only [push_cast, ↓Int.cast_ofNat_Int, simprocAttr, hw1, hk]
    refine ⟨by omega, ?_⟩
    with_reducible refine aM ?_; simp (disch := omega) only [push_cast, ↓Int.cast_ofNat_Int, simprocAttr]
    (repeat refine ⟨by first | omega | decide | ((repeat' apply And.intro) <;> first | omega | decide), ?_⟩)
    refine hK _ ?_; clear hK K
    refine aB ?_
    exact ⟨(), rfl, rfl, trivial⟩
  rintro - -
  have hse := qRz e p (qCc pk x) r1 r2 hps hne (by omega)
  simp only [bG] at hse
  rw [dB] at hse
  refine aA ?_; refine aC (fun K hK => ?_); simp (disch := omega) only [push_cast, ↓Int.cast_ofNat_Int, simprocAttr]; refine hK _ ?_; clear hK K
  refine aB ?_; refine bF ?_; refine aH 3 (fun K1 hK1 => ?_); simp (disch := omega) only [push_cast, ↓Int.cast_ofNat_Int, simprocAttr]; refine hK1 _ ?_; (try clear hK1 K1)
  refine bW 680 [0] zBd (hse) rfl rfl rfl rfl (by simp only [push_cast, simprocAttr]; exact rfl) (by decide) (by decide) (by decide) (by simp only [push_cast, simprocAttr]; try rfl) (by simp only [push_cast, simprocAttr]; try rfl) ?_
  rintro _ _ _ ⟨rfl, rfl, rfl⟩
  refine aH 0 (fun K1 hK1 => ?_); simp (disch := omega) only [push_cast, ↓Int.cast_ofNat_Int, simprocAttr, aF, aD]; refine hK1 _ ?_; (try clear hK1 K1)
  refine aW ?_
  refine bP ?_; refine aB ?_
  refine aC (fun K hK => ?_); simp (disch := omega) only [push_cast, ↓Int.cast_ofNat_Int, simprocAttr]; refine hK _ ?_; clear hK K
  refine aB ?_
  refine ⟨(j + 1, m + 1, iY e p (qCc pk x)), ?_, rfl, ⟨by show j + 1 ≤ _; omega, hgo, ?_, zC4 hL (qX1 (by rw [← hx]; exact hL p)), by show 0 ≤ m + 1; omega, by show m + 1 ≤ ((j + 1 : Nat) : Int); push_cast; omega⟩, by show ks.length - (j + 1) < ks.length - j; omega⟩
  ·dsimp only
   rw [show (((j + 1 : Nat) : Int)) = (j : Int) + 1 from Int.natCast_succ j]
   rfl
  ·refine qQw (zGh hO (C := 2097153) (by decide) hps ?_) (by push_cast; omega)
   rw [hx]
   have := qLd (pick := pk) (x := x) ⟨l1, l2, l3⟩
   show ((xE pk x).size : Int) ≤ _
   omega
end Go.Proofs.YtojolcpblacjjaaGreatDoor
