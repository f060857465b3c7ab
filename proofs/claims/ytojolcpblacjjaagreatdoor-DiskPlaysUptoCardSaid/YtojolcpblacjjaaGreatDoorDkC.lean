/-
  The disk's functions: a file's new state; how many bytes a volume has; is qRj iZ.
-/
import Derived.Test.YtojolcpblacjjaaGreatDoorRkA
set_option linter.unusedSimpArgs false
set_option linter.unusedVariables false
set_option maxRecDepth 20000
namespace Go.Proofs.YtojolcpblacjjaaGreatDoor
open Go Go.Eng Go.RowKit Go.Tr Go.Dk
theorem dB (d : Dk) (k r1 r2 : Nat) : d.maps k r1 r2 = [.map r1 k d.n (tab Itm.val d.L), .map r2 k d.m (tab qSk d.R)] := rfl
set_option maxHeartbeats 1000000 in
theorem qRz (d : Dk) (p : ByteArray) (x : Itm) (r1 r2 : Nat) (hs : p.size ≤ 1048576) (hn : d.n < maxLen) (hst : 0 ≤ d.stamps ∧ d.stamps < 4611686018427387904) :
  HFunM Tryz.prog 47 [.ptr 0 6 0 0, .v (.string p), x.hv] [(0, .bx false 47 (d.cells r1 r2))] (d.maps kS r1 r2) (fun h st g => h = .tup [] ∧ st = [(0, .bx false 47 ((iY d p x).cells r1 r2))] ∧ g = (iY d p x).maps kS r1 r2) := by
 refine iU (N := 24) Tryz.func47 rfl Tryz.ntmps47 Tryz.results47 (by simp) ?_
 obtain ⟨L, R, steps, stamps, armed, down, n, m⟩ := d
 obtain ⟨di, da, ke, lo, an, sta⟩ := x
 simp only at hn hst
 simp only [bG, eQ, dB, iY]
 refine aA ?_; refine aC (fun K hK => ?_); simp (disch := omega) only [push_cast, ↓Int.cast_ofNat_Int, simprocAttr]; refine hK _ ?_; clear hK K
 refine aA ?_; refine aC (fun K hK => ?_); simp (disch := omega) only [push_cast, ↓Int.cast_ofNat_Int, simprocAttr]; refine hK _ ?_; clear hK K
 refine aA ?_; refine aC (fun K hK => ?_); simp (disch := omega) only [push_cast, ↓Int.cast_ofNat_Int, simprocAttr]; refine hK _ ?_; clear hK K
 refine aB ?_
 refine qFx 6 mixed (by kernel_rfl) (fun K1 hK1 => ?_)
 simp (disch := omega) only [push_cast, ↓Int.cast_ofNat_Int, simprocAttr]
 refine hK1 _ ?_; (try clear hK1 K1)
 refine qFy (i := 0) mtI rfl rfl rfl rfl (hn) rfl rfl (mx hs) rfl rfl ?_
 refine aW ?_
 skip
 simp only [aE, aL, yH, yE, yK, yJ, aG, zS, zM, Nat.reduceEqDiff, reduceIte, reduceCtorEq]
 refine bR [0] [] (by first | rfl | simp [bsL, MO.bs]) (by decide) (by decide) (by simp only [push_cast, simprocAttr]) (by simp only [push_cast, simprocAttr]) (by simp only [push_cast, simprocAttr]; rfl) (by simp only [push_cast, simprocAttr]; rfl) ?_
 exact ⟨rfl, rfl, by rw [← qQb]; rfl⟩
set_option maxHeartbeats 1000000 in
theorem qVa (d : Dk) (B : Int) (hd : d.Ok B) (hB : B ≤ 1099511627776) (v : ByteArray) (r1 r2 : Nat) :
  HFunM Tryz.prog 18 [.ptr 0 6 0 0, .v (.string v)] [(0, .bx false 47 (d.cells r1 r2))] (d.maps kS r1 r2) (fun h st g => h = .v (.int .i64 (used d v)) ∧ st = [(0, .bx false 47 (d.cells r1 r2))] ∧ g = d.maps kS r1 r2) := by
 refine iU (N := 30) Tryz.func18 rfl Tryz.ntmps18 Tryz.results18 (by simp) ?_
 obtain ⟨hri, hke, hto, -, -, -, -, -⟩ := hd
 obtain ⟨L, R, steps, stamps, armed, down, n, m⟩ := d
 simp only at hri hke hto
 simp only [bG, dB, used]
 refine aA ?_; refine aC (fun K hK => ?_); simp (disch := omega) only [push_cast, ↓Int.cast_ofNat_Int, simprocAttr]; refine hK _ ?_; clear hK K
 refine aA ?_; refine aC (fun K hK => ?_); simp (disch := omega) only [push_cast, ↓Int.cast_ofNat_Int, simprocAttr]; refine hK _ ?_; clear hK K
 refine aA ?_; refine aA ?_; refine aC (fun K hK => ?_); simp (disch := omega) only [push_cast, ↓Int.cast_ofNat_Int, simprocAttr]; refine hK _ ?_; clear hK K
 refine aB ?_
 refine bY rfl ?_
 refine aA ?_; refine bF ?_; refine aH 4 (fun K1 hK1 => ?_); simp (disch := omega) only [push_cast, ↓Int.cast_ofNat_Int, simprocAttr]; refine hK1 _ ?_; (try clear hK1 K1)
 refine qP5 (i := 0) mtI rfl rfl rfl rfl rfl fun it cnt => ?_
 refine aW ?_
 refine aB ?_; refine bL ?_
 refine xJ (ι := (List UInt8 → Bool) × Nat × Option (ByteArray × Value)) (fun q => ⟨[(0, .ptr 0 6 0 0), (1, .v (.string v)), (5, .v (.int .i64 (kG q.1 v L))), (14, .v (.pointer (some ⟨it, 0, none⟩)))], [(0, .bx false 47 [.v (.map (some r1)), .v (.map (some r2)), .v (.int .i64 steps), .v (.int .i64 stamps), .v (.int .i64 armed), .v (.bool down)])]⟩)
  (fun q => [.itr it r1 kS n (tab Itm.val L) q.1 q.2.1 q.2.2, .map r2 kS m (tab qSk R)]) (fun _ => True) (fun q => q.2.1) [0, 1, 5, 14] [0] (fun s => (tab Itm.val L s).isSome, cnt, none) ?_ rfl trivial ?_
 ·dsimp only
  rw [qF3 v fun e he => by rw [lV, nB hri he]; rfl]
  rfl
 ·rintro ⟨left, cn, cur⟩ -
  dsimp only
  refine aA ?_
  refine bF ?_
  refine qU5 (i := 0) mtI rfl rfl rfl rfl rfl (fun hz => ?_) (fun s w c' hl hM hsz hlt => ?_)
  ·refine aH 1 (fun K1 hK1 => ?_); simp (disch := omega) only [push_cast, ↓Int.cast_ofNat_Int, simprocAttr, aF, aD]; refine hK1 _ ?_; (try clear hK1 K1)
   refine aW ?_
   refine aA ?_
   refine bB rfl ?_
   refine iX ?_; refine dZ ?_; refine dZ ?_; refine iR ?_; refine aA ?_
   refine qZm (i := 0) rfl ?_
   refine aC (fun K hK => ?_); simp (disch := omega) only [push_cast, ↓Int.cast_ofNat_Int, simprocAttr]; refine hK _ ?_; clear hK K
   refine aB ?_; refine aY ?_
   simp only [aE, aL, yH, yE, yK, yJ, aG, zS, zM, Nat.reduceEqDiff, reduceIte, reduceCtorEq]
   refine bR [0] [] (by first | rfl | simp [bsL, MO.bs]) (by decide) (by decide) (by simp only [push_cast, simprocAttr]) (by simp only [push_cast, simprocAttr]) (by simp only [push_cast, simprocAttr]; rfl) (by simp only [push_cast, simprocAttr]; rfl) ?_
   exact ⟨by rw [qC5 v hz], rfl, rfl⟩
  ·obtain ⟨x, hx, rfl⟩ : ∃ x, bC L s = some x ∧ w = x.val := by
    rw [qC6] at hM
    cases hx : bC L s with
    | none => rw [hx] at hM; cases hM
    | some x => rw [hx] at hM; exact ⟨x, rfl, (Option.some.inj hM).symm⟩
   have hmem := jL hx
   have hss := hke _ hmem
   have hst := qF1 (v := v) hl hri hmem
   have hle := qBc (fun q => left q && !(q == s.data.toList)) v L
   have hle0 := qBc left v L
   generalize hW : kG left v L = W at *
   refine aH 1 (fun K1 hK1 => ?_); simp (disch := omega) only [push_cast, ↓Int.cast_ofNat_Int, simprocAttr, aF, aD, qQ3, eQ]; refine hK1 _ ?_; (try clear hK1 K1)
   refine aW ?_
   refine aA ?_
   refine bY rfl ?_
   refine aU ?_; refine aB ?_; refine bL ?_; refine aA ?_
   refine bF ?_
   refine qP6 (i := 0) rfl rfl rfl rfl rfl ?_
   refine aH 5 (fun K1 hK1 => ?_); simp (disch := omega) only [push_cast, ↓Int.cast_ofNat_Int, simprocAttr, aF, aD, qQ3, eQ]; refine hK1 _ ?_; (try clear hK1 K1)
   refine aW ?_
   refine aA ?_; refine aC (fun K hK => ?_); simp (disch := omega) only [push_cast, ↓Int.cast_ofNat_Int, simprocAttr]
   refine cG zFc (qWy s hss) (.cons (.v _) .nil) ?_
   with_reducible refine aM ?_; simp (disch := omega) only [push_cast, ↓Int.cast_ofNat_Int, simprocAttr]
   refine hK _ ?_; clear hK K
   refine aB ?_
   by_cases hv : vol s = v
   ·rw [if_pos hv] at hst
    refine aZ rfl (fun _ => ?_) (fun hf => by simp [hv] at hf)
    refine aC (fun K hK => ?_); simp (disch := omega) only [push_cast, ↓Int.cast_ofNat_Int, simprocAttr]; refine hK _ ?_; clear hK K
    refine bP ?_; refine aB ?_
    refine ⟨(fun q => left q && !(q == s.data.toList), c', some (s, x.val)), ?_, rfl, trivial, hlt⟩
    dsimp only
    rw [hst]
    rfl
   ·rw [if_neg hv] at hst
    refine aZ rfl (fun ht => by simp [hv] at ht) (fun _ => ?_)
    refine aU ?_; refine bP ?_; refine aB ?_
    refine ⟨(fun q => left q && !(q == s.data.toList), c', some (s, x.val)), ?_, rfl, trivial, hlt⟩
    dsimp only
    rw [hst, Int.add_zero]
    rfl
set_option maxHeartbeats 1000000 in
theorem qVq (d : Dk) (B : Int) (hd : d.Ok B) (hB : B ≤ 1099511627776) (p : ByteArray) (more : Int) (r1 r2 : Nat) (hs : p.size ≤ 1048576) (hm : -1099511627776 ≤ more ∧ more ≤ 1099511627776) :
  HFunM Tryz.prog 46 [.ptr 0 6 0 0, .v (.string p), .v (.int .i64 more)] [(0, .bx false 47 (d.cells r1 r2))] (d.maps kS r1 r2) (fun h st g => h = .v (.bool (iZ d p more)) ∧ st = [(0, .bx false 47 (d.cells r1 r2))] ∧ g = d.maps kS r1 r2) := by
 refine iU (N := 35) Tryz.func46 rfl Tryz.ntmps46 Tryz.results46 (by simp) ?_
 have hv := qWy p hs
 have hvs := qRf p
 have hu := qVa d B hd hB (vol p) r1 r2
 have hu0 : 0 ≤ used d (vol p) ∧ used d (vol p) ≤ tot d.L := by
  have := qBc (fun _ => false) (vol p) d.L
  rw [qC5 _ fun _ => rfl] at this
  exact this
 have hto := hd.size
 simp only [bG, dB] at hu ⊢
 unfold iZ
 refine aA ?_; refine aC (fun K hK => ?_); simp (disch := omega) only [push_cast, ↓Int.cast_ofNat_Int, simprocAttr]; refine hK _ ?_; clear hK K
 refine aA ?_
 refine zFp 11 mixed (by kernel_rfl) (fun K1 hK1 => ?_)
 refine qZo 6 (by decide) (fun K2 hK2 => ?_)
 simp (disch := omega) only [push_cast, ↓Int.cast_ofNat_Int, simprocAttr]
 refine gK zFc hv (.cons (.v _) .nil) ?_
 with_reducible refine aM ?_; simp (disch := omega) only [push_cast, ↓Int.cast_ofNat_Int, simprocAttr]
 refine hK2 _ ?_
 refine zFr (q := 1) rfl mtL rfl rfl rfl rfl rfl rfl (mx (Nat.le_trans hvs hs)) ?_
 refine qZo 4 (by decide) (fun K3 hK3 => ?_)
 simp (disch := omega) only [push_cast, ↓Int.cast_ofNat_Int, simprocAttr, aF, zCz, zCy]
 refine hK3 _ ?_
 refine zG4 ?_
 refine hK1 _ ?_; (try clear hK1 K1)
 refine aH 1 (fun K1 hK1 => ?_); simp (disch := omega) only [push_cast, ↓Int.cast_ofNat_Int, simprocAttr, aF, aD]; refine hK1 _ ?_; (try clear hK1 K1)
 refine aW ?_
 refine aT [0, 1, 2, 6, 7, 8] [0] (by simp only [zZ, zR, zP, zQ, zN, zS, zM, zX, zU, Nat.reduceEqDiff, reduceIte]; exact rfl) ?_
 cases hl : bC d.R (vol p) with
 | none =>
  dsimp only [Option.isSome, Option.getD]
  refine aA ?_; refine aC (fun K hK => ?_); simp (disch := omega) only [push_cast, ↓Int.cast_ofNat_Int, simprocAttr]; refine hK _ ?_; clear hK K
  refine aB ?_; refine aY ?_
  simp only [aE, aL, yH, yE, yK, yJ, aG, zS, zM, Nat.reduceEqDiff, reduceIte, reduceCtorEq]
  refine bR [0] [] (by first | rfl | simp [bsL, MO.bs]) (by decide) (by decide) (by simp only [push_cast, simprocAttr]) (by simp only [push_cast, simprocAttr]) (by simp only [push_cast, simprocAttr]; rfl) (by simp only [push_cast, simprocAttr]; rfl) ?_
  exact ⟨rfl, rfl, rfl⟩
 | some n =>
  dsimp only [Option.isSome, Option.getD]
  by_cases hm0 : more ≤ 0
  ·refine aA ?_; refine aC (fun K hK => ?_); simp (disch := omega) only [push_cast, ↓Int.cast_ofNat_Int, simprocAttr, hm0]; refine hK _ ?_; clear hK K
   refine aB ?_; refine aY ?_
   simp only [aE, aL, yH, yE, yK, yJ, aG, zS, zM, Nat.reduceEqDiff, reduceIte, reduceCtorEq]
   refine bR [0] [] (by first | rfl | simp [bsL, MO.bs]) (by decide) (by decide) (by simp only [push_cast, simprocAttr]) (by simp only [push_cast, simprocAttr]) (by simp only [push_cast, simprocAttr]; rfl) (by simp only [push_cast, simprocAttr]; rfl) ?_
   exact ⟨by simp [hm0], rfl, rfl⟩
  ·have e0 : decide (more ≤ 0) = false := decide_eq_false hm0
   rw [e0, Bool.false_or]
   refine aA ?_; refine bF ?_; refine aH 10 (fun K1 hK1 => ?_); simp (disch := omega) only [push_cast, ↓Int.cast_ofNat_Int, simprocAttr, e0]
   refine cG zFc hv (.cons (.v _) .nil) ?_
   with_reducible refine aM ?_; simp (disch := omega) only [push_cast, ↓Int.cast_ofNat_Int, simprocAttr]
   refine hK1 _ ?_; (try clear hK1 K1)
   refine bW 232 [0] zJq (hu) rfl rfl rfl rfl (by simp only [push_cast, simprocAttr]; exact rfl) (by decide) (by decide) (by decide) (by simp only [push_cast, simprocAttr]; try rfl) (by simp only [push_cast, simprocAttr]; try rfl) ?_
   rintro _ _ _ ⟨rfl, rfl, rfl⟩
   generalize used d (vol p) = U at *
   refine aH 6 (fun K1 hK1 => ?_); simp (disch := omega) only [push_cast, ↓Int.cast_ofNat_Int, simprocAttr, aF, aD]; refine hK1 _ ?_; (try clear hK1 K1)
   refine aW ?_
   refine aB ?_; refine aY ?_
   simp only [aE, aL, yH, yE, yK, yJ, aG, zS, zM, Nat.reduceEqDiff, reduceIte, reduceCtorEq]
   refine bR [0] [] (by first | rfl | simp [bsL, MO.bs]) (by decide) (by decide) (by simp only [push_cast, simprocAttr]) (by simp only [push_cast, simprocAttr]) (by simp only [push_cast, simprocAttr]; rfl) (by simp only [push_cast, simprocAttr]; rfl) ?_
   exact ⟨rfl, rfl, rfl⟩
end Go.Proofs.YtojolcpblacjjaaGreatDoor
