/-
  The disk's functions that name no map: may, step; volumes, depths.
-/
import Derived.Test.YtojolcpblacjjaaGreatDoorMt
import Derived.Test.YtojolcpblacjjaaGreatDoorDk
import Derived.Test.YtojolcpblacjjaaGreatDoorTrH
set_option linter.unusedSimpArgs false
set_option linter.unusedVariables false
set_option maxRecDepth 20000
namespace Go.Proofs.YtojolcpblacjjaaGreatDoor
open Go Go.Eng Go.RowKit Go.Tr Go.Dk
abbrev kS : TypeId := 9
theorem mtI : MapTy Tryz.prog 44 9 65 itm0.val := ⟨by kernel_rfl, by kernel_rfl, fun w => by kernel_rfl⟩
theorem mtL : MapTy Tryz.prog 45 9 3 (.int .i64 0) := ⟨by kernel_rfl, by kernel_rfl, fun w => by kernel_rfl⟩
theorem zFa (p : ByteArray) (hs : p.size ≤ 1048576) : HFun Tryz.prog 71 [.v (.string p)] (fun h st => h = .v (.int .i64 (qDu p))) := by
 refine iB (N := 8) Tryz.func71 rfl Tryz.ntmps71 Tryz.results71 (by simp) ?_
 have hc := qZb p
 have hle : p.data.toList.count 47 ≤ p.size := by rw [Lib.size_eq]; exact List.count_le_length
 unfold qDu
 by_cases e : p = { data := #[] }
 ·subst e
  refine zE ?_; refine zJ (fun K hK => ?_); simp (disch := omega) only [push_cast, ↓Int.cast_ofNat_Int, simprocAttr]; refine hK _ ?_; clear hK K
  refine zE ?_; refine zE ?_; refine zJ (fun K hK => ?_); simp (disch := omega) only [push_cast, ↓Int.cast_ofNat_Int, simprocAttr]; refine hK _ ?_; clear hK K
  refine zA ?_
  refine yD rfl ?_
  refine zE ?_; refine zJ (fun K hK => ?_); simp (disch := omega) only [push_cast, ↓Int.cast_ofNat_Int, simprocAttr]; refine hK _ ?_; clear hK K
  refine zA ?_; refine zW ?_; refine zK ?_
  simp only [yA, yM, yH, yE, aP, aX, yK, yJ, zS, zM, Nat.reduceEqDiff, reduceIte, reduceCtorEq]
  exact bJ rfl
 ·rw [if_neg e]
  have e' : decide (p = { data := #[] }) = false := decide_eq_false e
  refine zE ?_; refine zJ (fun K hK => ?_); simp (disch := omega) only [push_cast, ↓Int.cast_ofNat_Int, simprocAttr]; refine hK _ ?_; clear hK K
  refine zE ?_; refine zE ?_; refine zJ (fun K hK => ?_); simp (disch := omega) only [push_cast, ↓Int.cast_ofNat_Int, simprocAttr, e']; refine hK _ ?_; clear hK K
  refine zA ?_
  refine yC rfl ?_
  refine zC ?_; refine zE ?_; refine zJ (fun K hK => ?_); simp (disch := omega) only [push_cast, ↓Int.cast_ofNat_Int, simprocAttr]
  refine cG zLc hc (.cons (.v _) (.cons (.v _) .nil)) ?_
  with_reducible refine aM ?_; simp (disch := omega) only [push_cast, ↓Int.cast_ofNat_Int, simprocAttr]
  refine hK _ ?_; clear hK K
  refine zA ?_; refine zW ?_
  simp only [yA, yM, yH, yE, aP, aX, yK, yJ, zS, zM, Nat.reduceEqDiff, reduceIte, reduceCtorEq]
  exact bJ rfl
theorem qM3 (d : Dk) (p : ByteArray) (k : Int) (r1 r2 : Nat) (hs : p.size ≤ 1048576) : HFunS Tryz.prog 43 [.ptr 0 6 0 0, .v (.string p), .v (.int .i64 k)] [(0, .bx false 47 (d.cells r1 r2))] (fun h st => h = .v (.int .i64 (may d p k)) ∧ st = [(0, .bx false 47 (d.cells r1 r2))]) := by
 refine kJ (N := 25) Tryz.func43 rfl Tryz.ntmps43 Tryz.results43 (by simp) ?_
 rw [bG]
 have hc : HFun Tryz.prog 60 [.v (.string p), .v (.int .i64 6)] (fun h st => h = .v (.int .i64 (okN (pOk p 6)))) := qSa p 6 hs (by decide)
 have hde := zFa p hs
 unfold may
 refine zE ?_; refine zJ (fun K hK => ?_); simp (disch := omega) only [push_cast, ↓Int.cast_ofNat_Int, simprocAttr]; refine hK _ ?_; clear hK K
 refine zE ?_; refine zD ?_; refine zE ?_; refine zJ (fun K hK => ?_); simp (disch := omega) only [push_cast, ↓Int.cast_ofNat_Int, simprocAttr]; refine hK _ ?_; clear hK K
 refine zA ?_
 refine yC rfl ?_
 refine zE ?_; refine zJ (fun K hK => ?_); simp (disch := omega) only [push_cast, ↓Int.cast_ofNat_Int, simprocAttr]; refine hK _ ?_; clear hK K
 refine zA ?_
 cases hd : d.down with
 | true =>
  refine yD rfl ?_
  refine zE ?_; refine zJ (fun K hK => ?_); simp (disch := omega) only [push_cast, ↓Int.cast_ofNat_Int, simprocAttr]; refine hK _ ?_; clear hK K
  refine zA ?_; refine zW ?_; refine zL ?_; refine zK ?_
  simp only [aK, aR, yH, yE, yK, yJ, aG, zS, zM, Nat.reduceEqDiff, reduceIte, reduceCtorEq]
  refine cJ [0] (by decide) (by decide) (by simp only [push_cast, simprocAttr]) (by simp only [push_cast, simprocAttr]) (by simp only [push_cast, simprocAttr]; rfl) (by simp only [push_cast, simprocAttr]; rfl) ?_
  exact ⟨rfl, rfl⟩
 | false =>
  refine yC rfl ?_
  cases hp : pOk p 6 with
  | false =>
   rw [hp] at hc
   have hc : HFun Tryz.prog 60 [.v (.string p), .v (.int .i64 6)] (fun h st => h = .v (.int .i64 10)) := hc
   refine zE ?_; refine zJ (fun K hK => ?_); simp (disch := omega) only [push_cast, ↓Int.cast_ofNat_Int, simprocAttr]
   refine cG zGx hc (.cons (.v _) (.cons (.v _) .nil)) ?_
   with_reducible refine aM ?_; simp (disch := omega) only [push_cast, ↓Int.cast_ofNat_Int, simprocAttr]
   refine hK _ ?_; clear hK K
   refine zA ?_
   refine yD rfl ?_
   refine zE ?_; refine zJ (fun K hK => ?_); simp (disch := omega) only [push_cast, ↓Int.cast_ofNat_Int, simprocAttr]; refine hK _ ?_; clear hK K
   refine zA ?_; refine zW ?_; refine zL ?_; refine zK ?_
   simp only [aK, aR, yH, yE, yK, yJ, aG, zS, zM, Nat.reduceEqDiff, reduceIte, reduceCtorEq]
   refine cJ [0] (by decide) (by decide) (by simp only [push_cast, simprocAttr]) (by simp only [push_cast, simprocAttr]) (by simp only [push_cast, simprocAttr]; rfl) (by simp only [push_cast, simprocAttr]; rfl) ?_
   exact ⟨by simp, rfl⟩
  | true =>
   rw [hp] at hc
   have hc : HFun Tryz.prog 60 [.v (.string p), .v (.int .i64 6)] (fun h st => h = .v (.int .i64 0)) := hc
   refine zE ?_; refine zJ (fun K hK => ?_); simp (disch := omega) only [push_cast, ↓Int.cast_ofNat_Int, simprocAttr]
   refine cG zGx hc (.cons (.v _) (.cons (.v _) .nil)) ?_
   with_reducible refine aM ?_; simp (disch := omega) only [push_cast, ↓Int.cast_ofNat_Int, simprocAttr]
   refine cG zJj hde (.cons (.v _) .nil) ?_
   with_reducible refine aM ?_; simp (disch := omega) only [push_cast, ↓Int.cast_ofNat_Int, simprocAttr]
   refine hK _ ?_; clear hK K
   refine zA ?_
   by_cases hk : qDu p ≤ k
   ·refine bE rfl (fun ht => ?_) (fun hf => by simp [hk] at hf)
    refine zE ?_; refine zJ (fun K hK => ?_); simp (disch := omega) only [push_cast, ↓Int.cast_ofNat_Int, simprocAttr]; refine hK _ ?_; clear hK K
    refine zA ?_; refine zW ?_; refine zL ?_; refine zK ?_
    simp only [aK, aR, yH, yE, yK, yJ, aG, zS, zM, Nat.reduceEqDiff, reduceIte, reduceCtorEq]
    refine cJ [0] (by decide) (by decide) (by simp only [push_cast, simprocAttr]) (by simp only [push_cast, simprocAttr]) (by simp only [push_cast, simprocAttr]; rfl) (by simp only [push_cast, simprocAttr]; rfl) ?_
    exact ⟨by simp [hk], rfl⟩
   ·refine bE rfl (fun ht => by simp [hk] at ht) (fun hf => ?_)
    refine zC ?_; refine zE ?_; refine zJ (fun K hK => ?_); simp (disch := omega) only [push_cast, ↓Int.cast_ofNat_Int, simprocAttr]; refine hK _ ?_; clear hK K
    refine zA ?_; refine zW ?_
    simp only [aK, aR, yH, yE, yK, yJ, aG, zS, zM, Nat.reduceEqDiff, reduceIte, reduceCtorEq]
    refine cJ [0] (by decide) (by decide) (by simp only [push_cast, simprocAttr]) (by simp only [push_cast, simprocAttr]) (by simp only [push_cast, simprocAttr]; rfl) (by simp only [push_cast, simprocAttr]; rfl) ?_
    exact ⟨by simp [hk], rfl⟩
theorem qC9 (d : Dk) (r1 r2 : Nat) (h1 : 0 ≤ d.steps ∧ d.steps < 4611686018427387904) (h2 : -1 ≤ d.armed ∧ d.armed ≤ 9223372036854775807) : HFunS Tryz.prog 45 [.ptr 0 6 0 0] [(0, .bx false 47 (d.cells r1 r2))] (fun h st => h = .v (.int .i64 (aS d).1) ∧ st = [(0, .bx false 47 ((aS d).2.cells r1 r2))]) := by
 refine kJ (N := 33) Tryz.func45 rfl Tryz.ntmps45 Tryz.results45 (by simp) ?_
 obtain ⟨L, R, steps, stamps, armed, down, n, m⟩ := d
 simp only at h1 h2
 simp only [bG]
 unfold aS
 refine zE ?_; refine zJ (fun K hK => ?_); simp (disch := omega) only [push_cast, ↓Int.cast_ofNat_Int, simprocAttr]; refine hK _ ?_; clear hK K
 refine zE ?_; refine zE ?_; refine zJ (fun K hK => ?_); simp (disch := omega) only [push_cast, ↓Int.cast_ofNat_Int, simprocAttr]; refine hK _ ?_; clear hK K
 refine zA ?_
 by_cases ha : armed = 0
 ·subst ha
  refine yD rfl ?_
  refine zE ?_; refine zJ (fun K hK => ?_); simp (disch := omega) only [push_cast, ↓Int.cast_ofNat_Int, simprocAttr]; refine hK _ ?_; clear hK K
  refine zE ?_; refine zJ (fun K hK => ?_); simp (disch := omega) only [push_cast, ↓Int.cast_ofNat_Int, simprocAttr]; refine hK _ ?_; clear hK K
  refine zA ?_; refine zW ?_; refine zK ?_
  simp only [aK, aR, yH, yE, yK, yJ, aG, zS, zM, Nat.reduceEqDiff, reduceIte, reduceCtorEq]
  refine cJ [0] (by decide) (by decide) (by simp only [push_cast, simprocAttr]) (by simp only [push_cast, simprocAttr]) (by simp only [push_cast, simprocAttr]; rfl) (by simp only [push_cast, simprocAttr]; rfl) ?_
  exact ⟨rfl, rfl⟩
 ·refine bE rfl (fun ht => by simp [ha] at ht) (fun _ => ?_)
  by_cases hg : 0 < armed
  ·refine zC ?_; refine zE ?_; refine zE ?_; refine zJ (fun K hK => ?_); simp (disch := omega) only [push_cast, ↓Int.cast_ofNat_Int, simprocAttr, hg]; refine hK _ ?_; clear hK K
   refine zA ?_
   refine bE rfl (fun _ => ?_) (fun hf => by simp [hg] at hf)
   refine zJ (fun K hK => ?_); simp (disch := omega) only [push_cast, ↓Int.cast_ofNat_Int, simprocAttr]; refine hK _ ?_; clear hK K
   refine zE ?_; refine zJ (fun K hK => ?_); simp (disch := omega) only [push_cast, ↓Int.cast_ofNat_Int, simprocAttr]; refine hK _ ?_; clear hK K
   refine zE ?_; refine zJ (fun K hK => ?_); simp (disch := omega) only [push_cast, ↓Int.cast_ofNat_Int, simprocAttr]; refine hK _ ?_; clear hK K
   refine zA ?_; refine zW ?_
   simp only [aK, aR, yH, yE, yK, yJ, aG, zS, zM, Nat.reduceEqDiff, reduceIte, reduceCtorEq]
   refine cJ [0] (by decide) (by decide) (by simp only [push_cast, simprocAttr]) (by simp only [push_cast, simprocAttr]) (by simp only [push_cast, simprocAttr]; rfl) (by simp only [push_cast, simprocAttr]; rfl) ?_
   rw [if_neg ha]
   exact ⟨rfl, by simp [hg]⟩
  ·refine zC ?_; refine zE ?_; refine zE ?_; refine zJ (fun K hK => ?_); simp (disch := omega) only [push_cast, ↓Int.cast_ofNat_Int, simprocAttr]; refine hK _ ?_; clear hK K
   refine zA ?_
   refine bE rfl (fun ht => by simp [hg] at ht) (fun _ => ?_)
   refine zC ?_; refine zE ?_; refine zJ (fun K hK => ?_); simp (disch := omega) only [push_cast, ↓Int.cast_ofNat_Int, simprocAttr]; refine hK _ ?_; clear hK K
   refine zE ?_; refine zJ (fun K hK => ?_); simp (disch := omega) only [push_cast, ↓Int.cast_ofNat_Int, simprocAttr]; refine hK _ ?_; clear hK K
   refine zA ?_; refine zW ?_
   simp only [aK, aR, yH, yE, yK, yJ, aG, zS, zM, Nat.reduceEqDiff, reduceIte, reduceCtorEq]
   refine cJ [0] (by decide) (by decide) (by simp only [push_cast, simprocAttr]) (by simp only [push_cast, simprocAttr]) (by simp only [push_cast, simprocAttr]; rfl) (by simp only [push_cast, simprocAttr]; rfl) ?_
   rw [if_neg ha]
   exact ⟨rfl, by simp [hg]⟩
end Go.Proofs.YtojolcpblacjjaaGreatDoor
