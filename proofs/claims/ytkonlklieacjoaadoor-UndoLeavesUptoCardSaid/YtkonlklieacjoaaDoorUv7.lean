/-
  UndoLeaves, where what comes in holds no more than a million.
-/
import Derived.Test.YtkonlklieacjoaaDoorRcc
import Derived.Test.YtkonlklieacjoaaDoorUp2
import Derived.Test.YtkonlklieacjoaaDoorUp7
section
set_option linter.unusedVariables false
set_option linter.unusedSimpArgs false
namespace Go.Proofs.YtkonlklieacjoaaDoor
open Go Go.Eng Go.RowKit Go.ChangeShapes Go.WideShapes Go.ChangeAt Go.Tr
def fwT (T : Tri) : Nat := fw (.lst false (ents T.1)) + (fw (.lst false (ents T.2.1)) + (fw (.lst false (ents T.2.2)) + 0))
theorem fwT_big {T : Tri} {n : Nat} (h : fwT T ≤ 1048576) : Big T := by
 unfold fwT at h
 obtain ⟨a1, a2⟩ := fw_ents T.1
 obtain ⟨b1, b2⟩ := fw_ents T.2.1
 obtain ⟨c1, c2⟩ := fw_ents T.2.2
 refine ⟨fun i hi => ?_, fun i hi e he => ?_⟩
 ·rcases three hi with rfl | rfl | rfl <;> simp only [tr] <;> omega
 ·rcases three hi with rfl | rfl | rfl
  ·have := (a2 e he).1; omega
  ·have := (b2 e he).1; omega
  ·have := (c2 e he).1; omega
theorem open_tri {H : Type} {enc : TypeId × Value → H} {P : Program} {w W : World} {n0 n base b : Nat} {R : Reach} {BK : DataW H → Nat} (hB : Bulk BK) {t : TypeId} {k : Nat} {e : TypeId} {v : Value} {d : DataW H} {p : List MemPlace}
  (hs : shOf P n t = some [.sl b [.str, .int .i64, .str], .sl b [.str, .int .i64, .str], .sl b [.str, .int .i64, .str]]) (hu : P.underlying t = some (.array k e)) (hv : Value.okWide P W R base t v) (h : DataW.Trod enc P w 0 (fun _ => true) true t v d p) (hw : ∀ m ∈ d.weights P t, m ≤ reachBytes) :
  ∃ T : Tri, RepH w (fun _ => False) n0 (fun _ => undef) v (triH T) ∧ fwT T ≤ BK d := by
 unfold Value.okWide at hv
 rw [hu] at hv
 obtain ⟨cs, rfl, -, -⟩ := hv
 obtain ⟨fuel, hf⟩ := h
 obtain ⟨gs, h3, h4⟩ := trod_fitU (n0 := n0) hB n t _ fuel _ _ hs hf hw
 have e : (Value.agg cs).cells.toList = cs.toList := rfl
 rw [e] at h3
 obtain ⟨l⟩ := cs
 dsimp only at h3
 cases h3 with
 | cons a0 o0 c0 r =>
 cases r with
 | cons a1 o1 c1 r =>
 cases r with
 | cons a2 o2 c2 r =>
 cases r
 obtain ⟨t0, rfl, -⟩ := fit_ents c0
 obtain ⟨t1, rfl, -⟩ := fit_ents c1
 obtain ⟨t2, rfl, -⟩ := fit_ents c2
 refine ⟨(t0, t1, t2), RepH.agg (hs := triL (t0, t1, t2)) rfl (fun j hj => ?_) (fun j h1 h2 => ?_), ?_⟩
 ·match j, hj with
  | 0, _ => exact o0
  | 1, _ => exact o1
  | 2, _ => exact o2
 ·match j, h1 with
  | 0, _ => exact RepF.toH a0
  | 1, _ => exact RepF.toH a1
  | 2, _ => exact RepF.toH a2
 ·simpa [fws, fwT] using h4
end Go.Proofs.YtkonlklieacjoaaDoor
end
section
set_option linter.unusedVariables false
namespace Go.Proofs.YtkonlklieacjoaaDoor
open Go Go.Eng Go.RowKit Go.Tr
theorem undoLeaves_U (A B S : Tri) (p : ByteArray) (hu : fwT A + (fwT B + (fwT S + (fw (.v (.string p)) + 0))) ≤ 1048576) : HFun Tryd.prog 11 [triH A, triH B, triH S, .v (.string p)] (fun h st => h = .v (.bool true)) :=
 undoLeaves_H A B S p (fwT_big (n := 0) (by omega)) (fwT_big (n := 0) (by omega)) (fwT_big (n := 0) (by omega))
end Go.Proofs.YtkonlklieacjoaaDoor
end
