/-
  Three trees, a record that are handed in, opened; how much they hold.
-/
import Derived.Test.YtkonlklieacjoaaDoorTsB
import Derived.Test.YtkonlklieacjoaaDoorOne
import Derived.Test.YtkonlklieacjoaaDoorUch
import Derived.Test.YtkonlklieacjoaaDoorUpl
import Derived.Test.YtkonlklieacjoaaDoorUnB
import Derived.Test.YtkonlklieacjoaaDoorRdd
import Derived.Test.YtkonlklieacjoaaDoorRcv
section
set_option linter.unusedSimpArgs false
set_option linter.unusedVariables false
set_option maxRecDepth 20000
namespace Go.Proofs.YtkonlklieacjoaaDoor
open Go Go.Eng Go.RowKit Go.Tr
end Go.Proofs.YtkonlklieacjoaaDoor
end
section
set_option linter.unusedSimpArgs false
set_option linter.unusedVariables false
set_option maxRecDepth 20000
namespace Go.Tr
open Go Go.Eng Go.RowKit
end Go.Tr
namespace Go.Proofs.YtkonlklieacjoaaDoor
open Go Go.Eng Go.RowKit Go.Tr
end Go.Proofs.YtkonlklieacjoaaDoor
end
section
set_option linter.unusedSimpArgs false
set_option linter.unusedVariables false
namespace Go.Tr
open Go Go.Lib
set_option maxRecDepth 20000
end Go.Tr
end
section
set_option linter.unusedSimpArgs false
set_option linter.unusedVariables false
set_option maxRecDepth 20000
namespace Go.Tr
open Go Go.Eng
theorem zJ2 (T : Tri) : zJ3 T = true ↔ Tree3 T := by
 unfold zJ3
 simp only [Bool.and_eq_true, decide_eq_true_eq, qGu]
 exact ⟨fun ⟨a, b, c⟩ => ⟨a, b, c⟩, fun ⟨a, b, c⟩ => ⟨a, b, c⟩⟩
structure Big (T : Tri) : Prop where
 len : ∀ i, i < 3 → (tr T i).length ≤ 1048576
 size : ∀ i, i < 3 → ∀ e ∈ tr T i, e.1.size ≤ 1048576
theorem Tree3.big {T : Tri} (h : Tree3 T) : Big T := ⟨fun i _ => by have := (h.tr i).len; omega, fun i _ => (h.tr i).size⟩
theorem Tree3.len {T : Tri} (h : Tree3 T) : ∀ i, i < 3 → (Go.Tr.tr T i).length ≤ 200 := fun i _ => (h.tr i).len
theorem zG7 {st : aD} {i j k : Int} {L : List Chg} {h : HV} (l : Lend st h (.lst false (chs L))) : Lend st (.agg [.v (.int .i64 i), .v (.int .i64 j), .v (.int .i64 k), h]) (qYe i j k L) := .agg rfl fun m h1 h2 => by
 match m, h1 with
 | 0, _ => exact .v _
 | 1, _ => exact .v _
 | 2, _ => exact .v _
 | 3, _ => exact l
end Go.Tr
namespace Go.Proofs.YtkonlklieacjoaaDoor
open Go Go.Eng Go.RowKit Go.Tr
end Go.Proofs.YtkonlklieacjoaaDoor
end
section
set_option linter.unusedVariables false
set_option linter.unusedSimpArgs false
namespace Go.Proofs.YtkonlklieacjoaaDoor
open Go Go.Eng Go.RowKit Go.ChangeShapes Go.WideShapes Go.ChangeAt Go.Tr
def fwT (T : Tri) : Nat := fw (.lst false (aH T.1)) + (fw (.lst false (aH T.2.1)) + (fw (.lst false (aH T.2.2)) + 0))
abbrev zLw := Int × Int × Int × List Chg
abbrev zP8 (a : zLw) : HV := qYe a.1 a.2.1 a.2.2.1 a.2.2.2
def fwR (a : zLw) : Nat := fw (.lst false (chs a.2.2.2))
theorem zLf {T : Tri} {n : Nat} (h : fwT T ≤ 1048576) : Big T := by
 unfold fwT at h
 obtain ⟨a1, a2⟩ := qTa T.1
 obtain ⟨b1, b2⟩ := qTa T.2.1
 obtain ⟨c1, c2⟩ := qTa T.2.2
 refine ⟨fun i hi => ?_, fun i hi e he => ?_⟩
 ·rcases oG hi with rfl | rfl | rfl <;> simp only [tr] <;> omega
 ·rcases oG hi with rfl | rfl | rfl
  ·have := (a2 e he).1; omega
  ·have := (b2 e he).1; omega
  ·have := (c2 e he).1; omega
theorem zGx {H : Type} {enc : TypeId × Value → H} {P : Program} {w W : World} {n0 n base b : Nat} {R : Reach} {BK : DataW H → Nat} (hB : Bulk BK) {t : TypeId} {k : Nat} {e : TypeId} {v : Value} {d : DataW H} {p : List MemPlace}
  (hs : qNa P n t = some [.sl b [.str, .int .i64, .str], .sl b [.str, .int .i64, .str], .sl b [.str, .int .i64, .str]]) (hu : P.underlying t = some (.array k e)) (hv : Value.okWide P W R base t v) (h : DataW.Trod enc P w 0 (fun _ => true) true t v d p) (hw : ∀ m ∈ d.weights P t, m ≤ reachBytes) :
  ∃ T : Tri, RepH w (fun _ => False) n0 (fun _ => undef) v (uY T) ∧ fwT T ≤ BK d := by
 unfold Value.okWide at hv
 rw [hu] at hv
 obtain ⟨cs, rfl, -, -⟩ := hv
 obtain ⟨fuel, hf⟩ := h
 obtain ⟨gs, h3, h4⟩ := rY (n0 := n0) hB n t _ fuel _ _ hs hf hw
 have e : (Value.agg cs).cells.toList = cs.toList := rfl
 rw [e] at h3
 obtain ⟨l⟩ := cs
 dsimp only at h3
 cases h3 with
 | cons a0 o0 c0 r =>
 cases r with
 | cons a1 o1 c1 r =>
 cases r with
 | cons a2 o2 c2 r =>
 cases r
 obtain ⟨t0, rfl, -⟩ := qL8 c0
 obtain ⟨t1, rfl, -⟩ := qL8 c1
 obtain ⟨t2, rfl, -⟩ := qL8 c2
 refine ⟨(t0, t1, t2), RepH.agg (hs := iR (t0, t1, t2)) rfl (fun j hj => ?_) (fun j h1 h2 => ?_), ?_⟩
 ·match j, hj with
  | 0, _ => exact o0
  | 1, _ => exact o1
  | 2, _ => exact o2
 ·match j, h1 with
  | 0, _ => exact RepF.toH a0
  | 1, _ => exact RepF.toH a1
  | 2, _ => exact RepF.toH a2
 ·simpa [fws, fwT] using h4
abbrev zPd : List Sh := [.str, .int .i64, .int .i64, .str, .int .i64, .str, .int .i64, .str, .int .i64, .str, .int .i64, .str, .int .i64, .str]
theorem zLh {b : Nat} {f : FV} (h : Fit (.sl b zPd) f) : ∃ l : List Chg, f = .lst false (chs l) := by
 cases h with
 | sl hb hl h =>
  rename_i xs
  have : ∀ x ∈ xs, ∃ c : Chg, x = qXj c := fun x hx => by
   have h1 := hl x hx
   match x, h1 with
   | [f0, f1, f2, f3, f4, f5, f6, f7, f8, f9, f10, f11, f12, f13], _ =>
   have g := h _ hx
   have g0 := g 0 (by simp) (by simp)
   have g1 := g 1 (by simp) (by simp)
   have g2 := g 2 (by simp) (by simp)
   have g3 := g 3 (by simp) (by simp)
   have g4 := g 4 (by simp) (by simp)
   have g5 := g 5 (by simp) (by simp)
   have g6 := g 6 (by simp) (by simp)
   have g7 := g 7 (by simp) (by simp)
   have g8 := g 8 (by simp) (by simp)
   have g9 := g 9 (by simp) (by simp)
   have g10 := g 10 (by simp) (by simp)
   have g11 := g 11 (by simp) (by simp)
   have g12 := g 12 (by simp) (by simp)
   have g13 := g 13 (by simp) (by simp)
   simp only [List.getElem_cons_zero, List.getElem_cons_succ] at g0 g1 g2 g3 g4 g5 g6 g7 g8 g9 g10 g11 g12 g13
   cases g0; cases g1; cases g2; cases g3; cases g4; cases g5; cases g6; cases g7; cases g8; cases g9; cases g10; cases g11; cases g12; cases g13
   exact ⟨⟨_, _, (_, _), (_, _), (_, _), (_, _), (_, _), (_, _)⟩, rfl⟩
  clear hb hl h
  induction xs with
  | nil => exact ⟨[], rfl⟩
  | cons x r ih =>
   obtain ⟨e, rfl⟩ := this x (by simp)
   obtain ⟨t, ht⟩ := ih (fun y hy => this y (by simp [hy]))
   simp only [FV.lst.injEq, true_and] at ht
   exact ⟨e :: t, by rw [ht]; rfl⟩
theorem zN2 (l : List Chg) : l.length ≤ fw (.lst false (chs l)) ∧ ∀ c ∈ l, c.p.size ≤ fw (.lst false (chs l)) := by
 rw [qY6]
 have : ∀ l : List Chg, l.length ≤ ((chs l).map fws).sum ∧ ∀ c ∈ l, c.p.size ≤ ((chs l).map fws).sum := by
  intro l
  induction l with
  | nil => exact ⟨Nat.le_refl _, by simp⟩
  | cons x r ih =>
   have e1 : ((chs (x :: r)).map fws).sum = fws (qXj x) + ((chs r).map fws).sum := by simp [chs]
   have e2 : x.p.size + 1 ≤ fws (qXj x) := by simp [fws, qXj, zH1]
   rw [e1]
   refine ⟨by simp only [List.length_cons]; omega, fun c hc => ?_⟩
   rcases List.mem_cons.1 hc with rfl | hc
   ·omega
   ·have := ih.2 c hc; omega
 obtain ⟨h1, h2⟩ := this l
 exact ⟨by omega, fun c hc => by have := h2 c hc; omega⟩
theorem zGy {H : Type} {enc : TypeId × Value → H} {P : Program} {w W : World} {n0 n base b : Nat} {R : Reach} {BK : DataW H → Nat} (hB : Bulk BK) {t : TypeId} {fs : Array Field} {v : Value} {d : DataW H} {p : List MemPlace}
  (hs : qNa P n t = some [.int .i64, .int .i64, .int .i64, .sl b zPd]) (hu : P.underlying t = some (.struct fs)) (hv : Value.okWide P W R base t v) (h : DataW.Trod enc P w 0 (fun _ => true) true t v d p) (hw : ∀ m ∈ d.weights P t, m ≤ reachBytes) :
  ∃ a : zLw, RepH w (fun _ => False) n0 (fun _ => undef) v (zP8 a) ∧ fwR a ≤ BK d := by
 unfold Value.okWide at hv
 rw [hu] at hv
 obtain ⟨cs, rfl, -, -⟩ := hv
 obtain ⟨fuel, hf⟩ := h
 obtain ⟨gs, h3, h4⟩ := rY (n0 := n0) hB n t _ fuel _ _ hs hf hw
 have e : (Value.agg cs).cells.toList = cs.toList := rfl
 rw [e] at h3
 obtain ⟨l⟩ := cs
 dsimp only at h3
 cases h3 with
 | cons a0 o0 c0 r =>
 cases r with
 | cons a1 o1 c1 r =>
 cases r with
 | cons a2 o2 c2 r =>
 cases r with
 | cons a3 o3 c3 r =>
 cases r
 obtain ⟨L, rfl⟩ := zLh c3
 cases c0
 cases c1
 cases c2
 cases a0
 cases a1
 cases a2
 rename_i v i _ j _ k _
 refine ⟨(i, j, k, L), RepH.agg (hs := iT i j k L) rfl (fun m hj => ?_) (fun m h1 h2 => ?_), ?_⟩
 ·match m, hj with
  | 0, _ => rfl
  | 1, _ => rfl
  | 2, _ => rfl
  | 3, _ => exact o3
 ·match m, h1 with
  | 0, _ => exact .v _
  | 1, _ => exact .v _
  | 2, _ => exact .v _
  | 3, _ => exact RepF.toH a3
 ·simp only [fws, List.map_cons, List.map_nil, List.sum_cons, List.sum_nil] at h4
  unfold fwR
  dsimp only
  omega
end Go.Proofs.YtkonlklieacjoaaDoor
end
