/-
  Steps of a disk that are handed in, opened; how much they hold.
-/
import Derived.Test.YtojolcpblacjjaaGreatDoorTrC
import Derived.Test.YtojolcpblacjjaaGreatDoorGd
import Derived.Test.YtojolcpblacjjaaGreatDoorDsB
set_option linter.unusedVariables false
set_option linter.unusedSimpArgs false
namespace Go.Proofs.YtojolcpblacjjaaGreatDoor
open Go Go.Eng Go.RowKit Go.ChangeShapes Go.WideShapes Go.ChangeAt Go.Tr Go.Dk
def NR (n : Int) : Prop := -9223372036854775808 ≤ n ∧ n ≤ 9223372036854775807
theorem zGi {n : Int} (h : (Lit.int .i64 n).wf = true) : NR n := by
 simp only [Lit.wf, Bool.and_eq_true, decide_eq_true_eq] at h
 exact h
def zFt (s : Stp) : Nat := fw (.v (.int .i64 s.k)) + (fw (.v (.string s.P)) + (fw (.v (.string s.Q)) + fw (.v (.int .i64 s.N))))
theorem qZh {H : Type} {enc : TypeId × Value → H} {P : Program} {w W : World} {n0 n base : Nat} {R : Reach} {BK : DataW H → Nat} (hB : Bulk BK) {t : TypeId} {fs : Array Field} {v : Value} {d : DataW H} {p : List MemPlace}
  (hs : qEu P n t = some [.int .i64, .str, .str, .int .i64]) (hu : P.underlying t = some (.struct fs)) (hv : Value.okWide P W R base t v) (h : DataW.Trod enc P w 0 (fun _ => true) true t v d p) (hw : ∀ m ∈ d.weights P t, m ≤ reachBytes) :
  ∃ a : Stp, RepH w (fun _ => False) n0 (fun _ => undef) v (zGu a) ∧ zFt a ≤ BK d ∧ NR a.N := by
 unfold Value.okWide at hv
 rw [hu] at hv
 obtain ⟨cs, rfl, -, -⟩ := hv
 obtain ⟨fuel, hf⟩ := h
 obtain ⟨gs, h3, h4⟩ := oN (n0 := n0) hB n t _ fuel _ _ hs hf hw
 have e : (Value.agg cs).cells.toList = cs.toList := rfl
 rw [e] at h3
 obtain ⟨l⟩ := cs
 dsimp only at h3
 cases h3 with
 | cons a b c r =>
  cases r with
  | cons a2 b2 c2 r2 =>
   cases r2 with
   | cons a3 b3 c3 r3 =>
    cases r3 with
    | cons a4 b4 c4 r4 =>
     cases r4
     cases c
     cases c2
     cases c3
     cases c4
     cases a
     cases a2
     cases a3
     cases a4
     rename_i k _ x _ y _ m hm
     refine ⟨⟨k, x, y, m⟩, RepH.agg (cs := ⟨[.int .i64 k, .string x, .string y, .int .i64 m]⟩) (hs := [.v (.int .i64 k), .v (.string x), .v (.string y), .v (.int .i64 m)]) rfl (fun j hj => ?_) (fun j h1 h2 => ?_), ?_, zGi (by assumption)⟩
     ·match j, hj with
      | 0, _ => rfl
      | 1, _ => rfl
      | 2, _ => rfl
      | 3, _ => rfl
     ·match j, h1 with
      | 0, _ => exact .v _
      | 1, _ => exact .v _
      | 2, _ => exact .v _
      | 3, _ => exact .v _
     ·simpa [fws, zFt] using h4
theorem zDz {b : Nat} {f : FV} (h : Fit (.sl b [.int .i64, .str, .str, .int .i64]) f) : ∃ t : List Stp, f = .lst false (oP t) ∧ ∀ s ∈ t, NR s.N := by
 cases h with
 | sl hb hl h =>
  rename_i xs
  have : ∀ x ∈ xs, ∃ e : Stp, x = zAy e ∧ NR e.N := fun x hx => by
   have h1 := hl x hx
   match x, h1 with
   | [f0, f1, f2, f3], _ =>
   have a := h _ hx 0 (by simp) (by simp)
   have b := h _ hx 1 (by simp) (by simp)
   have c := h _ hx 2 (by simp) (by simp)
   have d := h _ hx 3 (by simp) (by simp)
   simp only [List.getElem_cons_zero, List.getElem_cons_succ] at a b c d
   cases a; cases b; cases c
   cases d with
   | int hm => exact ⟨⟨_, _, _, _⟩, rfl, zGi hm⟩
  clear hb hl h
  induction xs with
  | nil => exact ⟨[], rfl, fun s hs => by cases hs⟩
  | cons x r ih =>
   obtain ⟨e, rfl, he⟩ := this x (by simp)
   obtain ⟨t, ht, htn⟩ := ih (fun y hy => this y (by simp [hy]))
   simp only [FV.lst.injEq, true_and] at ht
   refine ⟨e :: t, by rw [ht]; rfl, fun s hs => ?_⟩
   rcases List.mem_cons.1 hs with rfl | hs
   ·exact he
   ·exact htn s hs
theorem zFs (l : List Stp) : rG l + l.length ≤ fw (.lst false (oP l)) ∧ ∀ s ∈ l, s.P.size ≤ fw (.lst false (oP l)) ∧ s.Q.size ≤ fw (.lst false (oP l)) := by
 rw [zCx]
 have : ∀ l : List Stp, rG l + l.length ≤ ((oP l).map fws).sum ∧ ∀ s ∈ l, s.P.size ≤ ((oP l).map fws).sum ∧ s.Q.size ≤ ((oP l).map fws).sum := by
  intro l
  induction l with
  | nil => exact ⟨Nat.le_refl _, by simp⟩
  | cons x r ih =>
   have e1 : ((oP (x :: r)).map fws).sum = fws (zAy x) + ((oP r).map fws).sum := by simp [oP]
   have e2 : x.P.size + x.Q.size + 2 ≤ fws (zAy x) := by simp [fws, zAy, zCw]; omega
   have e3 : rG (x :: r) = x.Q.size + rG r := by simp [rG]
   rw [e1, e3]
   refine ⟨by simp only [List.length_cons]; omega, fun e he => ?_⟩
   rcases List.mem_cons.1 he with rfl | he
   ·exact ⟨by omega, by omega⟩
   ·have := ih.2 e he; exact ⟨by omega, by omega⟩
 obtain ⟨h1, h2⟩ := this l
 exact ⟨by omega, fun e he => by have := h2 e he; exact ⟨by omega, by omega⟩⟩
theorem qTg (l : List Stp) (s : Stp) (p : ByteArray) (hl : ∀ x ∈ l, NR x.N) (hs : NR s.N) (hu : fw (.lst false (oP l)) + (zFt s + (fw (.v (.string p)) + 0)) ≤ 1048576) : HFun Tryz.prog 4 [.lst false (oP l), zGu s, .v (.string p)] (fun h st => h = .v (.bool true)) := by
 obtain ⟨h1, h2⟩ := zFs l
 simp only [zFt, zCw] at hu
 refine qTh l s p (fun x hx => ?_) ⟨by omega, by omega, hs⟩ (by omega) (by omega)
 have := h2 x hx
 exact ⟨by omega, by omega, hl x hx⟩
end Go.Proofs.YtojolcpblacjjaaGreatDoor
