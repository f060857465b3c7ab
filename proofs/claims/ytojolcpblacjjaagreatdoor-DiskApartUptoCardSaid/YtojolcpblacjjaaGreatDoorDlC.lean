/-
  A call of a disk leaves all other paths as they are: plain.
-/
import Derived.Test.YtojolcpblacjjaaGreatDoorItq
section
set_option linter.unusedSimpArgs false
set_option linter.unusedVariables false
namespace Go.Dk
open Go Go.Tr Go.Eng
def zBz (x k : Int) (s : Nat) : Int := IntKind.u64.wrap (bits .xor .u64 x (x.fdiv (2 ^ min s IntKind.u64.bits)) * k)
def qBa (a b : Int) : Int :=
 let z := zBz (zBz (IntKind.u64.wrap (a + IntKind.u64.wrap (b * 11400714819323198485))) 13787848793156543929 30) 10723151780598845931 27
 bits .xor .u64 z (z.fdiv (2 ^ min 31 IntKind.u64.bits))
theorem qLg (a b : Int) : 0 ≤ qBa a b ∧ qBa a b < 18446744073709551616 := by
 unfold qBa
 generalize zBz _ _ _ = z
 generalize z.fdiv _ = y
 show 0 ≤ IntKind.u64.wrap _ ∧ IntKind.u64.wrap _ < _
 rw [IntKind.wrap_u64]
 omega
def sP (pick : Int) (x : Itm) : ByteArray :=
 if x.anew = true then (if 0 < pick.tmod ((x.data.size : Int) + 2) then x.data.extract 0 (pick.tmod ((x.data.size : Int) + 2) - 1).toNat else x.kept)
 else x.data.extract 0 ((x.kept.size : Int) + pick.tmod ((x.data.size : Int) - x.kept.size + 1)).toNat
def xX (pick : Int) (x : Itm) : Itm := { x with kept := sP pick x, data := sP pick x, loose := false, anew := false }
def fP (loss : Int) : List ByteArray → Int → Dk → Dk
 | [], _, d => d
 | p :: r, n, d => if (aP d p).loose = true then fP loss r (n + 1) (gS d p (xX (qBa (IntKind.u64.wrap loss) (IntKind.u64.wrap (n + 1))) (aP d p))) else fP loss r n d
def restart (d : Dk) (loss : Int) : Dk := { fP loss (cW d.L) 0 d with down := false, armed := -1 }
def LoI (x : Itm) : Prop := x.kept.size ≤ 2097152 ∧ x.data.size ≤ 2097152 ∧ (x.anew = false → x.kept.size ≤ x.data.size)
def Lo (d : Dk) : Prop := ∀ p, LoI (aP d p)
theorem qJw {pick : Int} {x : Itm} (h : LoI x) : (sP pick x).size ≤ 2097152 := by
 obtain ⟨h1, h2, h3⟩ := h
 unfold sP
 split
 ·split
  ·rw [ByteArray.size_extract]; omega
  ·exact h1
 ·rw [ByteArray.size_extract]; omega
theorem qWx {pick : Int} {x : Itm} (h : LoI x) : LoI (xX pick x) := ⟨qJw h, qJw h, fun _ => Nat.le_refl _⟩
theorem zB1 {d : Dk} (h : Lo d) {p : ByteArray} {x : Itm} (hx : LoI x) : Lo (gS d p x) := fun q => by
 rw [qRm]
 split
 ·exact hx
 ·exact h q
theorem zFe {d : Dk} {B C : Int} (h : d.Ok B) (hC : 1 ≤ C) {p : ByteArray} {x : Itm} (hp : p.size ≤ 1048576) (hx : (x.data.size : Int) ≤ (aP d p).data.size + C) : (gS d p x).Ok (B + C) := by
 have h1 := h.steps
 have h2 := h.stamps
 have h3 := h.armed
 have h4 := h.size
 have h5 := h.n
 have h6 := h.m
 have ht := qVz p { x with stamp := d.stamps + 1 } h.rise
 refine ⟨rP _ _ h.rise, fun e he => ?_, ?_, by show ((d.n + 1 : Nat) : Int) ≤ _; omega, by show (d.m : Int) ≤ _; omega, by show 0 ≤ d.steps ∧ d.steps ≤ _; omega, by show 0 ≤ d.stamps + 1 ∧ d.stamps + 1 ≤ _; omega, h3⟩
 ·rcases xW he with rfl | he
  ·exact hp
  ·exact h.keys e he
 ·show tot (put p _ d.L) ≤ _
  rw [ht]
  have : ((aT d.L p).getD itm0).data.size = (aP d p).data.size := rfl
  rw [this]
  show tot d.L + (x.data.size : Int) - _ ≤ _
  omega
end Go.Dk
end
section
set_option linter.unusedSimpArgs false
set_option linter.unusedVariables false
set_option maxRecDepth 20000
namespace Go.Proofs.YtojolcpblacjjaaGreatDoor
open Go Go.Eng Go.RowKit Go.Tr Go.Dk
theorem qM4 (d : Dk) : (aS d).2.L = d.L := by unfold aS; split <;> rfl
theorem qXy (d : Dk) (p : ByteArray) (x : Itm) {q : ByteArray} (h : q ≠ p) : aT (gS d p x).L q = aT d.L q := by
 show aT (put p _ d.L) q = _
 rw [kL, if_neg h]
theorem zC0 (d : Dk) (p : ByteArray) {q : ByteArray} (h : q ≠ p) : aT (dJ d p).2.L q = aT d.L q := by
 unfold dJ
 (repeat' split) <;> first | rfl | (simp only [kL, if_neg h, qM4])
theorem zCy (d : Dk) (p s : ByteArray) {q : ByteArray} (h : q ≠ p) : aT (cX d p s).2.L q = aT d.L q := by
 unfold cX
 (repeat' split) <;> first | rfl | (simp only [qXy _ _ _ h, qM4]; done)
theorem qZ3 (d : Dk) (p s : ByteArray) {q : ByteArray} (h : q ≠ p) : aT (append d p s).2.L q = aT d.L q := by
 unfold append
 (repeat' split) <;> first | rfl | (simp only [qXy _ _ _ h, qM4]; done)
theorem zFu (d : Dk) (p : ByteArray) {q : ByteArray} (h : q ≠ p) : aT (kU d p).2.L q = aT d.L q := by
 unfold kU
 (repeat' split) <;> first | rfl | (simp only [kL, if_neg h, qM4]; done)
theorem qZ1 (d : Dk) (a b : ByteArray) {q : ByteArray} (h : q ≠ a) (h2 : q ≠ b) : aT (cU d a b).2.L q = aT d.L q := by
 have aux : ∀ (e m : Int), aT ((if e ≠ 0 then (e, d) else if has d a = false ∨ eJ d b = false then (11, d) else if (aP d a).dir = true ∨ (aP d b).dir = true then (12, d) else if a ≠ b ∧ gX d b m = false then (13, d) else if (aS d).1 ≠ 0 then aS d else (0, gS { (aS d).2 with L := del a d.L } b (aP d a)) : Int × Dk)).2.L q = aT d.L q := by
  intro e m
  (repeat' split) <;> first | rfl | (simp only [qXy _ _ _ h2, mL, if_neg h, qM4]; done)
 exact aux _ _
theorem zC1 (d : Dk) (v : ByteArray) (k : Int) (q : ByteArray) : aT (dK d v k).2.L q = aT d.L q := by
 unfold dK
 (repeat' split) <;> rfl
def rA (d : Dk) (p : ByteArray) : List ByteArray := (d.L.filter fun e => decide (par e.1 = p)).map fun e => e.1
def cL (d : Dk) (p : ByteArray) : Int × Dk :=
 if may d p 0 ≠ 0 then (may d p 0, d) else if has d p = false then (11, d) else if rA d p ≠ [] then (12, d) else if (aS d).1 ≠ 0 then aS d else
  (0, { (aS d).2 with L := del p d.L })
def qEc (d : Dk) (p : ByteArray) : Int := (aP d p).stamp
def oC (f : ByteArray → ByteArray) (d : Dk) (p : ByteArray) : Int × Dk :=
 if eU d p ≠ 0 then (eU d p, d) else (0, gS d p { aP d p with data := f (aP d p).data, kept := f (aP d p).kept })
theorem qZ2 (d : Dk) (p : ByteArray) {q : ByteArray} (h : q ≠ p) : aT (cL d p).2.L q = aT d.L q := by
 unfold cL
 (repeat' split) <;> first | rfl | (simp only [mL, if_neg h, qM4]; done)
theorem zHl (f : ByteArray → ByteArray) (d : Dk) (p : ByteArray) {q : ByteArray} (h : q ≠ p) : aT (oC f d p).2.L q = aT d.L q := by
 unfold oC
 (repeat' split) <;> first | rfl | (simp only [qXy _ _ _ h]; done)
theorem zCz {d e : Dk} {q : ByteArray} (h : aT e.L q = aT d.L q) : qEc e q = qEc d q := by
 unfold qEc aP
 rw [h]
theorem zFw {d e : Dk} {q : ByteArray} (h : aT e.L q = aT d.L q) : gE e q = gE d q := by
 unfold gE has aP
 rw [h]
theorem zFv {d e : Dk} {q : ByteArray} (h : aT e.L q = aT d.L q) (hd : e.down = d.down) : mF e q = mF d q := by
 unfold mF has aP
 rw [h, hd]
end Go.Proofs.YtojolcpblacjjaaGreatDoor
end
