/-
  Plain: what is lost at a restart.
-/
import Derived.Test.YtojolcpblacjjaaDoorDkI
import Derived.Test.YtojolcpblacjjaaDoorItq
set_option linter.unusedSimpArgs false
set_option linter.unusedVariables false
namespace Go.Dk
open Go Go.Tr Go.Eng
def mixW (x k : Int) (s : Nat) : Int := IntKind.u64.wrap (bits .xor .u64 x (x.fdiv (2 ^ min s IntKind.u64.bits)) * k)
def mixD (a b : Int) : Int :=
 let z := mixW (mixW (IntKind.u64.wrap (a + IntKind.u64.wrap (b * 11400714819323198485))) 13787848793156543929 30) 10723151780598845931 27
 bits .xor .u64 z (z.fdiv (2 ^ min 31 IntKind.u64.bits))
theorem mix_range (a b : Int) : 0 ≤ mixD a b ∧ mixD a b < 18446744073709551616 := by
 unfold mixD
 generalize mixW _ _ _ = z
 generalize z.fdiv _ = y
 show 0 ≤ IntKind.u64.wrap _ ∧ IntKind.u64.wrap _ < _
 rw [IntKind.wrap_u64]
 omega
def cutR (pick : Int) (x : Itm) : ByteArray :=
 if x.anew = true then (if 0 < pick.tmod ((x.data.size : Int) + 2) then x.data.extract 0 (pick.tmod ((x.data.size : Int) + 2) - 1).toNat else x.kept)
 else x.data.extract 0 ((x.kept.size : Int) + pick.tmod ((x.data.size : Int) - x.kept.size + 1)).toNat
def lostI (pick : Int) (x : Itm) : Itm := { x with kept := cutR pick x, data := cutR pick x, loose := false, anew := false }
def restGo (loss : Int) : List ByteArray → Int → Dk → Dk
 | [], _, d => d
 | p :: r, n, d => if (item d p).loose = true then restGo loss r (n + 1) (setD d p (lostI (mixD (IntKind.u64.wrap loss) (IntKind.u64.wrap (n + 1))) (item d p))) else restGo loss r n d
def restart (d : Dk) (loss : Int) : Dk := { restGo loss (keysD d.L) 0 d with down := false, armed := -1 }
def LoI (x : Itm) : Prop := x.kept.size ≤ 2097152 ∧ x.data.size ≤ 2097152 ∧ (x.anew = false → x.kept.size ≤ x.data.size)
def Lo (d : Dk) : Prop := ∀ p, LoI (item d p)
theorem cut_size {pick : Int} {x : Itm} (h : LoI x) : (cutR pick x).size ≤ 2097152 := by
 obtain ⟨h1, h2, h3⟩ := h
 unfold cutR
 split
 ·split
  ·rw [ByteArray.size_extract]; omega
  ·exact h1
 ·rw [ByteArray.size_extract]; omega
theorem lo_lost {pick : Int} {x : Itm} (h : LoI x) : LoI (lostI pick x) := ⟨cut_size h, cut_size h, fun _ => Nat.le_refl _⟩
theorem lo_set {d : Dk} (h : Lo d) {p : ByteArray} {x : Itm} (hx : LoI x) : Lo (setD d p x) := fun q => by
 rw [item_set]
 split
 ·exact hx
 ·exact h q
theorem ok_setC {d : Dk} {B C : Int} (h : d.Ok B) (hC : 1 ≤ C) {p : ByteArray} {x : Itm} (hp : p.size ≤ 1048576) (hx : (x.data.size : Int) ≤ (item d p).data.size + C) : (setD d p x).Ok (B + C) := by
 have h1 := h.steps
 have h2 := h.stamps
 have h3 := h.armed
 have h4 := h.size
 have h5 := h.n
 have h6 := h.m
 have ht := tot_put p { x with stamp := d.stamps + 1 } h.rise
 refine ⟨rise_put _ _ h.rise, fun e he => ?_, ?_, by show ((d.n + 1 : Nat) : Int) ≤ _; omega, by show (d.m : Int) ≤ _; omega, by show 0 ≤ d.steps ∧ d.steps ≤ _; omega, by show 0 ≤ d.stamps + 1 ∧ d.stamps + 1 ≤ _; omega, h3⟩
 ·rcases mem_put he with rfl | he
  ·exact hp
  ·exact h.keys e he
 ·show tot (put p _ d.L) ≤ _
  rw [ht]
  have : ((lookD d.L p).getD itm0).data.size = (item d p).data.size := rfl
  rw [this]
  show tot d.L + (x.data.size : Int) - _ ≤ _
  omega
end Go.Dk
