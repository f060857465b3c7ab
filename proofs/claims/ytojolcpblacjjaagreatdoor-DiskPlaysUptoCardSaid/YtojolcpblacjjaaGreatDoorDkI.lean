/-
  Plain: what puts and calls do to a disk's bounds and to its volumes' bytes; a volume that fills up.
-/
import Derived.Test.YtojolcpblacjjaaGreatDoorRkA
import Derived.Test.YtojolcpblacjjaaGreatDoorTrJ
import Derived.Test.YtojolcpblacjjaaGreatDoorDk
import Derived.KernelRfl
section
set_option linter.unusedSimpArgs false
set_option linter.unusedVariables false
set_option maxRecDepth 20000
namespace Go.Dk
open Go Go.Eng Go.Tr
def rcF (d : Dk) (R : LN) : List FV := [.lst false (dS d.L), .lst false (rms R), .v (.int .i64 d.steps), .v (.int .i64 d.stamps), .v (.int .i64 d.armed), .v (.bool d.down)]
theorem mB (d : Dk) (R : LN) : rcF d R = [.lst false (dS d.L), .lst false (rms R), .v (.int .i64 d.steps), .v (.int .i64 d.stamps), .v (.int .i64 d.armed), .v (.bool d.down)] := (fun h => h) rfl
abbrev dE (d : Dk) (R : LN) : HV := .elt false [rcF d R] 6 0 0
theorem zGb (d : Dk) (R : LN) : mD [rcF d R] = [rcF d R] := by
 have h1 := qSy d.L
 have h2 := qXa R
 unfold mD at h1 h2 ⊢
 simp only [rcF, List.map_cons, List.map_nil, FV.old]
 rw [h1, h2]
theorem qB (d : Dk) (R : LN) : Wid 6 [rcF d R] = True := eq_true fun x hx => by rw [List.mem_singleton.1 hx]; rfl
theorem qC (d : Dk) (R : LN) (e : List FV) : [rcF d R].getD 0 e = rcF d R := rfl
theorem qM7 {st : aN} (d : Dk) (R : LN) : Lend st (dE d R) (dE d R) := by
 have := Lend.elt (st := st) false [rcF d R] 6 0 0
 rw [zGb] at this
 exact this
abbrev zH8 (p : ByteArray) (x : Itm) : HV := .agg [.v (.string p), .v (.bool x.dir), .v (.string x.data), .v (.string x.kept), .v (.bool x.loose), .v (.bool x.anew), .v (.int .i64 x.stamp)]
theorem wC {d : Dk} {p : ByteArray} (h : plc p d.L = none) : hZ d p = 0 := by
 rw [hZ, has, (oF h).1]; rfl
theorem mN {d : Dk} {p : ByteArray} {i : Nat} (h : plc p d.L = some i) : ∃ hi : i < d.L.length, d.L[i].1 = p ∧ aQ d p = d.L[i].2 ∧ has d p = true ∧ hZ d p = if d.L[i].2.dir = true then 1 else 2 := by
 obtain ⟨hi, e1, e2⟩ := vX h
 have e3 : aQ d p = d.L[i].2 := by rw [aQ, e2]; rfl
 have e4 : has d p = true := by rw [has, e2]; rfl
 refine ⟨hi, e1, e3, e4, ?_⟩
 rw [hZ, e3, e4]; rfl
theorem qMn {α : Type} {p : ByteArray} {L : List (ByteArray × α)} (h : plc p L = none) : zCr p L = -1 := by rw [zCr, h]
theorem fR {α : Type} {p : ByteArray} {L : List (ByteArray × α)} {i : Nat} (h : plc p L = some i) : zCr p L = i := by rw [zCr, h]
def qYi (d : Dk) (p : ByteArray) : Bool := decide (par p = { data := #[] }) || decide (hZ d (par p) = 1)
end Go.Dk
namespace Go.Proofs.YtojolcpblacjjaaGreatDoor
open Go Go.Eng Go.RowKit Go.Tr Go.Dk
set_option maxHeartbeats 1000000 in
theorem jW (d : Dk) (R : LN) (p : ByteArray) (hl : d.L.length ≤ 4194304) : HFun Tryz.prog 53 [dE d R, .v (.string p)] (fun h st => h = .v (.int .i64 (zCr p d.L))) := by
 refine iB (N := 26) Tryz.func53 rfl Tryz.ntmps53 Tryz.results53 (by simp) ?_
 have hw := qB d R
 have hg := qC d R
 obtain ⟨L, Rq, steps, stamps, armed, down, n, m⟩ := d
 simp only [dE, mB] at hl hw hg ⊢
 refine zE ?_; refine zJ (fun K hK => ?_); simp (disch := omega) only [push_cast, ↓Int.cast_ofNat_Int, simprocAttr]; refine hK _ ?_; clear hK K
 refine zE ?_; refine zE ?_; refine zJ (fun K hK => ?_); simp (disch := omega) only [push_cast, ↓Int.cast_ofNat_Int, simprocAttr]; refine hK _ ?_; clear hK K
 refine zA ?_; refine zD ?_
 refine dU (fun i : Nat => ⟨[(0, .elt false [[.lst false (dS L), .lst false (rms R), .v (.int .i64 steps), .v (.int .i64 stamps), .v (.int .i64 armed), .v (.bool down)]] 6 0 0), (1, .v (.string p)), (5, .v (.int .i64 i))], []⟩) (fun i => i ≤ L.length ∧ ∀ k (h : k < L.length), k < i → L[k].1 ≠ p) (fun i => L.length - i) [0, 1, 5] [] 0 rfl ⟨Nat.zero_le _, fun k h hk => absurd hk (Nat.not_lt_zero _)⟩ ?_
 rintro i ⟨hi, hn⟩
 by_cases hlt : i < L.length
 ·refine zE ?_; refine zE ?_; refine zJ (fun K hK => ?_); simp (disch := omega) only [push_cast, ↓Int.cast_ofNat_Int, simprocAttr, bD, hw, hg]; refine hK _ ?_; clear hK K
  refine zA ?_
  refine yD rfl ?_
  refine zC ?_; refine zE ?_
  by_cases he : L[i].1 = p
  ·have hd : decide (L[i].1 = p) = true := decide_eq_true he
   rw [fR (qG8 hlt hn he)]
   refine zD ?_; refine zE ?_; refine zJ (fun K hK => ?_); simp (disch := omega) only [push_cast, ↓Int.cast_ofNat_Int, simprocAttr, bD, bQ, bV hlt, hd, hw, hg]; refine hK _ ?_; clear hK K
   refine yD rfl ?_
   refine zE ?_; refine zJ (fun K hK => ?_); simp (disch := omega) only [push_cast, ↓Int.cast_ofNat_Int, simprocAttr]; refine hK _ ?_; clear hK K
   refine zA ?_; refine zW ?_; refine zL ?_; refine zK ?_; refine zK ?_; refine zL ?_; refine zK ?_
   simp only [yA, yM, yH, yE, aP, aX, yK, yJ, zS, zM, Nat.reduceEqDiff, reduceIte, reduceCtorEq]
   exact bJ rfl
  ·have hd : decide (L[i].1 = p) = false := decide_eq_false he
   refine zD ?_; refine zE ?_; refine zJ (fun K hK => ?_); simp (disch := omega) only [push_cast, ↓Int.cast_ofNat_Int, simprocAttr, bD, bQ, bV hlt, hd, hw, hg]; refine hK _ ?_; clear hK K
   refine yC rfl ?_
   refine zC ?_; refine zB ?_; refine zA ?_
   refine zJ (fun K hK => ?_); simp (disch := omega) only [push_cast, ↓Int.cast_ofNat_Int, simprocAttr]; refine hK _ ?_; clear hK K
   refine zA ?_
   refine ⟨i + 1, rfl, ⟨hlt, fun k hk hk2 => ?_⟩, by omega⟩
   by_cases e : k = i
   ·subst e; exact he
   ·exact hn k hk (by omega)
 ·refine zE ?_; refine zE ?_; refine zJ (fun K hK => ?_); simp (disch := omega) only [push_cast, ↓Int.cast_ofNat_Int, simprocAttr, bD, hw, hg]; refine hK _ ?_; clear hK K
  refine zA ?_
  refine yC rfl ?_
  rw [qMn (qQu fun k hk => hn k hk (by omega))]
  refine zT ?_; refine zG ?_; refine zG ?_; refine zH ?_; refine zE ?_
  refine zJ (fun K hK => ?_); simp (disch := omega) only [push_cast, ↓Int.cast_ofNat_Int, simprocAttr]; refine hK _ ?_; clear hK K
  refine zA ?_; refine zW ?_
  simp only [yA, yM, yH, yE, aP, aX, yK, yJ, zS, zM, Nat.reduceEqDiff, reduceIte, reduceCtorEq]
  exact bJ rfl
set_option maxHeartbeats 1000000 in
theorem kZ (d : Dk) (R : LN) (p : ByteArray) (hl : d.L.length ≤ 4194304) : HFun Tryz.prog 37 [dE d R, .v (.string p)] (fun h st => h = .v (.int .i64 (hZ d p))) := by
 refine iB (N := 19) Tryz.func37 rfl Tryz.ntmps37 Tryz.results37 (by simp) ?_
 have hc := jW d R p hl
 have hE := qM7 (st := []) d R
 cases hp : plc p d.L with
 | none =>
  rw [wC hp]
  rw [qMn hp] at hc
  refine zE ?_; refine zJ (fun K hK => ?_); simp (disch := omega) only [push_cast, ↓Int.cast_ofNat_Int, simprocAttr]; refine hK _ ?_; clear hK K
  refine zE ?_; refine zJ (fun K hK => ?_); simp (disch := omega) only [push_cast, ↓Int.cast_ofNat_Int, simprocAttr]
  refine cG qLv hc (.cons hE (.cons (.v _) .nil)) ?_
  with_reducible refine aM ?_; simp (disch := omega) only [push_cast, ↓Int.cast_ofNat_Int, simprocAttr]
  refine hK _ ?_; clear hK K
  refine zE ?_; refine zE ?_; refine zJ (fun K hK => ?_); simp (disch := omega) only [push_cast, ↓Int.cast_ofNat_Int, simprocAttr]; refine hK _ ?_; clear hK K
  refine zA ?_
  refine yD rfl ?_
  refine zE ?_; refine zJ (fun K hK => ?_); simp (disch := omega) only [push_cast, ↓Int.cast_ofNat_Int, simprocAttr]; refine hK _ ?_; clear hK K
  refine zA ?_; refine zW ?_; refine zK ?_
  simp only [yA, yM, yH, yE, aP, aX, yK, yJ, zS, zM, Nat.reduceEqDiff, reduceIte, reduceCtorEq]
  exact bJ rfl
 | some i =>
  obtain ⟨hi, -, -, -, e⟩ := mN hp
  rw [e]
  rw [fR hp] at hc
  have hw := qB d R
  have hg := qC d R
  simp only [dE, mB] at hc hw hg hE ⊢
  refine zE ?_; refine zJ (fun K hK => ?_); simp (disch := omega) only [push_cast, ↓Int.cast_ofNat_Int, simprocAttr]; refine hK _ ?_; clear hK K
  refine zE ?_; refine zJ (fun K hK => ?_); simp (disch := omega) only [push_cast, ↓Int.cast_ofNat_Int, simprocAttr]
  refine cG qLv hc (.cons hE (.cons (.v _) .nil)) ?_
  with_reducible refine aM ?_; simp (disch := omega) only [push_cast, ↓Int.cast_ofNat_Int, simprocAttr]
  refine hK _ ?_; clear hK K
  refine zE ?_; refine zE ?_; refine zJ (fun K hK => ?_); simp (disch := omega) only [push_cast, ↓Int.cast_ofNat_Int, simprocAttr]; refine hK _ ?_; clear hK K
  refine zA ?_
  refine yC rfl ?_
  cases hd : d.L[i].2.dir with
  | true =>
   refine zC ?_; refine zE ?_; refine zE ?_; refine zJ (fun K hK => ?_); simp (disch := omega) only [push_cast, ↓Int.cast_ofNat_Int, simprocAttr, bD, bQ, bV hi, hw, hg, hd]; refine hK _ ?_; clear hK K
   refine yD rfl ?_
   refine zE ?_; refine zJ (fun K hK => ?_); simp (disch := omega) only [push_cast, ↓Int.cast_ofNat_Int, simprocAttr]; refine hK _ ?_; clear hK K
   refine zA ?_; refine zW ?_; refine zK ?_
   simp only [yA, yM, yH, yE, aP, aX, yK, yJ, zS, zM, Nat.reduceEqDiff, reduceIte, reduceCtorEq]
   exact bJ rfl
  | false =>
   refine zC ?_; refine zE ?_; refine zE ?_; refine zJ (fun K hK => ?_); simp (disch := omega) only [push_cast, ↓Int.cast_ofNat_Int, simprocAttr, bD, bQ, bV hi, hw, hg, hd]; refine hK _ ?_; clear hK K
   refine yC rfl ?_
   refine zC ?_; refine zE ?_; refine zJ (fun K hK => ?_); simp (disch := omega) only [push_cast, ↓Int.cast_ofNat_Int, simprocAttr]; refine hK _ ?_; clear hK K
   refine zA ?_; refine zW ?_
   simp only [yA, yM, yH, yE, aP, aX, yK, yJ, zS, zM, Nat.reduceEqDiff, reduceIte, reduceCtorEq]
   exact bJ rfl
set_option maxHeartbeats 1000000 in
theorem qQk (s : ByteArray) (hs : s.size ≤ 1048576) : HFun Tryz.prog 58 [.v (.string s)] (fun h st => h = .v (.string (vol s))) := by
 refine iB (N := 7) Tryz.func58 rfl Tryz.ntmps58 Tryz.results58 (by simp) ?_
 obtain ⟨r, hr⟩ := qVz s
 have hc := qGv s hs
 rw [hr] at hc
 have hw : Wid 1 (cR (vol s :: r)) = True := nL _
 have hg : ∀ d, (cR (vol s :: r)).getD 0 d = [.v (.string (vol s))] := fun d => rfl
 refine zE ?_; refine zJ (fun K hK => ?_); simp (disch := omega) only [push_cast, ↓Int.cast_ofNat_Int, simprocAttr]; refine hK _ ?_; clear hK K
 refine zE ?_; refine zJ (fun K hK => ?_); simp (disch := omega) only [push_cast, ↓Int.cast_ofNat_Int, simprocAttr]
 refine hat 32 zJi hc (.cons (.v _) .nil) ?_
 rintro _ _ ⟨rfl, rfl⟩
 with_reducible refine aM ?_; simp (disch := omega) only [push_cast, ↓Int.cast_ofNat_Int, simprocAttr, cH, hw, hg]
 refine hK _ ?_; clear hK K
 refine zA ?_; refine zW ?_
 simp only [yA, yM, yH, yE, aP, aX, yK, yJ, zS, zM, Nat.reduceEqDiff, reduceIte, reduceCtorEq]
 exact bJ rfl
set_option maxHeartbeats 1000000 in
theorem rN (d : Dk) (R : LN) (p : ByteArray) (k : Int) (hs : p.size ≤ 1048576) : HFun Tryz.prog 49 [dE d R, .v (.string p), .v (.int .i64 k)] (fun h st => h = .v (.int .i64 (may d p k))) := by
 refine iB (N := 21) Tryz.func49 rfl Tryz.ntmps49 Tryz.results49 (by simp) ?_
 have hc := qMc p 6 hs (by decide)
 have hsp := qGv p hs
 have hlen : (parts p).length ≤ 1048577 := by
  rw [qDf]
  have : p.data.toList.count 47 ≤ p.size := by rw [Lib.size_eq]; exact List.count_le_length
  omega
 rw [zKq]
 have hw := qB d R
 have hg := qC d R
 simp only [dE, mB] at hw hg ⊢
 refine zE ?_; refine zJ (fun K hK => ?_); simp (disch := omega) only [push_cast, ↓Int.cast_ofNat_Int, simprocAttr]; refine hK _ ?_; clear hK K
 cases hd : d.down with
 | true =>
  rw [hd] at hw hg
  refine zE ?_; refine zE ?_; refine zJ (fun K hK => ?_); simp (disch := omega) only [push_cast, ↓Int.cast_ofNat_Int, simprocAttr, hw, hg]; refine hK _ ?_; clear hK K
  refine zA ?_
  refine yD rfl ?_
  refine zE ?_; refine zJ (fun K hK => ?_); simp (disch := omega) only [push_cast, ↓Int.cast_ofNat_Int, simprocAttr]; refine hK _ ?_; clear hK K
  refine zA ?_; refine zW ?_; refine zK ?_
  simp only [yA, yM, yH, yE, aP, aX, yK, yJ, zS, zM, Nat.reduceEqDiff, reduceIte, reduceCtorEq]
  exact bJ rfl
 | false =>
  rw [hd] at hw hg
  refine zE ?_; refine zE ?_; refine zJ (fun K hK => ?_); simp (disch := omega) only [push_cast, ↓Int.cast_ofNat_Int, simprocAttr, hw, hg]; refine hK _ ?_; clear hK K
  refine zA ?_
  refine yC rfl ?_
  cases hp : pOk p 6 with
  | false =>
   have hc : HFun Tryz.prog 61 [.v (.string p), .v (.int .i64 6)] (fun h st => h = .v (.int .i64 10)) := by
    have h := hc
    rw [show ((6 : Nat) : Int) = 6 from rfl, hp] at h
    exact h
   refine zC ?_; refine zE ?_; refine zE ?_; refine zJ (fun K hK => ?_); simp (disch := omega) only [push_cast, ↓Int.cast_ofNat_Int, simprocAttr]
   refine cG zGw hc (.cons (.v _) (.cons (.v _) .nil)) ?_
   with_reducible refine aM ?_; simp (disch := omega) only [push_cast, ↓Int.cast_ofNat_Int, simprocAttr]
   refine hK _ ?_; clear hK K
   refine zA ?_
   refine yD rfl ?_
   refine zE ?_; refine zJ (fun K hK => ?_); simp (disch := omega) only [push_cast, ↓Int.cast_ofNat_Int, simprocAttr]; refine hK _ ?_; clear hK K
   refine zA ?_; refine zW ?_; refine zK ?_
   simp only [yA, yM, yH, yE, aP, aX, yK, yJ, zS, zM, Nat.reduceEqDiff, reduceIte, reduceCtorEq]
   exact bJ rfl
  | true =>
   have hc : HFun Tryz.prog 61 [.v (.string p), .v (.int .i64 6)] (fun h st => h = .v (.int .i64 0)) := by
    have h := hc
    rw [show ((6 : Nat) : Int) = 6 from rfl, hp] at h
    exact h
   refine zC ?_; refine zE ?_; refine zE ?_; refine zJ (fun K hK => ?_); simp (disch := omega) only [push_cast, ↓Int.cast_ofNat_Int, simprocAttr]
   refine cG zGw hc (.cons (.v _) (.cons (.v _) .nil)) ?_
   with_reducible refine aM ?_; simp (disch := omega) only [push_cast, ↓Int.cast_ofNat_Int, simprocAttr]
   refine hat 128 zJi hsp (.cons (.v _) .nil) ?_
   rintro _ _ ⟨rfl, rfl⟩
   with_reducible refine aM ?_; simp (disch := omega) only [push_cast, ↓Int.cast_ofNat_Int, simprocAttr, cH]
   refine hK _ ?_; clear hK K
   refine zA ?_
   by_cases hle : ((parts p).length : Int) ≤ k
   ·refine bE rfl (fun _ => ?_) (fun hf => by simp [hle] at hf)
    refine zE ?_; refine zJ (fun K hK => ?_); simp (disch := omega) only [push_cast, ↓Int.cast_ofNat_Int, simprocAttr]; refine hK _ ?_; clear hK K
    refine zA ?_; refine zW ?_; refine zK ?_
    simp only [yA, yM, yH, yE, aP, aX, yK, yJ, zS, zM, Nat.reduceEqDiff, reduceIte, reduceCtorEq]
    exact bJ (by simp [hle])
   ·refine bE rfl (fun ht => by simp [hle] at ht) (fun _ => ?_)
    refine zC ?_; refine zE ?_; refine zJ (fun K hK => ?_); simp (disch := omega) only [push_cast, ↓Int.cast_ofNat_Int, simprocAttr]; refine hK _ ?_; clear hK K
    refine zA ?_; refine zW ?_
    simp only [yA, yM, yH, yE, aP, aX, yK, yJ, zS, zM, Nat.reduceEqDiff, reduceIte, reduceCtorEq]
    exact bJ (by simp [hle])
set_option maxHeartbeats 1000000 in
theorem qQo (d : Dk) (R : LN) (p : ByteArray) (hs : p.size ≤ 1048576) (hl : d.L.length ≤ 4194304) : HFun Tryz.prog 50 [dE d R, .v (.string p)] (fun h st => h = .v (.bool (qYi d p))) := by
 refine iB (N := 15) Tryz.func50 rfl Tryz.ntmps50 Tryz.results50 (by simp) ?_
 have hc := qMd p hs
 have hk := kZ d R (par p) hl
 have hE := qM7 (st := []) d R
 unfold qYi
 by_cases h0 : par p = { data := #[] }
 ·have h0' : decide (par p = { data := #[] }) = true := decide_eq_true h0
  refine zE ?_; refine zJ (fun K hK => ?_); simp (disch := omega) only [push_cast, ↓Int.cast_ofNat_Int, simprocAttr]; refine hK _ ?_; clear hK K
  refine zE ?_; refine zJ (fun K hK => ?_); simp (disch := omega) only [push_cast, ↓Int.cast_ofNat_Int, simprocAttr]
  refine cG zGv hc (.cons (.v _) .nil) ?_
  with_reducible refine aM ?_; simp (disch := omega) only [push_cast, ↓Int.cast_ofNat_Int, simprocAttr, h0']
  refine hK _ ?_; clear hK K
  refine zA ?_; refine zW ?_
  simp only [yA, yM, yH, yE, aP, aX, yK, yJ, zS, zM, Nat.reduceEqDiff, reduceIte, reduceCtorEq]
  exact bJ (by simp [h0])
 ·have h0' : decide (par p = { data := #[] }) = false := decide_eq_false h0
  refine zE ?_; refine zJ (fun K hK => ?_); simp (disch := omega) only [push_cast, ↓Int.cast_ofNat_Int, simprocAttr]; refine hK _ ?_; clear hK K
  refine zE ?_; refine zJ (fun K hK => ?_); simp (disch := omega) only [push_cast, ↓Int.cast_ofNat_Int, simprocAttr]
  refine cG zGv hc (.cons (.v _) .nil) ?_
  with_reducible refine aM ?_; simp (disch := omega) only [push_cast, ↓Int.cast_ofNat_Int, simprocAttr, h0']
  refine cG zGv hc (.cons (.v _) .nil) ?_
  with_reducible refine aM ?_; simp (disch := omega) only [push_cast, ↓Int.cast_ofNat_Int, simprocAttr]
  refine cG mU hk (.cons hE (.cons (.v _) .nil)) ?_
  with_reducible refine aM ?_; simp (disch := omega) only [push_cast, ↓Int.cast_ofNat_Int, simprocAttr]
  refine hK _ ?_; clear hK K
  refine zA ?_; refine zW ?_
  simp only [yA, yM, yH, yE, aP, aX, yK, yJ, zS, zM, Nat.reduceEqDiff, reduceIte, reduceCtorEq]
  exact bJ (by simp [h0])
end Go.Proofs.YtojolcpblacjjaaGreatDoor
end
section
set_option linter.unusedSimpArgs false
set_option linter.unusedVariables false
namespace Go.Dk
open Go Go.Tr Go.Eng
theorem qV3 {α : Type} {p t : ByteArray} {y : α} {r : List (ByteArray × α)} (h : gW ((t, y) :: r)) (hb : blt p t = true) : bC ((t, y) :: r) p = none := by
 cases e : bC ((t, y) :: r) p with
 | none => rfl
 | some x =>
  have hm := jL e
  obtain ⟨h1, h2⟩ := List.pairwise_cons.1 h
  rcases List.mem_cons.1 hm with hm | hm
  ·cases hm; rw [lE] at hb; cases hb
  ·have := tL hb (h1 _ hm); rw [lE] at this; cases this
theorem qW0 (p : ByteArray) (x : Itm) : ∀ {L : List (ByteArray × Itm)}, gW L → tot (put p x L) = tot L + x.data.size - ((bC L p).getD itm0).data.size
 | [], _ => by
  simp only [put, tot, bC, Option.getD]
  have : itm0.data.size = 0 := rfl
  omega
 | (t, y) :: r, h => by
  obtain ⟨h1, h2⟩ := List.pairwise_cons.1 h
  simp only [put]
  by_cases e : t = p
  ·subst e
   rw [if_pos rfl]
   have e0 : bC ((t, y) :: r) t = some y := by simp [bC]
   rw [e0, tot, tot]
   show _ = _ + (x.data.size : Int) - (y.data.size : Nat)
   omega
  ·rw [if_neg e]
   split
   ·rename_i hb
    rw [zF] at hb
    rw [qV3 h hb, tot]
    have : ((none : Option Itm).getD itm0).data.size = 0 := rfl
    omega
   ·rw [tot, tot, qW0 p x h2]
    simp only [bC, if_neg e]
    omega
theorem qQw {d : Dk} {B B' : Int} (h : d.Ok B) (hB : B ≤ B') : d.Ok B' :=
 ⟨h.rise, h.keys, Int.le_trans h.size hB, Int.le_trans h.n hB, Int.le_trans h.m hB, ⟨h.steps.1, Int.le_trans h.steps.2 hB⟩, ⟨h.stamps.1, Int.le_trans h.stamps.2 hB⟩, h.armed⟩
theorem zA0 (d : Dk) (p : ByteArray) : aQ (aS d).2 p = aQ d p := by unfold aQ aS; split <;> rfl
theorem qSz (d : Dk) (p : ByteArray) (x : Itm) (q : ByteArray) : aQ (iY d p x) q = if q = p then { x with stamp := d.stamps + 1 } else aQ d q := by
 show (bC (put p _ d.L) q).getD itm0 = _
 rw [wA]
 split <;> rfl
def tV : ByteArray := { data := #[118] }
def tW : ByteArray := { data := #[119] }
structure NameOk (p : ByteArray) : Prop where
 ok : pOk p 6 = true
 qDu : qDu p = 2
 par : par p = tV
 vol : vol p = tV
 ne : p ≠ tV
 size : p.size ≤ 1048576
structure Fi (d : Dk) (n : Int) : Prop where
 down : d.down = false
 armed : d.armed = -1
 rooms : d.R = [(tV, n)]
 home : (aQ d tV).dir = true
 fE : ∀ p, NameOk p → (aQ d p).dir = false
 used : used d tV ≤ n
 other : Go.Dk.used d tW = 4
end Go.Dk
end
