/-
  The reference's disk: what only reads it (Place, Kind, Volume, first, home, qP7): walked.
-/
import Derived.Test.YtojolcpblacjjaaGreatDoorRkA
import Derived.Test.YtojolcpblacjjaaGreatDoorTrJ
set_option linter.unusedSimpArgs false
set_option linter.unusedVariables false
set_option maxRecDepth 20000
namespace Go.Dk
open Go Go.Eng Go.Tr
def rcF (d : Dk) (R : LN) : List FV := [.lst false (dT d.L), .lst false (rms R), .v (.int .i64 d.steps), .v (.int .i64 d.stamps), .v (.int .i64 d.armed), .v (.bool d.down)]
theorem oD (d : Dk) (R : LN) : rcF d R = [.lst false (dT d.L), .lst false (rms R), .v (.int .i64 d.steps), .v (.int .i64 d.stamps), .v (.int .i64 d.armed), .v (.bool d.down)] := (fun h => h) rfl
abbrev dE (d : Dk) (R : LN) : HV := .elt false [rcF d R] 6 0 0
theorem zE9 (d : Dk) (R : LN) : mK [rcF d R] = [rcF d R] := by
 have h1 := qRl d.L
 have h2 := qV6 R
 unfold mK at h1 h2 ⊢
 simp only [rcF, List.map_cons, List.map_nil, FV.old]
 rw [h1, h2]
theorem tA (d : Dk) (R : LN) : Wid 6 [rcF d R] = True := eq_true fun x hx => by rw [List.mem_singleton.1 hx]; rfl
theorem tB (d : Dk) (R : LN) (e : List FV) : [rcF d R].getD 0 e = rcF d R := rfl
theorem qW0 {st : aM} (d : Dk) (R : LN) : Lend st (dE d R) (dE d R) := by
 have := Lend.elt (st := st) false [rcF d R] 6 0 0
 rw [zE9] at this
 exact this
abbrev zHf (p : ByteArray) (x : Itm) : HV := .agg [.v (.string p), .v (.bool x.dir), .v (.string x.data), .v (.string x.kept), .v (.bool x.loose), .v (.bool x.anew), .v (.int .i64 x.stamp)]
theorem qF6 {d : Dk} {p : ByteArray} (h : plc p d.L = none) : gE d p = 0 := by
 rw [gE, has, (oW h).1]; rfl
theorem qL {d : Dk} {p : ByteArray} {i : Nat} (h : plc p d.L = some i) : ∃ hi : i < d.L.length, d.L[i].1 = p ∧ aP d p = d.L[i].2 ∧ has d p = true ∧ gE d p = if d.L[i].2.dir = true then 1 else 2 := by
 obtain ⟨hi, e1, e2⟩ := sB h
 have e3 : aP d p = d.L[i].2 := by rw [aP, e2]; rfl
 have e4 : has d p = true := by rw [has, e2]; rfl
 refine ⟨hi, e1, e3, e4, ?_⟩
 rw [gE, e3, e4]; rfl
theorem qK0 {α : Type} {p : ByteArray} {L : List (ByteArray × α)} (h : plc p L = none) : zBq p L = -1 := by rw [zBq, h]
theorem iU {α : Type} {p : ByteArray} {L : List (ByteArray × α)} {i : Nat} (h : plc p L = some i) : zBq p L = i := by rw [zBq, h]
def qXf (d : Dk) (p : ByteArray) : Bool := decide (par p = { data := #[] }) || decide (gE d (par p) = 1)
end Go.Dk
namespace Go.Proofs.YtojolcpblacjjaaGreatDoor
open Go Go.Eng Go.RowKit Go.Tr Go.Dk
set_option maxHeartbeats 1000000 in
theorem mE (d : Dk) (R : LN) (p : ByteArray) (hl : d.L.length ≤ 4194304) : HFun Tryz.prog 53 [dE d R, .v (.string p)] (fun h st => h = .v (.int .i64 (zBq p d.L))) := by
 refine iL (N := 26) Tryz.func53 rfl Tryz.ntmps53 Tryz.results53 (by simp) ?_
 have hw := tA d R
 have hg := tB d R
 obtain ⟨L, Rq, steps, stamps, armed, down, n, m⟩ := d
 simp only [dE, oD] at hl hw hg ⊢
 refine zE ?_; refine zJ (fun K hK => ?_); simp (disch := omega) only [push_cast, ↓Int.cast_ofNat_Int, simprocAttr]; refine hK _ ?_; clear hK K
 refine zE ?_; refine zE ?_; refine zJ (fun K hK => ?_); simp (disch := omega) only [push_cast, ↓Int.cast_ofNat_Int, simprocAttr]; refine hK _ ?_; clear hK K
 refine zA ?_; refine zD ?_
 refine dV (fun i : Nat => ⟨[(0, .elt false [[.lst false (dT L), .lst false (rms R), .v (.int .i64 steps), .v (.int .i64 stamps), .v (.int .i64 armed), .v (.bool down)]] 6 0 0), (1, .v (.string p)), (5, .v (.int .i64 i))], []⟩) (fun i => i ≤ L.length ∧ ∀ k (h : k < L.length), k < i → L[k].1 ≠ p) (fun i => L.length - i) [0, 1, 5] [] 0 rfl ⟨Nat.zero_le _, fun k h hk => absurd hk (Nat.not_lt_zero _)⟩ ?_
 rintro i ⟨hi, hn⟩
 by_cases hlt : i < L.length
 ·refine zE ?_; refine zE ?_; refine zJ (fun K hK => ?_); simp (disch := omega) only [push_cast, ↓Int.cast_ofNat_Int, simprocAttr, bG, hw, hg]; refine hK _ ?_; clear hK K
  refine zA ?_
  refine yD rfl ?_
  refine zC ?_; refine zE ?_
  by_cases he : L[i].1 = p
  ·have hd : decide (L[i].1 = p) = true := decide_eq_true he
   rw [iU (qFh hlt hn he)]
   refine zD ?_; refine zE ?_; refine zJ (fun K hK => ?_); simp (disch := omega) only [push_cast, ↓Int.cast_ofNat_Int, simprocAttr, bG, bX, cA hlt, hd, hw, hg]; refine hK _ ?_; clear hK K
   refine yD rfl ?_
   refine zE ?_; refine zJ (fun K hK => ?_); simp (disch := omega) only [push_cast, ↓Int.cast_ofNat_Int, simprocAttr]; refine hK _ ?_; clear hK K
   refine zA ?_; refine zW ?_; refine zL ?_; refine zK ?_; refine zK ?_; refine zL ?_; refine zK ?_
   simp only [yA, yM, yH, yE, aQ, aZ, yK, yJ, zS, zM, Nat.reduceEqDiff, reduceIte, reduceCtorEq]
   exact bK rfl
  ·have hd : decide (L[i].1 = p) = false := decide_eq_false he
   refine zD ?_; refine zE ?_; refine zJ (fun K hK => ?_); simp (disch := omega) only [push_cast, ↓Int.cast_ofNat_Int, simprocAttr, bG, bX, cA hlt, hd, hw, hg]; refine hK _ ?_; clear hK K
   refine yC rfl ?_
   refine zC ?_; refine zB ?_; refine zA ?_
   refine zJ (fun K hK => ?_); simp (disch := omega) only [push_cast, ↓Int.cast_ofNat_Int, simprocAttr]; refine hK _ ?_; clear hK K
   refine zA ?_
   refine ⟨i + 1, rfl, ⟨hlt, fun k hk hk2 => ?_⟩, by omega⟩
   by_cases e : k = i
   ·subst e; exact he
   ·exact hn k hk (by omega)
 ·refine zE ?_; refine zE ?_; refine zJ (fun K hK => ?_); simp (disch := omega) only [push_cast, ↓Int.cast_ofNat_Int, simprocAttr, bG, hw, hg]; refine hK _ ?_; clear hK K
  refine zA ?_
  refine yC rfl ?_
  rw [qK0 (qPd fun k hk => hn k hk (by omega))]
  refine zT ?_; refine zG ?_; refine zG ?_; refine zH ?_; refine zE ?_
  refine zJ (fun K hK => ?_); simp (disch := omega) only [push_cast, ↓Int.cast_ofNat_Int, simprocAttr]; refine hK _ ?_; clear hK K
  refine zA ?_; refine zW ?_
  simp only [yA, yM, yH, yE, aQ, aZ, yK, yJ, zS, zM, Nat.reduceEqDiff, reduceIte, reduceCtorEq]
  exact bK rfl
set_option maxHeartbeats 1000000 in
theorem qB (d : Dk) (R : LN) (p : ByteArray) (hl : d.L.length ≤ 4194304) : HFun Tryz.prog 37 [dE d R, .v (.string p)] (fun h st => h = .v (.int .i64 (gE d p))) := by
 refine iL (N := 19) Tryz.func37 rfl Tryz.ntmps37 Tryz.results37 (by simp) ?_
 have hc := mE d R p hl
 have hE := qW0 (st := []) d R
 cases hp : plc p d.L with
 | none =>
  rw [qF6 hp]
  rw [qK0 hp] at hc
  refine zE ?_; refine zJ (fun K hK => ?_); simp (disch := omega) only [push_cast, ↓Int.cast_ofNat_Int, simprocAttr]; refine hK _ ?_; clear hK K
  refine zE ?_; refine zJ (fun K hK => ?_); simp (disch := omega) only [push_cast, ↓Int.cast_ofNat_Int, simprocAttr]
  refine cG qTk hc (.cons hE (.cons (.v _) .nil)) ?_
  with_reducible refine aN ?_; simp (disch := omega) only [push_cast, ↓Int.cast_ofNat_Int, simprocAttr]
  refine hK _ ?_; clear hK K
  refine zE ?_; refine zE ?_; refine zJ (fun K hK => ?_); simp (disch := omega) only [push_cast, ↓Int.cast_ofNat_Int, simprocAttr]; refine hK _ ?_; clear hK K
  refine zA ?_
  refine yD rfl ?_
  refine zE ?_; refine zJ (fun K hK => ?_); simp (disch := omega) only [push_cast, ↓Int.cast_ofNat_Int, simprocAttr]; refine hK _ ?_; clear hK K
  refine zA ?_; refine zW ?_; refine zK ?_
  simp only [yA, yM, yH, yE, aQ, aZ, yK, yJ, zS, zM, Nat.reduceEqDiff, reduceIte, reduceCtorEq]
  exact bK rfl
 | some i =>
  obtain ⟨hi, -, -, -, e⟩ := qL hp
  rw [e]
  rw [iU hp] at hc
  have hw := tA d R
  have hg := tB d R
  simp only [dE, oD] at hc hw hg hE ⊢
  refine zE ?_; refine zJ (fun K hK => ?_); simp (disch := omega) only [push_cast, ↓Int.cast_ofNat_Int, simprocAttr]; refine hK _ ?_; clear hK K
  refine zE ?_; refine zJ (fun K hK => ?_); simp (disch := omega) only [push_cast, ↓Int.cast_ofNat_Int, simprocAttr]
  refine cG qTk hc (.cons hE (.cons (.v _) .nil)) ?_
  with_reducible refine aN ?_; simp (disch := omega) only [push_cast, ↓Int.cast_ofNat_Int, simprocAttr]
  refine hK _ ?_; clear hK K
  refine zE ?_; refine zE ?_; refine zJ (fun K hK => ?_); simp (disch := omega) only [push_cast, ↓Int.cast_ofNat_Int, simprocAttr]; refine hK _ ?_; clear hK K
  refine zA ?_
  refine yC rfl ?_
  cases hd : d.L[i].2.dir with
  | true =>
   refine zC ?_; refine zE ?_; refine zE ?_; refine zJ (fun K hK => ?_); simp (disch := omega) only [push_cast, ↓Int.cast_ofNat_Int, simprocAttr, bG, bX, cA hi, hw, hg, hd]; refine hK _ ?_; clear hK K
   refine yD rfl ?_
   refine zE ?_; refine zJ (fun K hK => ?_); simp (disch := omega) only [push_cast, ↓Int.cast_ofNat_Int, simprocAttr]; refine hK _ ?_; clear hK K
   refine zA ?_; refine zW ?_; refine zK ?_
   simp only [yA, yM, yH, yE, aQ, aZ, yK, yJ, zS, zM, Nat.reduceEqDiff, reduceIte, reduceCtorEq]
   exact bK rfl
  | false =>
   refine zC ?_; refine zE ?_; refine zE ?_; refine zJ (fun K hK => ?_); simp (disch := omega) only [push_cast, ↓Int.cast_ofNat_Int, simprocAttr, bG, bX, cA hi, hw, hg, hd]; refine hK _ ?_; clear hK K
   refine yC rfl ?_
   refine zC ?_; refine zE ?_; refine zJ (fun K hK => ?_); simp (disch := omega) only [push_cast, ↓Int.cast_ofNat_Int, simprocAttr]; refine hK _ ?_; clear hK K
   refine zA ?_; refine zW ?_
   simp only [yA, yM, yH, yE, aQ, aZ, yK, yJ, zS, zM, Nat.reduceEqDiff, reduceIte, reduceCtorEq]
   exact bK rfl
set_option maxHeartbeats 1000000 in
theorem qNw (s : ByteArray) (hs : s.size ≤ 1048576) : HFun Tryz.prog 58 [.v (.string s)] (fun h st => h = .v (.string (vol s))) := by
 refine iL (N := 7) Tryz.func58 rfl Tryz.ntmps58 Tryz.results58 (by simp) ?_
 obtain ⟨r, hr⟩ := qUr s
 have hc := qEy s hs
 rw [hr] at hc
 have hw : Wid 1 (dD (vol s :: r)) = True := rH _
 have hg : ∀ d, (dD (vol s :: r)).getD 0 d = [.v (.string (vol s))] := fun d => rfl
 refine zE ?_; refine zJ (fun K hK => ?_); simp (disch := omega) only [push_cast, ↓Int.cast_ofNat_Int, simprocAttr]; refine hK _ ?_; clear hK K
 refine zE ?_; refine zJ (fun K hK => ?_); simp (disch := omega) only [push_cast, ↓Int.cast_ofNat_Int, simprocAttr]
 refine hat 32 zHo hc (.cons (.v _) .nil) ?_
 rintro _ _ ⟨rfl, rfl⟩
 with_reducible refine aN ?_; simp (disch := omega) only [push_cast, ↓Int.cast_ofNat_Int, simprocAttr, cQ, hw, hg]
 refine hK _ ?_; clear hK K
 refine zA ?_; refine zW ?_
 simp only [yA, yM, yH, yE, aQ, aZ, yK, yJ, zS, zM, Nat.reduceEqDiff, reduceIte, reduceCtorEq]
 exact bK rfl
set_option maxHeartbeats 1000000 in
theorem oU (d : Dk) (R : LN) (p : ByteArray) (k : Int) (hs : p.size ≤ 1048576) : HFun Tryz.prog 49 [dE d R, .v (.string p), .v (.int .i64 k)] (fun h st => h = .v (.int .i64 (may d p k))) := by
 refine iL (N := 21) Tryz.func49 rfl Tryz.ntmps49 Tryz.results49 (by simp) ?_
 have hc := qKp p 6 hs (by decide)
 have hsp := qEy p hs
 have hlen : (parts p).length ≤ 1048577 := by
  rw [qA4]
  have : p.data.toList.count 47 ≤ p.size := by rw [Lib.size_eq]; exact List.count_le_length
  omega
 rw [zJz]
 have hw := tA d R
 have hg := tB d R
 simp only [dE, oD] at hw hg ⊢
 refine zE ?_; refine zJ (fun K hK => ?_); simp (disch := omega) only [push_cast, ↓Int.cast_ofNat_Int, simprocAttr]; refine hK _ ?_; clear hK K
 cases hd : d.down with
 | true =>
  rw [hd] at hw hg
  refine zE ?_; refine zE ?_; refine zJ (fun K hK => ?_); simp (disch := omega) only [push_cast, ↓Int.cast_ofNat_Int, simprocAttr, hw, hg]; refine hK _ ?_; clear hK K
  refine zA ?_
  refine yD rfl ?_
  refine zE ?_; refine zJ (fun K hK => ?_); simp (disch := omega) only [push_cast, ↓Int.cast_ofNat_Int, simprocAttr]; refine hK _ ?_; clear hK K
  refine zA ?_; refine zW ?_; refine zK ?_
  simp only [yA, yM, yH, yE, aQ, aZ, yK, yJ, zS, zM, Nat.reduceEqDiff, reduceIte, reduceCtorEq]
  exact bK rfl
 | false =>
  rw [hd] at hw hg
  refine zE ?_; refine zE ?_; refine zJ (fun K hK => ?_); simp (disch := omega) only [push_cast, ↓Int.cast_ofNat_Int, simprocAttr, hw, hg]; refine hK _ ?_; clear hK K
  refine zA ?_
  refine yC rfl ?_
  cases hp : pOk p 6 with
  | false =>
   have hc : HFun Tryz.prog 61 [.v (.string p), .v (.int .i64 6)] (fun h st => h = .v (.int .i64 10)) := by
    have h := hc
    rw [show ((6 : Nat) : Int) = 6 from rfl, hp] at h
    exact h
   refine zC ?_; refine zE ?_; refine zE ?_; refine zJ (fun K hK => ?_); simp (disch := omega) only [push_cast, ↓Int.cast_ofNat_Int, simprocAttr]
   refine cG zF2 hc (.cons (.v _) (.cons (.v _) .nil)) ?_
   with_reducible refine aN ?_; simp (disch := omega) only [push_cast, ↓Int.cast_ofNat_Int, simprocAttr]
   refine hK _ ?_; clear hK K
   refine zA ?_
   refine yD rfl ?_
   refine zE ?_; refine zJ (fun K hK => ?_); simp (disch := omega) only [push_cast, ↓Int.cast_ofNat_Int, simprocAttr]; refine hK _ ?_; clear hK K
   refine zA ?_; refine zW ?_; refine zK ?_
   simp only [yA, yM, yH, yE, aQ, aZ, yK, yJ, zS, zM, Nat.reduceEqDiff, reduceIte, reduceCtorEq]
   exact bK rfl
  | true =>
   have hc : HFun Tryz.prog 61 [.v (.string p), .v (.int .i64 6)] (fun h st => h = .v (.int .i64 0)) := by
    have h := hc
    rw [show ((6 : Nat) : Int) = 6 from rfl, hp] at h
    exact h
   refine zC ?_; refine zE ?_; refine zE ?_; refine zJ (fun K hK => ?_); simp (disch := omega) only [push_cast, ↓Int.cast_ofNat_Int, simprocAttr]
   refine cG zF2 hc (.cons (.v _) (.cons (.v _) .nil)) ?_
   with_reducible refine aN ?_; simp (disch := omega) only [push_cast, ↓Int.cast_ofNat_Int, simprocAttr]
   refine hat 128 zHo hsp (.cons (.v _) .nil) ?_
   rintro _ _ ⟨rfl, rfl⟩
   with_reducible refine aN ?_; simp (disch := omega) only [push_cast, ↓Int.cast_ofNat_Int, simprocAttr, cQ]
   refine hK _ ?_; clear hK K
   refine zA ?_
   by_cases hle : ((parts p).length : Int) ≤ k
   ·refine bC rfl (fun _ => ?_) (fun hf => by simp [hle] at hf)
    refine zE ?_; refine zJ (fun K hK => ?_); simp (disch := omega) only [push_cast, ↓Int.cast_ofNat_Int, simprocAttr]; refine hK _ ?_; clear hK K
    refine zA ?_; refine zW ?_; refine zK ?_
    simp only [yA, yM, yH, yE, aQ, aZ, yK, yJ, zS, zM, Nat.reduceEqDiff, reduceIte, reduceCtorEq]
    exact bK (by simp [hle])
   ·refine bC rfl (fun ht => by simp [hle] at ht) (fun _ => ?_)
    refine zC ?_; refine zE ?_; refine zJ (fun K hK => ?_); simp (disch := omega) only [push_cast, ↓Int.cast_ofNat_Int, simprocAttr]; refine hK _ ?_; clear hK K
    refine zA ?_; refine zW ?_
    simp only [yA, yM, yH, yE, aQ, aZ, yK, yJ, zS, zM, Nat.reduceEqDiff, reduceIte, reduceCtorEq]
    exact bK (by simp [hle])
set_option maxHeartbeats 1000000 in
theorem qN2 (d : Dk) (R : LN) (p : ByteArray) (hs : p.size ≤ 1048576) (hl : d.L.length ≤ 4194304) : HFun Tryz.prog 50 [dE d R, .v (.string p)] (fun h st => h = .v (.bool (qXf d p))) := by
 refine iL (N := 15) Tryz.func50 rfl Tryz.ntmps50 Tryz.results50 (by simp) ?_
 have hc := qKq p hs
 have hk := qB d R (par p) hl
 have hE := qW0 (st := []) d R
 unfold qXf
 by_cases h0 : par p = { data := #[] }
 ·have h0' : decide (par p = { data := #[] }) = true := decide_eq_true h0
  refine zE ?_; refine zJ (fun K hK => ?_); simp (disch := omega) only [push_cast, ↓Int.cast_ofNat_Int, simprocAttr]; refine hK _ ?_; clear hK K
  refine zE ?_; refine zJ (fun K hK => ?_); simp (disch := omega) only [push_cast, ↓Int.cast_ofNat_Int, simprocAttr]
  refine cG zF1 hc (.cons (.v _) .nil) ?_
  with_reducible refine aN ?_; simp (disch := omega) only [push_cast, ↓Int.cast_ofNat_Int, simprocAttr, h0']
  refine hK _ ?_; clear hK K
  refine zA ?_; refine zW ?_
  simp only [yA, yM, yH, yE, aQ, aZ, yK, yJ, zS, zM, Nat.reduceEqDiff, reduceIte, reduceCtorEq]
  exact bK (by simp [h0])
 ·have h0' : decide (par p = { data := #[] }) = false := decide_eq_false h0
  refine zE ?_; refine zJ (fun K hK => ?_); simp (disch := omega) only [push_cast, ↓Int.cast_ofNat_Int, simprocAttr]; refine hK _ ?_; clear hK K
  refine zE ?_; refine zJ (fun K hK => ?_); simp (disch := omega) only [push_cast, ↓Int.cast_ofNat_Int, simprocAttr]
  refine cG zF1 hc (.cons (.v _) .nil) ?_
  with_reducible refine aN ?_; simp (disch := omega) only [push_cast, ↓Int.cast_ofNat_Int, simprocAttr, h0']
  refine cG zF1 hc (.cons (.v _) .nil) ?_
  with_reducible refine aN ?_; simp (disch := omega) only [push_cast, ↓Int.cast_ofNat_Int, simprocAttr]
  refine cG tX hk (.cons hE (.cons (.v _) .nil)) ?_
  with_reducible refine aN ?_; simp (disch := omega) only [push_cast, ↓Int.cast_ofNat_Int, simprocAttr]
  refine hK _ ?_; clear hK K
  refine zA ?_; refine zW ?_
  simp only [yA, yM, yH, yE, aQ, aZ, yK, yJ, zS, zM, Nat.reduceEqDiff, reduceIte, reduceCtorEq]
  exact bK (by simp [h0])
end Go.Proofs.YtojolcpblacjjaaGreatDoor
