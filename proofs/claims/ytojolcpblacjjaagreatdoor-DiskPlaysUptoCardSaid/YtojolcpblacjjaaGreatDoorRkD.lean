/-
  The reference's disk: would a volume's bytes fit; a step; a stamp; an aQ put, dropped: walked.
-/
import Derived.Test.YtojolcpblacjjaaGreatDoorRkC
set_option linter.unusedSimpArgs false
set_option linter.unusedVariables false
set_option maxRecDepth 20000
namespace Go.Dk
open Go Go.Eng Go.Tr
theorem qHt {α : Type} {v : ByteArray} {x : α} : ∀ {R : List (ByteArray × α)}, (R.map fun e => e.1).Nodup → (v, x) ∈ R → bC R v = some x
 | [], _, h => by simp at h
 | (t, y) :: r, hn, h => by
  simp only [List.map_cons, List.nodup_cons] at hn
  simp only [bC]
  rcases List.mem_cons.1 h with h | h
  ·cases h; rw [if_pos rfl]
  ·rw [if_neg (fun e => by subst e; exact hn.1 (List.mem_map.2 ⟨_, h, rfl⟩))]
   exact qHt hn.2 h
theorem zB7 {d : Dk} {R : LN} (hR : ∀ v, bC R v = bC d.R v) (hnd : (R.map fun e => e.1).Nodup) {p : ByteArray} {more : Int} {i : Nat} (h : i < R.length) (e : R[i].1 = vol p) (h1 : R[i].2 < used d (vol p) + more) (h2 : ¬ more ≤ 0) : iZ d p more = false := by
 have := qHt (v := vol p) (x := R[i].2) hnd (by rw [← e]; exact List.getElem_mem h)
 rw [iZ, ← hR, this]
 simp [h2]; omega
theorem zAb {d : Dk} {R : LN} (hR : ∀ v, bC R v = bC d.R v) {p : ByteArray} {more : Int} (h : ∀ k (hk : k < R.length), ¬ (R[k].1 = vol p ∧ R[k].2 < used d (vol p) + more)) : iZ d p more = true := by
 rw [iZ, ← hR]
 cases hl : bC R (vol p) with
 | none => rfl
 | some n =>
  obtain ⟨k, hk, e⟩ := List.getElem_of_mem (jL hl)
  have := h k hk
  rw [e] at this
  simp at this
  simp; omega
theorem zF6 {d : Dk} {p : ByteArray} {more : Int} (h : more ≤ 0) : iZ d p more = true := by
 rw [iZ]
 cases bC d.R (vol p) with
 | none => rfl
 | some n => simp [h]
def rc (d : Dk) (fr : Bool) : List HV := [.lst fr (dS d.L), .own 1, .v (.int .i64 d.steps), .v (.int .i64 d.stamps), .v (.int .i64 d.armed), .v (.bool d.down)]
theorem eF (d : Dk) (fr : Bool) : rc d fr = [.lst fr (dS d.L), .own 1, .v (.int .i64 d.steps), .v (.int .i64 d.stamps), .v (.int .i64 d.armed), .v (.bool d.down)] := (fun h => h) rfl
abbrev rst (d : Dk) (R : LN) (fr nw : Bool) : aN := [(0, .bx false 35 (rc d fr)), (1, .sl nw 76 2 (rms R))]
end Go.Dk
namespace Go.Proofs.YtojolcpblacjjaaGreatDoor
open Go Go.Eng Go.RowKit Go.Tr Go.Dk
set_option maxHeartbeats 2000000 in
theorem qQp (d : Dk) (R : LN) (p : ByteArray) (more : Int) (hs : p.size ≤ 1048576) (hl : d.L.length ≤ 4194304) (hke : ∀ e ∈ d.L, e.1.size ≤ 1048576) (hto : tot d.L ≤ 1099511627776) (hR : ∀ v, bC R v = bC d.R v) (hnd : (R.map fun e => e.1).Nodup) (hrl : R.length ≤ 4194304) (hm : more ≤ 1099511627776) :
  HFun Tryz.prog 54 [dE d R, .v (.string p), .v (.int .i64 more)] (fun h st => h = .v (.bool (iZ d p more))) := by
 refine iB (N := 47) Tryz.func54 rfl Tryz.ntmps54 Tryz.results54 (by simp) ?_
 by_cases h0 : more ≤ 0
 ·rw [zF6 h0]
  refine zE ?_; refine zJ (fun K hK => ?_); simp (disch := omega) only [push_cast, ↓Int.cast_ofNat_Int, simprocAttr]; refine hK _ ?_; clear hK K
  refine zE ?_; refine zE ?_; refine zJ (fun K hK => ?_); simp (disch := omega) only [push_cast, ↓Int.cast_ofNat_Int, simprocAttr]; refine hK _ ?_; clear hK K
  refine zA ?_
  refine bE rfl (fun _ => ?_) (fun hf => by simp [h0] at hf)
  refine zE ?_; refine zJ (fun K hK => ?_); simp (disch := omega) only [push_cast, ↓Int.cast_ofNat_Int, simprocAttr]; refine hK _ ?_; clear hK K
  refine zA ?_; refine zW ?_; refine zK ?_
  simp only [yA, yM, yH, yE, aP, aX, yK, yJ, zS, zM, Nat.reduceEqDiff, reduceIte, reduceCtorEq]
  exact bJ rfl
 have hw := qB d R
 have hg := qC d R
 have hE := qM7 (st := []) d R
 have cv := qQk p hs
 have vs : (vol p).size ≤ 1048576 := Nat.le_trans (qRf p) hs
 have cu := qW8 d R (vol p) hl hke hto
 have ub := qBd (vol p) d.L
 simp only [dE, mB] at hw hg hE cu ⊢
 refine zE ?_; refine zJ (fun K hK => ?_); simp (disch := omega) only [push_cast, ↓Int.cast_ofNat_Int, simprocAttr]; refine hK _ ?_; clear hK K
 refine zE ?_; refine zE ?_; refine zJ (fun K hK => ?_); simp (disch := omega) only [push_cast, ↓Int.cast_ofNat_Int, simprocAttr]; refine hK _ ?_; clear hK K
 refine zA ?_
 refine bE rfl (fun ht => by simp [h0] at ht) (fun _ => ?_)
 refine zC ?_; refine zE ?_; refine zE ?_; refine zJ (fun K hK => ?_); simp (disch := omega) only [push_cast, ↓Int.cast_ofNat_Int, simprocAttr]; refine hK _ ?_; clear hK K
 refine zA ?_; refine zD ?_
 refine dU (fun i : Nat => ⟨[(0, .elt false [[.lst false (dS d.L), .lst false (rms R), .v (.int .i64 d.steps), .v (.int .i64 d.stamps), .v (.int .i64 d.armed), .v (.bool d.down)]] 6 0 0), (1, .v (.string p)), (2, .v (.int .i64 more)), (7, .v (.int .i64 i))], []⟩) (fun i => i ≤ R.length ∧ ∀ k (hk : k < R.length), k < i → ¬ (R[k].1 = vol p ∧ R[k].2 < used d (vol p) + more)) (fun i => R.length - i) [0, 1, 2, 7] [] 0 rfl ⟨Nat.zero_le _, fun k _ h => absurd h (Nat.not_lt_zero _)⟩ ?_
 rintro i ⟨hi, hn⟩
 by_cases hlt : i < R.length
 ·refine zE ?_; refine zE ?_; refine zJ (fun K hK => ?_); simp (disch := omega) only [push_cast, ↓Int.cast_ofNat_Int, simprocAttr, gG, hw, hg]; refine hK _ ?_; clear hK K
  refine zA ?_
  refine yD rfl ?_
  refine zC ?_; refine zE ?_
  have hu : used d (vol p) = pX (vol p) d.L := rfl
  generalize hub : used d (vol p) = u at *
  by_cases hv : R[i].1 = vol p
  ·have hd : decide (R[i].1 = vol p) = true := decide_eq_true hv
   refine zD ?_; refine zE ?_; refine iD 28 mixed (by kernel_rfl) (fun K hK => ?_); simp (disch := omega) only [push_cast, ↓Int.cast_ofNat_Int, simprocAttr, gG, kY, mM hlt, hw, hg, hd]
   refine gK zBa cv (.cons (.v _) .nil) ?_
   with_reducible refine aM ?_; simp (disch := omega) only [push_cast, ↓Int.cast_ofNat_Int, simprocAttr, gG, kY, mM hlt, hw, hg, hd]
   refine gK zBa cv (.cons (.v _) .nil) ?_
   with_reducible refine aM ?_; simp (disch := omega) only [push_cast, ↓Int.cast_ofNat_Int, simprocAttr, gG, kY, mM hlt, hw, hg, hd]
   refine gK zLh cu (.cons hE (.cons (.v _) .nil)) ?_
   with_reducible refine aM ?_; simp (disch := omega) only [push_cast, ↓Int.cast_ofNat_Int, simprocAttr, gG, kY, mM hlt, hw, hg, hd]
   with_reducible refine aM ?_; simp (disch := omega) only [push_cast, ↓Int.cast_ofNat_Int, simprocAttr]
   refine hK _ ?_; clear hK K
   refine zA ?_
   by_cases hgt : R[i].2 < u + more
   ·refine bE rfl (fun _ => ?_) (fun hf => by simp [hgt] at hf)
    rw [zB7 hR hnd hlt hv (by rw [hub]; exact hgt) h0]
    refine zE ?_; refine zJ (fun K hK => ?_); simp (disch := omega) only [push_cast, ↓Int.cast_ofNat_Int, simprocAttr]; refine hK _ ?_; clear hK K
    refine zA ?_; refine zW ?_; refine zL ?_; refine zK ?_; refine zK ?_; refine zL ?_; refine zK ?_
    simp only [yA, yM, yH, yE, aP, aX, yK, yJ, zS, zM, Nat.reduceEqDiff, reduceIte, reduceCtorEq]
    exact bJ rfl
   ·refine bE rfl (fun ht => by simp [hgt] at ht) (fun _ => ?_)
    refine zC ?_; refine zB ?_; refine zA ?_
    refine zJ (fun K hK => ?_); simp (disch := omega) only [push_cast, ↓Int.cast_ofNat_Int, simprocAttr]; refine hK _ ?_; clear hK K
    refine zA ?_
    refine ⟨i + 1, rfl, ⟨hlt, fun k hk hk2 => ?_⟩, by omega⟩
    by_cases e : k = i
    ·subst e; exact fun h => hgt h.2
    ·exact hn k hk (by omega)
  ·have hd : decide (R[i].1 = vol p) = false := decide_eq_false hv
   refine zD ?_; refine zE ?_; refine iD 28 mixed (by kernel_rfl) (fun K hK => ?_); simp (disch := omega) only [push_cast, ↓Int.cast_ofNat_Int, simprocAttr, gG, kY, mM hlt, hw, hg, hd]
   refine gK zBa cv (.cons (.v _) .nil) ?_
   with_reducible refine aM ?_; simp (disch := omega) only [push_cast, ↓Int.cast_ofNat_Int, simprocAttr, gG, kY, mM hlt, hw, hg, hd]
   with_reducible refine aM ?_; simp (disch := omega) only [push_cast, ↓Int.cast_ofNat_Int, simprocAttr]
   refine hK _ ?_; clear hK K
   refine zA ?_
   refine yC rfl ?_
   refine zC ?_; refine zB ?_; refine zA ?_
   refine zJ (fun K hK => ?_); simp (disch := omega) only [push_cast, ↓Int.cast_ofNat_Int, simprocAttr]; refine hK _ ?_; clear hK K
   refine zA ?_
   refine ⟨i + 1, rfl, ⟨hlt, fun k hk hk2 => ?_⟩, by omega⟩
   by_cases e : k = i
   ·subst e; exact fun h => hv h.1
   ·exact hn k hk (by omega)
 ·have hrg : iZ d p more = true := zAb hR fun k hk => hn k hk (by omega)
  rw [hrg]
  refine zE ?_; refine zE ?_; refine zJ (fun K hK => ?_); simp (disch := omega) only [push_cast, ↓Int.cast_ofNat_Int, simprocAttr, gG, hw, hg]; refine hK _ ?_; clear hK K
  refine zA ?_
  refine yC rfl ?_
  refine zT ?_; refine zG ?_; refine zG ?_; refine zH ?_; refine zE ?_
  refine zJ (fun K hK => ?_); simp (disch := omega) only [push_cast, ↓Int.cast_ofNat_Int, simprocAttr]; refine hK _ ?_; clear hK K
  refine zA ?_; refine zW ?_
  simp only [yA, yM, yH, yE, aP, aX, yK, yJ, zS, zM, Nat.reduceEqDiff, reduceIte, reduceCtorEq]
  exact bJ rfl
set_option maxHeartbeats 1000000 in
theorem xT (d : Dk) (R : LN) (fr nw : Bool) (ha : -1 ≤ d.armed ∧ d.armed ≤ 9223372036854775807) (hs : 0 ≤ d.steps ∧ d.steps ≤ 1099511627776) : HFunS Tryz.prog 51 [.ptr 0 6 0 0] (rst d R fr nw) (fun h st => h = .v (.int .i64 (aS d).1) ∧ st = rst (aS d).2 R fr nw) := by
 refine kJ (N := 33) Tryz.func51 rfl Tryz.ntmps51 Tryz.results51 (by simp) ?_
 obtain ⟨L, Rq, steps, stamps, armed, down, n, m⟩ := d
 simp only [rst, eF] at ha hs ⊢
 unfold aS
 by_cases h0 : armed = 0
 ·subst h0
  refine zE ?_; refine zJ (fun K hK => ?_); simp (disch := omega) only [push_cast, ↓Int.cast_ofNat_Int, simprocAttr]; refine hK _ ?_; clear hK K
  refine zE ?_; refine zE ?_; refine zJ (fun K hK => ?_); simp (disch := omega) only [push_cast, ↓Int.cast_ofNat_Int, simprocAttr]; refine hK _ ?_; clear hK K
  refine zA ?_
  refine yD rfl ?_
  refine zE ?_; refine zJ (fun K hK => ?_); simp (disch := omega) only [push_cast, ↓Int.cast_ofNat_Int, simprocAttr]; refine hK _ ?_; clear hK K
  refine zE ?_; refine zJ (fun K hK => ?_); simp (disch := omega) only [push_cast, ↓Int.cast_ofNat_Int, simprocAttr]; refine hK _ ?_; clear hK K
  refine zE ?_; refine zJ (fun K hK => ?_); simp (disch := omega) only [push_cast, ↓Int.cast_ofNat_Int, simprocAttr]; refine hK _ ?_; clear hK K
  refine zA ?_; refine zW ?_; refine zK ?_
  simp only [aK, aR, yH, yE, yK, yJ, aG, zS, zM, Nat.reduceEqDiff, reduceIte, reduceCtorEq]
  refine cJ [0, 1] (by decide) (by decide) (by simp only [push_cast, simprocAttr]) (by simp only [push_cast, simprocAttr]) (by simp only [push_cast, simprocAttr]; rfl) (by simp only [push_cast, simprocAttr]; rfl) ?_
  exact ⟨rfl, rfl⟩
 ·simp only [if_neg h0]
  refine zE ?_; refine zJ (fun K hK => ?_); simp (disch := omega) only [push_cast, ↓Int.cast_ofNat_Int, simprocAttr]; refine hK _ ?_; clear hK K
  refine zE ?_; refine zE ?_; refine zJ (fun K hK => ?_); simp (disch := omega) only [push_cast, ↓Int.cast_ofNat_Int, simprocAttr]; refine hK _ ?_; clear hK K
  refine zA ?_
  refine yC rfl ?_
  refine zC ?_; refine zE ?_; refine zE ?_; refine zJ (fun K hK => ?_); simp (disch := omega) only [push_cast, ↓Int.cast_ofNat_Int, simprocAttr]; refine hK _ ?_; clear hK K
  refine zA ?_
  by_cases h1 : 0 < armed
  ·simp only [if_pos h1]
   refine bE rfl (fun _ => ?_) (fun hf => by simp at hf; omega)
   refine zJ (fun K hK => ?_); simp (disch := omega) only [push_cast, ↓Int.cast_ofNat_Int, simprocAttr]; refine hK _ ?_; clear hK K
   refine zE ?_
   refine zJ (fun K hK => ?_); simp (disch := omega) only [push_cast, ↓Int.cast_ofNat_Int, simprocAttr]; refine hK _ ?_; clear hK K
   refine zE ?_; refine zJ (fun K hK => ?_); simp (disch := omega) only [push_cast, ↓Int.cast_ofNat_Int, simprocAttr]; refine hK _ ?_; clear hK K
   refine zA ?_; refine zW ?_
   simp only [aK, aR, yH, yE, yK, yJ, aG, zS, zM, Nat.reduceEqDiff, reduceIte, reduceCtorEq]
   refine cJ [0, 1] (by decide) (by decide) (by simp only [push_cast, simprocAttr]) (by simp only [push_cast, simprocAttr]) (by simp only [push_cast, simprocAttr]; rfl) (by simp only [push_cast, simprocAttr]; rfl) ?_
   exact ⟨rfl, rfl⟩
  ·simp only [if_neg h1]
   refine bE rfl (fun hf => by simp at hf; omega) (fun _ => ?_)
   refine zC ?_; refine zE ?_
   refine zJ (fun K hK => ?_); simp (disch := omega) only [push_cast, ↓Int.cast_ofNat_Int, simprocAttr]; refine hK _ ?_; clear hK K
   refine zE ?_; refine zJ (fun K hK => ?_); simp (disch := omega) only [push_cast, ↓Int.cast_ofNat_Int, simprocAttr]; refine hK _ ?_; clear hK K
   refine zA ?_; refine zW ?_
   simp only [aK, aR, yH, yE, yK, yJ, aG, zS, zM, Nat.reduceEqDiff, reduceIte, reduceCtorEq]
   refine cJ [0, 1] (by decide) (by decide) (by simp only [push_cast, simprocAttr]) (by simp only [push_cast, simprocAttr]) (by simp only [push_cast, simprocAttr]; rfl) (by simp only [push_cast, simprocAttr]; rfl) ?_
   exact ⟨rfl, rfl⟩
set_option maxHeartbeats 1000000 in
theorem nW (d : Dk) (R : LN) (fr nw : Bool) (p : ByteArray) (x : Itm) (hs : 0 ≤ d.stamps ∧ d.stamps ≤ 1099511627776) : HFunS Tryz.prog 55 [.ptr 0 6 0 0, zH8 p x] (rst d R fr nw) (fun h st => h = zH8 p { x with stamp := d.stamps + 1 } ∧ st = rst { d with stamps := d.stamps + 1 } R fr nw) := by
 refine kJ (N := 18) Tryz.func55 rfl Tryz.ntmps55 Tryz.results55 (by simp) ?_
 obtain ⟨L, Rq, steps, stamps, armed, down, n, m⟩ := d
 obtain ⟨a, b, c, e, f, g⟩ := x
 simp only [rst, eF] at hs ⊢
 refine zE ?_; refine zJ (fun K hK => ?_); simp (disch := omega) only [push_cast, ↓Int.cast_ofNat_Int, simprocAttr]; refine hK _ ?_; clear hK K
 refine zE ?_; refine zJ (fun K hK => ?_); simp (disch := omega) only [push_cast, ↓Int.cast_ofNat_Int, simprocAttr]; refine hK _ ?_; clear hK K
 refine zE ?_; refine zJ (fun K hK => ?_); simp (disch := omega) only [push_cast, ↓Int.cast_ofNat_Int, simprocAttr]; refine hK _ ?_; clear hK K
 refine zE ?_; refine zJ (fun K hK => ?_); simp (disch := omega) only [push_cast, ↓Int.cast_ofNat_Int, simprocAttr]; refine hK _ ?_; clear hK K
 refine zA ?_; refine zW ?_
 simp (disch := omega) only [aK, aR, yH, yE, aP, aX, yK, yJ, aG, push_cast, ↓Int.cast_ofNat_Int, Nat.reduceBEq, Nat.reduceAdd, Nat.reduceLT, Nat.reduceEqDiff, reduceIte, reduceCtorEq, Nat.reduceLeDiff, Nat.reduceSub, List.reduceReplicate, Nat.reduceMul, Int.reduceToNat, Int.toNat_natCast, Nat.reducePow, reduceIte]
 refine cJ [0, 1] (by decide) (by decide) (by simp only [push_cast, simprocAttr]) (by simp only [push_cast, simprocAttr]) (by simp only [push_cast, simprocAttr]; rfl) (by simp only [push_cast, simprocAttr]; rfl) ?_
 exact ⟨rfl, rfl⟩
set_option maxHeartbeats 2000000 in
theorem qXd (d : Dk) (R : LN) (fr nw : Bool) (p : ByteArray) (hl : d.L.length ≤ 4194304) : HFunS Tryz.prog 59 [.ptr 0 6 0 0, .v (.string p)] (rst d R fr nw) (fun h st => h = .tup [] ∧ st = rst { d with L := del p d.L } R true nw) := by
 refine kJ (N := 39) Tryz.func59 rfl Tryz.ntmps59 Tryz.results59 (by simp) ?_
 obtain ⟨L, Rq, steps, stamps, armed, down, n, m⟩ := d
 simp only [rst, eF] at hl ⊢
 refine zE ?_; refine zJ (fun K hK => ?_); simp (disch := omega) only [push_cast, ↓Int.cast_ofNat_Int, simprocAttr]; refine hK _ ?_; clear hK K
 refine zE ?_; refine zE ?_; refine zJ (fun K hK => ?_); simp (disch := omega) only [push_cast, ↓Int.cast_ofNat_Int, simprocAttr]; refine hK _ ?_; clear hK K
 refine zA ?_; refine zD ?_
 refine qFv 4 9000 37 7 rfl (by simp only [xZ, qDb, qDd, fY, eV, fP, eN, lC, fW, iA, fV, fU, iT, fX, fT, eU, iM, iP, iN, lA, tA, nE, Nat.reduceBEq, Nat.reduceEqDiff, reduceIte, cond_true, cond_false, List.map_cons, List.map_nil]; exact rfl) ?_
 refine dU (fun i : Nat => ⟨[(0, .ptr 0 6 0 0), (1, .v (.string p)), (4, .own 9000), (5, .v (.int .i64 i))], [(9000, .sl true 37 7 (dS (del p (L.take i)))), (0, .bx false 35 [.lst fr (dS L), .own 1, .v (.int .i64 steps), .v (.int .i64 stamps), .v (.int .i64 armed), .v (.bool down)]), (1, .sl nw 76 2 (rms R))]⟩) (fun i => i ≤ L.length) (fun i => L.length - i) [0, 1, 4, 5] [9000, 0, 1] 0 (by simp only [zZ, zR, zP, zQ, zN, zS, zM, zX, zU, Nat.reduceEqDiff, reduceIte]; rfl) (Nat.zero_le _) ?_
 rintro i hi
 by_cases hlt : i < L.length
 ·have h1 := zE6 p hlt
  have h2 := qFt p (L.take i)
  rw [List.length_take] at h2
  refine zE ?_; refine zE ?_; refine zJ (fun K hK => ?_); simp (disch := omega) only [push_cast, ↓Int.cast_ofNat_Int, simprocAttr, bD]; refine hK _ ?_; clear hK K
  refine zA ?_
  refine yD rfl ?_
  refine zC ?_; refine zE ?_
  by_cases hv : L[i].1 = p
  ·have hd : decide (L[i].1 = p) = true := decide_eq_true hv
   rw [if_pos hv] at h1
   refine zD ?_; refine zE ?_; refine zJ (fun K hK => ?_); simp (disch := omega) only [push_cast, ↓Int.cast_ofNat_Int, simprocAttr, bD, bQ, bV hlt, hd]; refine hK _ ?_; clear hK K
   refine yC rfl ?_
   refine zC ?_; refine zB ?_; refine zA ?_
   refine zJ (fun K hK => ?_); simp (disch := omega) only [push_cast, ↓Int.cast_ofNat_Int, simprocAttr]; refine hK _ ?_; clear hK K
   refine zA ?_
   exact ⟨i + 1, by simp only [zZ, zR, zP, zQ, zN, zS, zM, zX, zU, Nat.reduceEqDiff, reduceIte]; rw [h1]; rfl, hlt, by omega⟩
  ·have hd : decide (L[i].1 = p) = false := decide_eq_false hv
   rw [if_neg hv] at h1
   generalize del p (L.take i) = a at *
   refine zD ?_; refine zE ?_; refine zJ (fun K hK => ?_); simp (disch := omega) only [push_cast, ↓Int.cast_ofNat_Int, simprocAttr, bD, bQ, bV hlt, hd]; refine hK _ ?_; clear hK K
   refine yD rfl ?_
   refine zJ (fun K hK => ?_); simp (disch := omega) only [push_cast, ↓Int.cast_ofNat_Int, simprocAttr, bD, bQ, bV hlt]
   (repeat refine ⟨by first | omega | decide | ((repeat' apply And.intro) <;> first | omega | decide), ?_⟩)
   refine hK _ ?_; clear hK K
   refine zB ?_; refine zA ?_
   refine zJ (fun K hK => ?_); simp (disch := omega) only [push_cast, ↓Int.cast_ofNat_Int, simprocAttr]; refine hK _ ?_; clear hK K
   refine zA ?_
   exact ⟨i + 1, by simp only [zZ, zR, zP, zQ, zN, zS, zM, zX, zU, Nat.reduceEqDiff, reduceIte]; rw [h1, ← uJ]; rfl, hlt, by omega⟩
 ·have hne : i = L.length := by omega
  subst hne
  rw [List.take_length]
  refine zE ?_; refine zE ?_; refine zJ (fun K hK => ?_); simp (disch := omega) only [push_cast, ↓Int.cast_ofNat_Int, simprocAttr, bD]; refine hK _ ?_; clear hK K
  refine zA ?_
  refine yC rfl ?_
  refine zT ?_; refine zG ?_; refine zG ?_; refine zH ?_; refine zA ?_
  refine qC2 9000 rfl (by simp only [xS, tF, nF, rL, mZ, qDp, sX, sY, nD, sW, sU, yR, sZ, sT, xN, xP, xQ, Nat.reduceEqDiff, reduceIte, List.map_cons, List.map_nil, List.map_append]; exact rfl) ?_
  refine zJ (fun K hK => ?_); simp (disch := omega) only [push_cast, ↓Int.cast_ofNat_Int, simprocAttr]; refine hK _ ?_; clear hK K
  skip
  simp only [aK, aR, yH, yE, yK, yJ, aG, zS, zM, Nat.reduceEqDiff, reduceIte, reduceCtorEq]
  refine cJ [0, 1] (by decide) (by decide) (by simp only [push_cast, simprocAttr]) (by simp only [push_cast, simprocAttr]) (by simp only [push_cast, simprocAttr]; rfl) (by simp only [push_cast, simprocAttr]; rfl) ?_
  exact ⟨rfl, rfl⟩
end Go.Proofs.YtojolcpblacjjaaGreatDoor
