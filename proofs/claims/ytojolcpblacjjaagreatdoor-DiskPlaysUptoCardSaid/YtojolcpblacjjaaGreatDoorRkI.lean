/-
  The reference's disk: Limit, Mix, Restart, walked.
-/
import Derived.Test.YtojolcpblacjjaaGreatDoorRkH
import Derived.Test.YtojolcpblacjjaaGreatDoorDlC
set_option linter.unusedSimpArgs false
set_option linter.unusedVariables false
set_option maxRecDepth 20000
namespace Go.Dk
open Go Go.Eng Go.Tr
theorem qVu {α : Type} {p : ByteArray} {x : α} : ∀ {L : List (ByteArray × α)} {i : Nat} (hr : gW L) (hi : i < L.length), L[i].1 = p → put p x L = L.set i (p, x)
 | [], i, _, hi, _ => by simp at hi
 | (t, y) :: r, 0, hr, hi, h => by
  simp only [List.getElem_cons_zero] at h
  rw [put, if_pos h]; rfl
 | (t, y) :: r, i + 1, hr, hi, h => by
  obtain ⟨h1, h2⟩ := List.pairwise_cons.1 hr
  simp only [List.getElem_cons_succ] at h
  have hi' : i < r.length := by simpa using hi
  have hlt := h1 _ (List.getElem_mem hi')
  rw [h] at hlt
  rw [put, if_neg (fun e => by subst e; rw [lE] at hlt; cases hlt), zF, if_neg (fun e => by have := nG e; rw [hlt] at this; cases this), qVu h2 hi' h]
  rfl
theorem zDb {α : Type} {p : ByteArray} {x : α} {L : List (ByteArray × α)} {i : Nat} (hr : gW L) (hi : i < L.length) (h : L[i].1 = p) : dC (put p x L) = dC L := by
 rw [qVu hr hi h, dC, dC, List.map_set]
 apply List.ext_getElem (by simp)
 intro j h1 h2
 rw [List.getElem_set]
 split
 ·rename_i e; subst e; simp [h]
 ·rfl
theorem zGp {α : Type} {p : ByteArray} {x : α} {L : List (ByteArray × α)} {i : Nat} (hr : gW L) (hi : i < L.length) (h : L[i].1 = p) : (put p x L).length = L.length := by
 rw [qVu hr hi h, List.length_set]
def qDl (v : ByteArray) (k : Int) (R : LN) : LN := match plc v R with
 | some i => R.set i (v, k)
 | none => R ++ [(v, k)]
theorem qSn {α : Type} (v : ByteArray) (k : α) (u : ByteArray) : ∀ {R : List (ByteArray × α)}, plc v R = none → bC (R ++ [(v, k)]) u = if u = v then some k else bC R u
 | [], _ => by
  simp only [List.nil_append, bC]
  by_cases e : u = v
  ·subst e; simp
  ·rw [if_neg (fun h => e h.symm), if_neg e]
 | (t, y) :: r, h => by
  have hn := (oF h).2 (t, y) (by simp)
  have hr : plc v r = none := by
   rw [plc] at h
   split at h
   ·cases h
   ·cases hx : plc v r with
    | none => rfl
    | some j => rw [hx] at h; cases h
  simp only [List.cons_append, bC]
  rw [qSn v k u hr]
  by_cases e : t = u
  ·subst e
   have hn : ¬ t = v := hn
   simp [hn]
  ·rw [if_neg e, if_neg e]
theorem qM4 {α : Type} (v : ByteArray) (k : α) (u : ByteArray) : ∀ {R : List (ByteArray × α)} {i : Nat}, plc v R = some i → bC (R.set i (v, k)) u = if u = v then some k else bC R u
 | [], i, h => by cases h
 | (t, y) :: r, i, h => by
  rw [plc] at h
  split at h
  ·rename_i e
   cases h
   have e : t = v := e
   subst e
   simp only [List.set_cons_zero, bC]
   by_cases e : u = t
   ·subst e; simp
   ·rw [if_neg (fun h => e h.symm), if_neg e, if_neg (fun h => e h.symm)]
  ·rename_i e
   have e : ¬ t = v := e
   cases hx : plc v r with
   | none => rw [hx] at h; cases h
   | some j =>
    rw [hx] at h
    cases h
    simp only [List.set_cons_succ, bC]
    rw [qM4 v k u hx]
    by_cases e2 : t = u
    ·subst e2; simp [e]
    ·rw [if_neg e2, if_neg e2]
theorem zC5 {v : ByteArray} {k : Int} {R : LN} (u : ByteArray) : bC (qDl v k R) u = if u = v then some k else bC R u := by
 unfold qDl
 cases h : plc v R with
 | none => exact qSn v k u h
 | some i => exact qM4 v k u h
theorem zGn {v : ByteArray} {k : Int} {R : LN} (h : (R.map fun e => e.1).Nodup) : ((qDl v k R).map fun e => e.1).Nodup := by
 unfold qDl
 cases hp : plc v R with
 | none =>
  simp only [List.map_append, List.map_cons, List.map_nil]
  rw [List.nodup_append]
  exact ⟨h, by simp, fun a ha b hb => by
   rw [List.mem_singleton] at hb
   subst hb
   obtain ⟨e, he, rfl⟩ := List.mem_map.1 ha
   exact (oF hp).2 e he⟩
 | some i =>
  obtain ⟨hi, e1, -⟩ := vX hp
  have : (R.set i (v, k)).map (fun e => e.1) = R.map fun e => e.1 := by
   rw [List.map_set]
   apply List.ext_getElem (by simp)
   intro j h1 h2
   rw [List.getElem_set]
   split
   ·rename_i e; subst e; simp [e1]
   ·rfl
  show ((R.set i (v, k)).map fun e => e.1).Nodup
  rw [this]; exact h
theorem zGo (v : ByteArray) (k : Int) (R : LN) : (qDl v k R).length ≤ R.length + 1 := by
 unfold qDl
 split <;> simp
theorem zF8 (R : LN) (i : Nat) (v : ByteArray) (k : Int) : (rms R).set i [.v (.string v), .v (.int .i64 k)] = rms (R.set i (v, k)) := by rw [rms, rms, List.map_set]; rfl
end Go.Dk
namespace Go.Proofs.YtojolcpblacjjaaGreatDoor
open Go Go.Eng Go.RowKit Go.Tr Go.Dk
set_option maxHeartbeats 2000000 in
theorem zCb (d : Dk) (R : LN) (fr nw : Bool) (hrl : R.length ≤ 4194303) (v : ByteArray) (k : Int) (hs : v.size ≤ 1048576) : HFunS Tryz.prog 29 [.ptr 0 6 0 0, .v (.string v), .v (.int .i64 k)] (rst d R fr nw) (fun h st => h = .v (.int .i64 (dW d v k).1) ∧ ∃ nw', st = rst d (if (dW d v k).1 = 0 then qDl v k R else R) fr nw') := by
 refine kJ (N := 52) Tryz.func29 rfl Tryz.ntmps29 Tryz.results29 (by simp) ?_
 have hc := qMc v 1 hs (by decide)
 obtain ⟨L, Rq, steps, stamps, armed, down, n, m⟩ := d
 simp only [rst, eF]
 refine zE ?_; refine zJ (fun K hK => ?_); simp (disch := omega) only [push_cast, ↓Int.cast_ofNat_Int, simprocAttr]; refine hK _ ?_; clear hK K
 refine zE ?_; refine zE ?_; refine zJ (fun K hK => ?_); simp (disch := omega) only [push_cast, ↓Int.cast_ofNat_Int, simprocAttr]; refine hK _ ?_; clear hK K
 refine zA ?_
 by_cases h0 : k < 0
 ·have hr : (dW ⟨L, Rq, steps, stamps, armed, down, n, m⟩ v k).1 = 1 := by rw [dW, if_pos h0]
  rw [hr]
  refine bE rfl (fun _ => ?_) (fun h => by simp [h0] at h)
  refine zE ?_; refine zJ (fun K hK => ?_); simp (disch := omega) only [push_cast, ↓Int.cast_ofNat_Int, simprocAttr]; refine hK _ ?_; clear hK K
  refine zA ?_; refine zW ?_; refine zK ?_
  simp only [aK, aR, yH, yE, yK, yJ, aG, zS, zM, Nat.reduceEqDiff, reduceIte, reduceCtorEq]
  refine cJ [0, 1] (by decide) (by decide) (by simp only [push_cast, simprocAttr]) (by simp only [push_cast, simprocAttr]) (by simp only [push_cast, simprocAttr]; rfl) (by simp only [push_cast, simprocAttr]; rfl) ?_
  exact ⟨rfl, nw, rfl⟩
 refine bE rfl (fun h => by simp [h0] at h) (fun _ => ?_)
 cases hp : pOk v 1 with
 | false =>
  have hr : (dW ⟨L, Rq, steps, stamps, armed, down, n, m⟩ v k).1 = 10 := by rw [dW, if_neg h0, if_pos hp]
  have hc : HFun Tryz.prog 61 [.v (.string v), .v (.int .i64 1)] (fun h st => h = .v (.int .i64 10)) := by
   have h := hc
   rw [show ((1 : Nat) : Int) = 1 from rfl, hp] at h
   exact h
  rw [hr]
  refine zC ?_; refine zE ?_; refine zE ?_; refine zJ (fun K hK => ?_); simp (disch := omega) only [push_cast, ↓Int.cast_ofNat_Int, simprocAttr]
  refine cG zGw hc (.cons (.v _) (.cons (.v _) .nil)) ?_
  with_reducible refine aM ?_; simp (disch := omega) only [push_cast, ↓Int.cast_ofNat_Int, simprocAttr]
  refine hK _ ?_; clear hK K
  refine zA ?_
  refine yD rfl ?_
  refine zE ?_; refine zJ (fun K hK => ?_); simp (disch := omega) only [push_cast, ↓Int.cast_ofNat_Int, simprocAttr]; refine hK _ ?_; clear hK K
  refine zA ?_; refine zW ?_; refine zK ?_
  simp only [aK, aR, yH, yE, yK, yJ, aG, zS, zM, Nat.reduceEqDiff, reduceIte, reduceCtorEq]
  refine cJ [0, 1] (by decide) (by decide) (by simp only [push_cast, simprocAttr]) (by simp only [push_cast, simprocAttr]) (by simp only [push_cast, simprocAttr]; rfl) (by simp only [push_cast, simprocAttr]; rfl) ?_
  exact ⟨rfl, nw, rfl⟩
 | true =>
  have hr : (dW ⟨L, Rq, steps, stamps, armed, down, n, m⟩ v k).1 = 0 := by rw [dW, if_neg h0, if_neg (by rw [hp]; decide)]
  have hc : HFun Tryz.prog 61 [.v (.string v), .v (.int .i64 1)] (fun h st => h = .v (.int .i64 0)) := by
   have h := hc
   rw [show ((1 : Nat) : Int) = 1 from rfl, hp] at h
   exact h
  rw [hr]
  simp only [if_true]
  refine zC ?_; refine zE ?_; refine zE ?_; refine zJ (fun K hK => ?_); simp (disch := omega) only [push_cast, ↓Int.cast_ofNat_Int, simprocAttr]
  refine cG zGw hc (.cons (.v _) (.cons (.v _) .nil)) ?_
  with_reducible refine aM ?_; simp (disch := omega) only [push_cast, ↓Int.cast_ofNat_Int, simprocAttr]
  refine hK _ ?_; clear hK K
  refine zA ?_
  refine yC rfl ?_
  refine zC ?_; refine zE ?_; refine zE ?_; refine zJ (fun K hK => ?_); simp (disch := omega) only [push_cast, ↓Int.cast_ofNat_Int, simprocAttr]; refine hK _ ?_; clear hK K
  refine zA ?_; refine zD ?_
  refine dU (fun i : Nat => ⟨[(0, .ptr 0 6 0 0), (1, .v (.string v)), (2, .v (.int .i64 k)), (7, .v (.int .i64 i))], [(0, .bx false 35 [.lst fr (dS L), .own 1, .v (.int .i64 steps), .v (.int .i64 stamps), .v (.int .i64 armed), .v (.bool down)]), (1, .sl nw 76 2 (rms R))]⟩) (fun i => i ≤ R.length ∧ ∀ k (h : k < R.length), k < i → R[k].1 ≠ v) (fun i => R.length - i) [0, 1, 2, 7] [0, 1] 0 rfl ⟨Nat.zero_le _, fun k h hk => absurd hk (Nat.not_lt_zero _)⟩ ?_
  rintro i ⟨hi, hn⟩
  by_cases hlt : i < R.length
  ·refine zE ?_; refine zE ?_; refine zJ (fun K hK => ?_); simp (disch := omega) only [push_cast, ↓Int.cast_ofNat_Int, simprocAttr, gG]; refine hK _ ?_; clear hK K
   refine zA ?_
   refine yD rfl ?_
   refine zC ?_; refine zE ?_
   by_cases he : R[i].1 = v
   ·have hd : decide (R[i].1 = v) = true := decide_eq_true he
    have hlm : qDl v k R = R.set i (v, k) := by rw [qDl, qG8 hlt hn he]
    rw [hlm, ← zF8]
    refine zD ?_; refine zE ?_; refine zJ (fun K hK => ?_); simp (disch := omega) only [push_cast, ↓Int.cast_ofNat_Int, simprocAttr, gG, kY, mM hlt, hd]; refine hK _ ?_; clear hK K
    refine yD rfl ?_
    refine zE ?_; refine zJ (fun K hK => ?_); simp (disch := omega) only [push_cast, ↓Int.cast_ofNat_Int, simprocAttr, gG, kY, mM hlt]; refine hK _ ?_; clear hK K
    refine zE ?_; refine zJ (fun K hK => ?_); simp (disch := omega) only [push_cast, ↓Int.cast_ofNat_Int, simprocAttr]; refine hK _ ?_; clear hK K
    refine zA ?_; refine zW ?_; refine zL ?_; refine zK ?_; refine zK ?_; refine zL ?_; refine zK ?_
    simp only [aK, aR, yH, yE, yK, yJ, aG, zS, zM, Nat.reduceEqDiff, reduceIte, reduceCtorEq]
    refine cJ [0, 1] (by decide) (by decide) (by simp only [push_cast, simprocAttr]) (by simp only [push_cast, simprocAttr]) (by simp only [push_cast, simprocAttr]; rfl) (by simp only [push_cast, simprocAttr]; rfl) ?_
    exact ⟨rfl, nw, by rw [he]⟩
   ·have hd : decide (R[i].1 = v) = false := decide_eq_false he
    refine zD ?_; refine zE ?_; refine zJ (fun K hK => ?_); simp (disch := omega) only [push_cast, ↓Int.cast_ofNat_Int, simprocAttr, gG, kY, mM hlt, hd]; refine hK _ ?_; clear hK K
    refine yC rfl ?_
    refine zC ?_; refine zB ?_; refine zA ?_
    refine zJ (fun K hK => ?_); simp (disch := omega) only [push_cast, ↓Int.cast_ofNat_Int, simprocAttr]; refine hK _ ?_; clear hK K
    refine zA ?_
    refine ⟨i + 1, rfl, ⟨hlt, fun k hk hk2 => ?_⟩, by omega⟩
    by_cases e : k = i
    ·subst e; exact he
    ·exact hn k hk (by omega)
  ·have hlm : qDl v k R = R ++ [(v, k)] := by rw [qDl, qQu fun k hk => hn k hk (by omega)]
   rw [hlm, ← zB9]
   refine zE ?_; refine zE ?_; refine zJ (fun K hK => ?_); simp (disch := omega) only [push_cast, ↓Int.cast_ofNat_Int, simprocAttr, gG]; refine hK _ ?_; clear hK K
   refine zA ?_
   refine yC rfl ?_
   refine zT ?_; refine zG ?_; refine zG ?_; refine zH ?_; refine zE ?_
   refine yB [0, 1, 2] [0, 1] (by simp only [zZ, zR, zP, zQ, zN, zS, zM, zX, zU, Nat.reduceEqDiff, reduceIte]; exact rfl) ?_
   refine zJ (fun K hK => ?_); simp (disch := omega) only [push_cast, ↓Int.cast_ofNat_Int, simprocAttr, gG, kY]
   (repeat refine ⟨by first | omega | decide | ((repeat' apply And.intro) <;> first | omega | decide), ?_⟩)
   refine hK _ ?_; clear hK K
   refine zE ?_; refine zJ (fun K hK => ?_); simp (disch := omega) only [push_cast, ↓Int.cast_ofNat_Int, simprocAttr]; refine hK _ ?_; clear hK K
   refine zA ?_; refine zW ?_
   simp only [aK, aR, yH, yE, yK, yJ, aG, zS, zM, Nat.reduceEqDiff, reduceIte, reduceCtorEq]
   refine cJ [0, 1] (by decide) (by decide) (by simp only [push_cast, simprocAttr]) (by simp only [push_cast, simprocAttr]) (by simp only [push_cast, simprocAttr]; rfl) (by simp only [push_cast, simprocAttr]; rfl) ?_
   exact ⟨rfl, _, rfl⟩
theorem qZ5 (x : Int) (s : Nat) (h : 0 ≤ x) : x.fdiv (2 ^ s) = x.tdiv (2 ^ s) := by
 have h2 : (0 : Int) ≤ 2 ^ s := Int.pow_nonneg (by decide)
 rw [Int.fdiv_eq_ediv_of_nonneg _ h2, Int.tdiv_eq_ediv_of_nonneg h]
theorem qAs (x : Int) : 0 ≤ IntKind.u64.wrap x ∧ IntKind.u64.wrap x < 18446744073709551616 := by
 rw [IntKind.wrap_u64]; omega
theorem qZu {x : Int} (h : 0 ≤ x ∧ x < 18446744073709551616) (s : Nat) : IntKind.u64.wrap (x.tdiv (2 ^ s)) = x.tdiv (2 ^ s) := by
 have h2 : (0 : Int) < 2 ^ s := Int.pow_pos (by decide)
 have := Int.tdiv_eq_ediv_of_nonneg (b := 2 ^ s) h.1
 have h3 := Int.ediv_nonneg h.1 (Int.le_of_lt h2)
 have h4 := Int.ediv_le_self (2 ^ s) h.1
 rw [IntKind.wrap_u64, this]; omega
theorem zH4 {x : Int} (h : 0 ≤ x ∧ x < 18446744073709551616) (c : Int) (s : Nat) (hc : c = 2 ^ s) (hs : min s IntKind.u64.bits = s) : IntKind.u64.wrap (x.tdiv c) = x.fdiv (2 ^ min s IntKind.u64.bits) := by
 rw [hs, qZ5 _ _ h.1, hc, qZu h]
theorem zH0 (a b : Int) : HFun Tryz.prog 65 [.v (.int .u64 a), .v (.int .u64 b)] (fun h st => h = .v (.int .u64 (qDi a b))) := by
 refine iB (N := 24) Tryz.func65 rfl Tryz.ntmps65 Tryz.results65 (by simp) ?_
 unfold qDi zC2
 refine zE ?_; refine zJ (fun K hK => ?_); simp (disch := omega) only [push_cast, ↓Int.cast_ofNat_Int, simprocAttr]; refine hK _ ?_; clear hK K
 refine zE ?_; refine zJ (fun K hK => ?_); simp (disch := omega) only [push_cast, ↓Int.cast_ofNat_Int, simprocAttr]; refine hK _ ?_; clear hK K
 obtain ⟨x, hx, x0⟩ : ∃ x, IntKind.u64.wrap (a + IntKind.u64.wrap (b * 11400714819323198485)) = x ∧ 0 ≤ x ∧ x < 18446744073709551616 := ⟨_, rfl, qAs _⟩
 rw [hx]
 refine zE ?_; refine zJ (fun K hK => ?_); simp (disch := omega) only [push_cast, ↓Int.cast_ofNat_Int, simprocAttr]; (repeat refine ⟨by first | omega | decide | ((repeat' apply And.intro) <;> first | omega | decide), ?_⟩); refine hK _ ?_; clear hK K
 rw [zH4 x0 1073741824 30 (by decide) rfl]
 refine yB [4, 5] [] (by simp only [zZ, zR, zP, zQ, zN, zS, zM, zX, zU, Nat.reduceEqDiff, reduceIte]; exact rfl) ?_
 obtain ⟨y, hy, y0⟩ : ∃ y, IntKind.u64.wrap (bits .xor .u64 x (x.fdiv (2 ^ min 30 IntKind.u64.bits)) * 13787848793156543929) = y ∧ 0 ≤ y ∧ y < 18446744073709551616 := ⟨_, rfl, qAs _⟩
 rw [hy]
 refine zE ?_; refine zJ (fun K hK => ?_); simp (disch := omega) only [push_cast, ↓Int.cast_ofNat_Int, simprocAttr]; (repeat refine ⟨by first | omega | decide | ((repeat' apply And.intro) <;> first | omega | decide), ?_⟩); refine hK _ ?_; clear hK K
 rw [zH4 y0 134217728 27 (by decide) rfl]
 refine yB [4, 5] [] (by simp only [zZ, zR, zP, zQ, zN, zS, zM, zX, zU, Nat.reduceEqDiff, reduceIte]; exact rfl) ?_
 obtain ⟨z, hz, z0⟩ : ∃ z, IntKind.u64.wrap (bits .xor .u64 y (y.fdiv (2 ^ min 27 IntKind.u64.bits)) * 10723151780598845931) = z ∧ 0 ≤ z ∧ z < 18446744073709551616 := ⟨_, rfl, qAs _⟩
 rw [hz]
 refine zE ?_; refine zJ (fun K hK => ?_); simp (disch := omega) only [push_cast, ↓Int.cast_ofNat_Int, simprocAttr]; (repeat refine ⟨by first | omega | decide | ((repeat' apply And.intro) <;> first | omega | decide), ?_⟩); refine hK _ ?_; clear hK K
 rw [zH4 z0 2147483648 31 (by decide) rfl]
 refine zA ?_; refine zW ?_
 simp only [yA, yM, yH, yE, aP, aX, yK, yJ, zS, zM, Nat.reduceEqDiff, reduceIte, reduceCtorEq]
 exact bJ rfl
set_option maxHeartbeats 8000000 in
theorem qVp (d : Dk) (R : LN) (fr nw : Bool) (hrise : gW d.L) (hlen : d.L.length ≤ 1000) (hst : 0 ≤ d.stamps ∧ d.stamps ≤ 1073741824) (hlo : Lo d) (loss : Int) : HFunS Tryz.prog 32 [.ptr 0 6 0 0, .v (.int .i64 loss)] (rst d R fr nw) (fun h st => h = .v (.int .i64 0) ∧ ∃ fr', st = rst (restart d loss) R fr' nw) := by
 refine kJ (N := 92) Tryz.func32 rfl Tryz.ntmps32 Tryz.results32 (by simp) ?_
 simp only [rst, eF]
 obtain ⟨ks, hks⟩ : ∃ ks, dC d.L = ks := ⟨_, rfl⟩
 have hkl : ks.length = d.L.length := by rw [← hks]; simp [dC]
 have hre : restart d loss = { gA loss ks 0 d with down := false, armed := -1 } := by rw [restart, hks]
 refine zE ?_; refine zJ (fun K hK => ?_); simp (disch := omega) only [push_cast, ↓Int.cast_ofNat_Int, simprocAttr]; refine hK _ ?_; clear hK K
 refine zE ?_; refine zJ (fun K hK => ?_); simp (disch := omega) only [push_cast, ↓Int.cast_ofNat_Int, simprocAttr]; refine hK _ ?_; clear hK K
 refine zE ?_; refine zE ?_; refine zJ (fun K hK => ?_); simp (disch := omega) only [push_cast, ↓Int.cast_ofNat_Int, simprocAttr]; refine hK _ ?_; clear hK K
 refine zA ?_; refine zD ?_
 refine dU (ι := Nat × Int × Dk × Bool) (fun q => ⟨[(0, .ptr 0 6 0 0), (1, .v (.int .i64 loss)), (5, .v (.int .i64 q.2.1)), (6, .v (.int .i64 (q.1 : Int)))],
   [(0, .bx false 35 [.lst q.2.2.2 (dS q.2.2.1.L), .own 1, .v (.int .i64 q.2.2.1.steps), .v (.int .i64 q.2.2.1.stamps), .v (.int .i64 q.2.2.1.armed), .v (.bool q.2.2.1.down)]), (1, .sl nw 76 2 (rms R))]⟩)
  (fun q => q.1 ≤ ks.length ∧ gA loss (ks.drop q.1) q.2.1 q.2.2.1 = gA loss ks 0 d ∧ gW q.2.2.1.L ∧ dC q.2.2.1.L = ks ∧ Lo q.2.2.1 ∧ 0 ≤ q.2.1 ∧ q.2.1 ≤ q.1 ∧ 0 ≤ q.2.2.1.stamps ∧ q.2.2.1.stamps ≤ d.stamps + q.1) (fun q => ks.length - q.1) [0, 1, 5, 6] [0, 1] (0, 0, d, fr) rfl
  ⟨Nat.zero_le _, rfl, hrise, hks, hlo, Int.le_refl _, Int.le_refl _, hst.1, by simp⟩ ?_
 rintro ⟨j, m, e, fr2⟩ ⟨hj, hgo, hR, hK1, hL, hm0, hm1, hs0, hs1⟩
 dsimp only at hj hgo hR hK1 hL hm0 hm1 hs0 hs1 ⊢
 have hel : e.L.length = ks.length := by rw [← hK1]; simp [dC]
 rcases (Decidable.em (j < ks.length)).symm with h1 | h1
 ·have hjl : j = ks.length := by omega
  rw [hjl, List.drop_length] at hgo
  have hgo : e = gA loss ks 0 d := hgo
  refine zE ?_; refine zE ?_; refine zJ (fun K hK => ?_); simp (disch := omega) only [push_cast, ↓Int.cast_ofNat_Int, simprocAttr, bD]; refine hK _ ?_; clear hK K
  refine zA ?_
  refine yC rfl ?_
  refine zT ?_; refine zG ?_; refine zG ?_; refine zH ?_; refine zE ?_
  refine zJ (fun K hK => ?_); simp (disch := omega) only [push_cast, ↓Int.cast_ofNat_Int, simprocAttr]; refine hK _ ?_; clear hK K
  refine zE ?_; refine zJ (fun K hK => ?_); simp (disch := omega) only [push_cast, ↓Int.cast_ofNat_Int, simprocAttr]; refine hK _ ?_; clear hK K
  refine zE ?_; refine zJ (fun K hK => ?_); simp (disch := omega) only [push_cast, ↓Int.cast_ofNat_Int, simprocAttr]; refine hK _ ?_; clear hK K
  refine zA ?_; refine zW ?_
  simp only [aK, aR, yH, yE, yK, yJ, aG, zS, zM, Nat.reduceEqDiff, reduceIte, reduceCtorEq]
  refine cJ [0, 1] (by decide) (by decide) (by simp only [push_cast, simprocAttr]) (by simp only [push_cast, simprocAttr]) (by simp only [push_cast, simprocAttr]; rfl) (by simp only [push_cast, simprocAttr]; rfl) ?_
  refine ⟨rfl, fr2, ?_⟩
  rw [hre, ← hgo]
 have hje : j < e.L.length := by omega
 obtain ⟨p, hp⟩ : ∃ p, p = e.L[j].1 := ⟨_, rfl⟩
 have hkj : ks[j] = p := by subst hK1; rw [hp]; simp [dC]
 have hdr : ks.drop j = p :: ks.drop (j + 1) := by rw [← hkj]; exact List.drop_eq_getElem_cons h1
 rw [hdr, gA] at hgo
 have hlk : bC e.L p = some e.L[j].2 := nB hR (by rw [hp]; exact List.getElem_mem hje)
 have hit : aQ e p = e.L[j].2 := by rw [aQ, hlk]; rfl
 have hLp := hL p
 obtain ⟨l1, l2, l3⟩ := hLp
 obtain ⟨x, hx⟩ : ∃ x, aQ e p = x := ⟨_, rfl⟩
 rw [hx] at hgo l1 l2 l3
 have hxg : (dS e.L).getD j [] = [.v (.string p), .v (.bool x.dir), .v (.string x.data), .v (.string x.kept), .v (.bool x.loose), .v (.bool x.anew), .v (.int .i64 x.stamp)] := by
  rw [bV hje, ← hp, ← hit, hx]
 refine zE ?_; refine zE ?_; refine zJ (fun K hK => ?_); simp (disch := omega) only [push_cast, ↓Int.cast_ofNat_Int, simprocAttr, bD]; refine hK _ ?_; clear hK K
 refine zA ?_
 refine yD rfl ?_
 refine zC ?_; refine zE ?_
 refine zD ?_; refine zE ?_; refine zJ (fun K hK => ?_); simp (disch := omega) only [push_cast, ↓Int.cast_ofNat_Int, simprocAttr, bD, bQ, hxg]; refine hK _ ?_; clear hK K
 refine yB [0, 1, 5, 6, 7] [0, 1, 56] (by simp only [zZ, zR, zP, zQ, zN, zS, zM, zX, zU, Nat.reduceEqDiff, reduceIte]; exact rfl) ?_
 refine zE ?_; refine zE ?_; refine zJ (fun K hK => ?_); simp (disch := omega) only [push_cast, ↓Int.cast_ofNat_Int, simprocAttr]; refine hK _ ?_; clear hK K
 refine zA ?_
 cases hlo1 : x.loose with
 | false =>
  rw [hlo1, if_neg (by decide)] at hgo
  refine yD rfl ?_
  refine zT ?_; refine zG ?_; refine zH ?_; refine zA ?_
  refine zJ (fun K hK => ?_); simp (disch := omega) only [push_cast, ↓Int.cast_ofNat_Int, simprocAttr]; refine hK _ ?_; clear hK K
  refine zA ?_
  refine ⟨(j + 1, m, e, fr2), ?_, ⟨by show j + 1 ≤ _; omega, hgo, hR, hK1, hL, hm0, by show m ≤ ((j + 1 : Nat) : Int); push_cast; omega, hs0, by show e.stamps ≤ d.stamps + ((j + 1 : Nat) : Int); push_cast; omega⟩, by show ks.length - (j + 1) < ks.length - j; omega⟩
  dsimp only
  rw [show (((j + 1 : Nat) : Int)) = (j : Int) + 1 from Int.natCast_succ j]
  rfl
 | true =>
  rw [hlo1, if_pos rfl] at hgo
  refine yC rfl ?_
  refine zC ?_; refine zE ?_; refine zJ (fun K hK => ?_); simp (disch := omega) only [push_cast, ↓Int.cast_ofNat_Int, simprocAttr]; refine hK _ ?_; clear hK K
  have hmx := zH0 (IntKind.u64.wrap loss) (IntKind.u64.wrap (m + 1))
  have hrg := qM2 (IntKind.u64.wrap loss) (IntKind.u64.wrap (m + 1))
  obtain ⟨pk, hpk⟩ : ∃ pk, qDi (IntKind.u64.wrap loss) (IntKind.u64.wrap (m + 1)) = pk := ⟨_, rfl⟩
  rw [hpk] at hgo hmx hrg
  refine zE ?_; refine zJ (fun K hK => ?_); simp (disch := omega) only [push_cast, ↓Int.cast_ofNat_Int, simprocAttr]
  refine cG zMi hmx (.cons (.v _) (.cons (.v _) .nil)) ?_
  with_reducible refine aM ?_; simp (disch := omega) only [push_cast, ↓Int.cast_ofNat_Int, simprocAttr]
  refine hK _ ?_; clear hK K
  refine yB [0, 1, 5, 6, 7, 8] [0, 1, 56] (by simp only [zZ, zR, zP, zQ, zN, zS, zM, zX, zU, Nat.reduceEqDiff, reduceIte]; exact rfl) ?_
  refine zE ?_; refine zE ?_; refine zJ (fun K hK => ?_); simp (disch := omega) only [push_cast, ↓Int.cast_ofNat_Int, simprocAttr]; refine hK _ ?_; clear hK K
  refine zA ?_
  refine lF (fun _ : Unit => ⟨[(0, .ptr 0 6 0 0), (1, .v (.int .i64 loss)), (5, .v (.int .i64 (m + 1))), (6, .v (.int .i64 (j : Int))), (7, .ptr 56 7 0 0)],
   [(0, .bx false 35 [.lst fr2 (dS e.L), .own 1, .v (.int .i64 e.steps), .v (.int .i64 e.stamps), .v (.int .i64 e.armed), .v (.bool e.down)]), (1, .sl nw 76 2 (rms R)), (56, .bx true 37 [.v (.string p), .v (.bool x.dir), .v (.string x.data), .v (.string (xE pk x)), .v (.bool true), .v (.bool x.anew), .v (.int .i64 x.stamp)])]⟩) (fun _ => True) [0, 1, 5, 6, 7] [0, 1, 56] ?_ ?_
  ·cases han : x.anew with
   | true =>
    refine yD rfl ?_
    have hw1 : IntKind.u64.wrap ((x.data.size : Int) + 2) = (x.data.size : Int) + 2 := by rw [IntKind.wrap_u64]; omega
    obtain ⟨k, hk⟩ : ∃ k, pk.tmod ((x.data.size : Int) + 2) = k := ⟨_, rfl⟩
    have hk2 : 0 ≤ k ∧ k < (x.data.size : Int) + 2 := by
     rw [← hk, Int.tmod_eq_emod_of_nonneg hrg.1]
     exact ⟨Int.emod_nonneg _ (by omega), Int.emod_lt_of_pos _ (by omega)⟩
    have hcut : xE pk x = if 0 < k then x.data.extract 0 (k - 1).toNat else x.kept := by
     unfold xE
     rw [if_pos han, hk]
    rw [hcut]
    refine zE ?_; refine zJ (fun K hK => ?_); simp (disch := omega) only [push_cast, ↓Int.cast_ofNat_Int, simprocAttr, hw1, hk]
    refine ⟨by omega, hK _ ?_⟩
    clear hK K
    refine zE ?_; refine zJ (fun K hK => ?_); simp (disch := omega) only [push_cast, ↓Int.cast_ofNat_Int, simprocAttr]; refine hK _ ?_; clear hK K
    refine zA ?_
    by_cases hk0 : 0 < k
    ·rw [if_pos hk0]
     refine bE rfl (fun _ => ?_) (fun h => by simp [hk0] at h)
     refine zJ (fun K hK => ?_); simp (disch := omega) only [push_cast, ↓Int.cast_ofNat_Int, simprocAttr]
     (repeat refine ⟨by first | omega | decide | ((repeat' apply And.intro) <;> first | omega | decide), ?_⟩)
     refine hK _ ?_; clear hK K
     refine rD ?_
     exact ⟨(), by simp only [zZ, zR, zP, zQ, zN, zS, zM, zX, zU, Nat.reduceEqDiff, reduceIte]; try rfl, trivial⟩
    ·rw [if_neg hk0]
     refine bE rfl (fun h => by simp [hk0] at h) (fun _ => ?_)
     refine zC ?_; refine rD ?_
     exact ⟨(), by simp only [zZ, zR, zP, zQ, zN, zS, zM, zX, zU, Nat.reduceEqDiff, reduceIte]; try rfl, trivial⟩
   | false =>
    have l4 := l3 han
    obtain ⟨k, hk⟩ : ∃ k, pk.tmod ((x.data.size : Int) - x.kept.size + 1) = k := ⟨_, rfl⟩
    have hk2 : 0 ≤ k ∧ k < (x.data.size : Int) - x.kept.size + 1 := by
     rw [← hk, Int.tmod_eq_emod_of_nonneg hrg.1]
     exact ⟨Int.emod_nonneg _ (by omega), Int.emod_lt_of_pos _ (by omega)⟩
    have hw1 : IntKind.u64.wrap ((x.data.size : Int) - x.kept.size + 1) = (x.data.size : Int) - x.kept.size + 1 := by rw [IntKind.wrap_u64]; omega
    have hcut : xE pk x = x.data.extract 0 ((x.kept.size : Int) + k).toNat := by
     unfold xE
     rw [if_neg (by rw [han]; decide), hk]
    rw [hcut]
    refine yC rfl ?_
    refine zE ?_; refine zJ (fun K hK => ?_); simp (disch := omega) only [push_cast, ↓Int.cast_ofNat_Int, simprocAttr, hw1, hk]
    refine ⟨by omega, hK _ ?_⟩
    clear hK K
    refine zA ?_; refine zJ (fun K hK => ?_); simp (disch := omega) only [push_cast, ↓Int.cast_ofNat_Int, simprocAttr]
    (repeat refine ⟨by first | omega | decide | ((repeat' apply And.intro) <;> first | omega | decide), ?_⟩)
    refine hK _ ?_; clear hK K
    refine rD ?_
    exact ⟨(), by simp only [zZ, zR, zP, zQ, zN, zS, zM, zX, zU, Nat.reduceEqDiff, reduceIte]; try rfl, trivial⟩
  intro S' _ hE _
  refine zE ?_
  refine yB [0, 1, 5, 6, 7] [0, 1, 56] hE ?_
  clear hE
  have c6 := nW e R fr2 nw p (qCc pk x) ⟨hs0, by omega⟩
  have c5 := qAx { e with stamps := e.stamps + 1 } R fr2 nw p { qCc pk x with stamp := e.stamps + 1 } hR (by show e.L.length ≤ _; omega)
  simp only [rst, eF] at c6 c5
  refine zJ (fun K hK => ?_); simp (disch := omega) only [push_cast, ↓Int.cast_ofNat_Int, simprocAttr]; refine hK _ ?_; clear hK K
  refine yB [0, 1, 5, 6, 7] [0, 1, 56] (by simp only [zZ, zR, zP, zQ, zN, zS, zM, zX, zU, Nat.reduceEqDiff, reduceIte]; exact rfl) ?_
  refine zJ (fun K hK => ?_); simp (disch := omega) only [push_cast, ↓Int.cast_ofNat_Int, simprocAttr]
  refine eC 672 [0, 1] zFb (c6) rfl (by decide) (by decide) (by simp only [push_cast, simprocAttr]; try rfl) (by simp only [push_cast, simprocAttr]; try rfl) ?_
  rintro _ _ ⟨rfl, rfl⟩
  refine aM ?_; simp (disch := omega) only [push_cast, ↓Int.cast_ofNat_Int, simprocAttr]
  refine eC 680 [0, 1] qWp (c5) rfl (by decide) (by decide) (by simp only [push_cast, simprocAttr]; try rfl) (by simp only [push_cast, simprocAttr]; try rfl) ?_
  rintro _ _ ⟨rfl, rfl⟩
  refine aM ?_; simp (disch := omega) only [push_cast, ↓Int.cast_ofNat_Int, simprocAttr]
  refine hK _ ?_; clear hK K
  refine zB ?_; refine zA ?_
  refine zJ (fun K hK => ?_); simp (disch := omega) only [push_cast, ↓Int.cast_ofNat_Int, simprocAttr]; refine hK _ ?_; clear hK K
  refine zA ?_
  refine ⟨(j + 1, m + 1, iY e p (qCc pk x), true), ?_, ⟨by show j + 1 ≤ _; omega, hgo, vL _ _ hR, ?_, zC4 hL (qX1 (by rw [← hx]; exact hL p)), by show 0 ≤ m + 1; omega, by show m + 1 ≤ ((j + 1 : Nat) : Int); push_cast; omega, by show 0 ≤ e.stamps + 1; omega, by show e.stamps + 1 ≤ d.stamps + ((j + 1 : Nat) : Int); push_cast; omega⟩, by show ks.length - (j + 1) < ks.length - j; omega⟩
  ·dsimp only
   rw [show (((j + 1 : Nat) : Int)) = (j : Int) + 1 from Int.natCast_succ j]
   rfl
  ·show dC (put p _ e.L) = ks
   rw [zDb hR hje hp.symm, hK1]
end Go.Proofs.YtojolcpblacjjaaGreatDoor
