/-
  The reference's disk: Mkdir, Write, walked.
-/
import Derived.Test.YtojolcpblacjjaaGreatDoorRkE
import Derived.Test.YtojolcpblacjjaaGreatDoorDkD
set_option linter.unusedSimpArgs false
set_option linter.unusedVariables false
set_option maxRecDepth 20000
namespace Go.Dk
open Go Go.Eng Go.Tr
structure ROk (d : Dk) (R : LN) : Prop where
 rise : gW d.L
 len : d.L.length ≤ 4194303
 keys : ∀ e ∈ d.L, e.1.size ≤ 1048576
 tot : tot d.L ≤ 1073741824
 steps : 0 ≤ d.steps ∧ d.steps ≤ 1099511627776
 stamps : 0 ≤ d.stamps ∧ d.stamps ≤ 1099511627776
 armed : -1 ≤ d.armed ∧ d.armed ≤ 9223372036854775807
 look : ∀ v, bC R v = bC d.R v
 nod : (R.map fun e => e.1).Nodup
 rl : R.length ≤ 4194303
theorem dL {st : aN} {d : Dk} {R : LN} {id j : Nat} {fr nw nw2 : Bool} (h : rlk st id = some (.bx nw 35 [.lst fr (dS d.L), .own j, .v (.int .i64 d.steps), .v (.int .i64 d.stamps), .v (.int .i64 d.armed), .v (.bool d.down)])) (h2 : rlk st j = some (.sl nw2 76 2 (rms R))) : Lend st (.ptr id 6 0 0) (dE d R) := by
 refine .box h rfl rfl fun k h3 h4 => ?_
 match k, h3 with
 | 0, _ => exact zHg (qSy _)
 | 1, _ => exact qM6 (qXa _) h2
 | 2, _ => exact .v _
 | 3, _ => exact .v _
 | 4, _ => exact .v _
 | 5, _ => exact .v _
theorem zE9 {p : ByteArray} (h : pOk p 6 = true) : decide (qDu p = 1) = decide (par p = { data := #[] }) := by
 rw [decide_eq_decide, qLb h, qDf]
 have hx : par p = { data := #[] } ↔ qLr p = 0 := by
  have hl := zGe (qV0 h)
  constructor
  ·intro e
   have := congrArg ByteArray.size e
   rw [par, ByteArray.size_extract] at this
   have h0 : ({ data := #[] } : ByteArray).size = 0 := rfl
   omega
  ·intro e
   rw [par, e]
   exact ByteArray.size_eq_zero_iff.1 (by rw [ByteArray.size_extract]; omega)
 rw [hx]
 have cnt : ∀ (l : List UInt8), (l.count 47 = 0 ↔ eB l = none) := by
  intro l
  induction l with
  | nil => simp [eB]
  | cons c r ih =>
   rw [eB]
   by_cases e : c = 47
   ·subst e
    rw [List.count_cons_self]
    cases eB r <;> simp
   ·rw [List.count_cons_of_ne e, ih]
    cases eB r <;> simp [e]
 have first : ∀ (l : List UInt8), eB l = some 0 → ∃ r, l = 47 :: r := by
  intro l hl
  cases l with
  | nil => simp [eB] at hl
  | cons c r =>
   rw [eB] at hl
   cases hr : eB r with
   | some i => rw [hr] at hl; simp at hl
   | none =>
    rw [hr] at hl
    by_cases e : c = 47
    ·exact ⟨r, by rw [e]⟩
    ·simp [e] at hl
 constructor
 ·intro e
  have : p.data.toList.count 47 = 0 := by omega
  unfold qLr
  rw [(cnt _).1 this]; rfl
 ·intro e
  unfold qLr at e
  cases hl : eB p.data.toList with
  | none => rw [(cnt _).2 hl]; rfl
  | some i =>
   rw [hl] at e
   have e : i = 0 := e
   subst e
   obtain ⟨r, hr⟩ := first _ hl
   exfalso
   have hp : parts p = mkB [] :: (jF r).map mkB := by rw [parts, hr, gU]; rfl
   simp only [pOk, hp, Bool.and_eq_true, List.all_cons] at h
   have := h.2.1
   simp [dT, mkB, ByteArray.size] at this
theorem zH7 {d : Dk} {p : ByteArray} {k : Int} (h : may d p k = 0) : pOk p 6 = true := by
 unfold may at h
 cases hp : pOk p 6 with
 | true => rfl
 | false =>
  rw [hp] at h
  cases hd : d.down <;> simp [hd] at h
theorem qCe (d : Dk) (q : ByteArray) : decide (hZ d q = 1) = (aQ d q).dir := by
 rcases gS d q with ⟨a, b⟩ | ⟨a, a2, b⟩ | ⟨a, a2, b⟩
 ·have : aQ d q = itm0 := by
   unfold has at a
   unfold aQ
   cases h : bC d.L q with
   | none => rfl
   | some x => rw [h] at a; cases a
  rw [b, this]; rfl
 ·rw [b, a2]; rfl
 ·rw [b, a2]; rfl
theorem qA0 {d : Dk} {p : ByteArray} {k : Int} (h : may d p k = 0) : qYi d p = fA d p := by
 rw [qYi, fA, zE9 (zH7 h), qCe]
theorem qNc {d : Dk} {p : ByteArray} (h : plc p d.L = none) : aQ d p = itm0 := by rw [aQ, (oF h).1]; rfl
theorem ROk.l4 {d : Dk} {R : LN} (h : ROk d R) : d.L.length ≤ 4194304 := by have := h.len; omega
theorem ROk.t2 {d : Dk} {R : LN} (h : ROk d R) : Dk.tot d.L ≤ 1099511627776 := by have := h.tot; omega
end Go.Dk
namespace Go.Proofs.YtojolcpblacjjaaGreatDoor
open Go Go.Eng Go.RowKit Go.Tr Go.Dk
set_option maxHeartbeats 2000000 in
theorem zCa (d : Dk) (R : LN) (fr nw : Bool) (ok : ROk d R) (p : ByteArray) (hs : p.size ≤ 1048576) : HFunS Tryz.prog 19 [.ptr 0 6 0 0, .v (.string p)] (rst d R fr nw) (fun h st => h = .v (.int .i64 (dV d p).1) ∧ ∃ fr', st = rst (dV d p).2 R fr' nw) := by
 refine kJ (N := 29) Tryz.func19 rfl Tryz.ntmps19 Tryz.results19 (by simp) ?_
 have c1 := rN d R p 0 hs
 have c2 := qQo d R p hs ok.l4
 have c3 := kZ d R p ok.l4
 have c4 := xT d R fr nw ok.armed ok.steps
 have c5 := qAx (aS d).2 R fr nw p qQ2 (by rw [(dH d).1]; exact ok.rise) (by rw [(dH d).1]; exact ok.l4)
 simp only [rst, eF] at c4 c5 ⊢
 refine zE ?_; refine zJ (fun K hK => ?_); simp (disch := omega) only [push_cast, ↓Int.cast_ofNat_Int, simprocAttr]; refine hK _ ?_; clear hK K
 refine zE ?_; refine zJ (fun K hK => ?_); simp (disch := omega) only [push_cast, ↓Int.cast_ofNat_Int, simprocAttr]
 refine cG zBc c1 (.cons (dL rfl rfl) (.cons (.v _) (.cons (.v _) .nil))) ?_
 with_reducible refine aM ?_; simp (disch := omega) only [push_cast, ↓Int.cast_ofNat_Int, simprocAttr]
 refine hK _ ?_; clear hK K
 refine zE ?_; refine zE ?_; refine zJ (fun K hK => ?_); simp (disch := omega) only [push_cast, ↓Int.cast_ofNat_Int, simprocAttr]; refine hK _ ?_; clear hK K
 refine zA ?_
 rcases (Decidable.em (may d p 0 = 0)).symm with h0 | h0
 ·have hr : dV d p = (may d p 0, d) := by simp [dV, h0]
  rw [hr]
  refine bE rfl (fun _ => ?_) (fun h => by simp [h0] at h)
  refine zE ?_; refine zJ (fun K hK => ?_); simp (disch := omega) only [push_cast, ↓Int.cast_ofNat_Int, simprocAttr]; refine hK _ ?_; clear hK K
  refine zA ?_; refine zW ?_; refine zK ?_
  simp only [aK, aR, yH, yE, yK, yJ, aG, zS, zM, Nat.reduceEqDiff, reduceIte, reduceCtorEq]
  refine cJ [0, 1] (by decide) (by decide) (by simp only [push_cast, simprocAttr]) (by simp only [push_cast, simprocAttr]) (by simp only [push_cast, simprocAttr]; rfl) (by simp only [push_cast, simprocAttr]; rfl) ?_
  exact ⟨rfl, fr, rfl⟩
 refine bE rfl (fun h => by simp [h0] at h) (fun _ => ?_)
 rw [qA0 h0] at c2
 refine zC ?_; refine zE ?_; refine zE ?_; refine zJ (fun K hK => ?_); simp (disch := omega) only [push_cast, ↓Int.cast_ofNat_Int, simprocAttr]
 refine cG zJn c2 (.cons (dL rfl rfl) (.cons (.v _) .nil)) ?_
 with_reducible refine aM ?_; simp (disch := omega) only [push_cast, ↓Int.cast_ofNat_Int, simprocAttr]
 refine hK _ ?_; clear hK K
 refine zA ?_
 rcases (Decidable.em (fA d p = true)).symm with h1 | h1
 ·have hr : dV d p = (11, d) := by simp [dV, h0, h1]
  rw [hr]
  refine bE rfl (fun _ => ?_) (fun h => by simp [h1] at h)
  refine zE ?_; refine zJ (fun K hK => ?_); simp (disch := omega) only [push_cast, ↓Int.cast_ofNat_Int, simprocAttr]; refine hK _ ?_; clear hK K
  refine zA ?_; refine zW ?_; refine zK ?_
  simp only [aK, aR, yH, yE, yK, yJ, aG, zS, zM, Nat.reduceEqDiff, reduceIte, reduceCtorEq]
  refine cJ [0, 1] (by decide) (by decide) (by simp only [push_cast, simprocAttr]) (by simp only [push_cast, simprocAttr]) (by simp only [push_cast, simprocAttr]; rfl) (by simp only [push_cast, simprocAttr]; rfl) ?_
  exact ⟨rfl, fr, rfl⟩
 refine bE rfl (fun h => by simp [h1] at h) (fun _ => ?_)
 refine zC ?_; refine zE ?_; refine zE ?_; refine zJ (fun K hK => ?_); simp (disch := omega) only [push_cast, ↓Int.cast_ofNat_Int, simprocAttr]
 refine cG mU c3 (.cons (dL rfl rfl) (.cons (.v _) .nil)) ?_
 with_reducible refine aM ?_; simp (disch := omega) only [push_cast, ↓Int.cast_ofNat_Int, simprocAttr]
 refine hK _ ?_; clear hK K
 refine zA ?_
 by_cases h2 : hZ d p = 2
 ·have hr : dV d p = (12, d) := by
   rcases gS d p with ⟨a, b⟩ | ⟨a, a2, b⟩ | ⟨a, a2, b⟩
   ·omega
   ·omega
   ·simp [dV, h0, h1, a, a2]
  rw [hr]
  refine bE rfl (fun _ => ?_) (fun h => by simp [h2] at h)
  refine zE ?_; refine zJ (fun K hK => ?_); simp (disch := omega) only [push_cast, ↓Int.cast_ofNat_Int, simprocAttr]; refine hK _ ?_; clear hK K
  refine zA ?_; refine zW ?_; refine zK ?_
  simp only [aK, aR, yH, yE, yK, yJ, aG, zS, zM, Nat.reduceEqDiff, reduceIte, reduceCtorEq]
  refine cJ [0, 1] (by decide) (by decide) (by simp only [push_cast, simprocAttr]) (by simp only [push_cast, simprocAttr]) (by simp only [push_cast, simprocAttr]; rfl) (by simp only [push_cast, simprocAttr]; rfl) ?_
  exact ⟨rfl, fr, rfl⟩
 refine bE rfl (fun h => by simp [h2] at h) (fun _ => ?_)
 have h3 : ¬ (has d p = true ∧ (aQ d p).dir = false) := by
  rcases gS d p with ⟨a, b⟩ | ⟨a, a2, b⟩ | ⟨a, a2, b⟩
  ·simp [a]
  ·simp [a2]
  ·omega
 refine yB [0, 1] [0, 1] (by simp only [zZ, zR, zP, zQ, zN, zS, zM, zX, zU, Nat.reduceEqDiff, reduceIte]; exact rfl) ?_
 refine zC ?_; refine zE ?_; refine zJ (fun K hK => ?_); simp (disch := omega) only [push_cast, ↓Int.cast_ofNat_Int, simprocAttr]
 refine eC 168 [0, 1] zBb (c4) rfl (by decide) (by decide) (by simp only [push_cast, simprocAttr]; try rfl) (by simp only [push_cast, simprocAttr]; try rfl) ?_
 rintro _ _ ⟨rfl, rfl⟩
 refine aM ?_; simp (disch := omega) only [push_cast, ↓Int.cast_ofNat_Int, simprocAttr]
 refine hK _ ?_; clear hK K
 refine zE ?_; refine zE ?_; refine zJ (fun K hK => ?_); simp (disch := omega) only [push_cast, ↓Int.cast_ofNat_Int, simprocAttr]; refine hK _ ?_; clear hK K
 refine zA ?_
 rcases (fB d).symm with ⟨h4, h5⟩ | ⟨h4, h5⟩
 ·have hr : dV d p = aS d := by simp [dV, h0, h1, h3, h4]
  rw [hr, h4]
  refine yC rfl ?_
  refine zC ?_; refine zE ?_
  refine zJ (fun K hK => ?_); simp (disch := omega) only [push_cast, ↓Int.cast_ofNat_Int, simprocAttr]; refine hK _ ?_; clear hK K
  refine zA ?_; refine zW ?_
  simp only [aK, aR, yH, yE, yK, yJ, aG, zS, zM, Nat.reduceEqDiff, reduceIte, reduceCtorEq]
  refine cJ [0, 1] (by decide) (by decide) (by simp only [push_cast, simprocAttr]) (by simp only [push_cast, simprocAttr]) (by simp only [push_cast, simprocAttr]; rfl) (by simp only [push_cast, simprocAttr]; rfl) ?_
  exact ⟨rfl, fr, rfl⟩
 have hr : dV d p = (0, { (aS d).2 with L := put p qQ2 d.L, n := d.n + 1 }) := by simp [dV, h0, h1, h3, h4]
 rw [hr, h4]
 refine yD rfl ?_
 refine zJ (fun K hK => ?_); simp (disch := omega) only [push_cast, ↓Int.cast_ofNat_Int, simprocAttr]
 refine eC 216 [0, 1] qWp (c5) rfl (by decide) (by decide) (by simp only [push_cast, simprocAttr]; try rfl) (by simp only [push_cast, simprocAttr]; try rfl) ?_
 rintro _ _ ⟨rfl, rfl⟩
 refine aM ?_; simp (disch := omega) only [push_cast, ↓Int.cast_ofNat_Int, simprocAttr]
 refine hK _ ?_; clear hK K
 refine zE ?_; refine zJ (fun K hK => ?_); simp (disch := omega) only [push_cast, ↓Int.cast_ofNat_Int, simprocAttr]; refine hK _ ?_; clear hK K
 refine zA ?_; refine zW ?_
 simp only [aK, aR, yH, yE, yK, yJ, aG, zS, zM, Nat.reduceEqDiff, reduceIte, reduceCtorEq]
 refine cJ [0, 1] (by decide) (by decide) (by simp only [push_cast, simprocAttr]) (by simp only [push_cast, simprocAttr]) (by simp only [push_cast, simprocAttr]; rfl) (by simp only [push_cast, simprocAttr]; rfl) ?_
 refine ⟨rfl, true, ?_⟩
 rw [(dH d).1]
set_option maxHeartbeats 4000000 in
theorem zB5 (d : Dk) (R : LN) (fr nw : Bool) (ok : ROk d R) (p s : ByteArray) (hs : p.size ≤ 1048576) (hz : s.size ≤ 1048576) : HFunS Tryz.prog 20 [.ptr 0 6 0 0, .v (.string p), .v (.string s)] (rst d R fr nw) (fun h st => h = .v (.int .i64 (dN d p s).1) ∧ ∃ fr', st = rst (dN d p s).2 R fr' nw) := by
 refine kJ (N := 62) Tryz.func20 rfl Tryz.ntmps20 Tryz.results20 (by simp) ?_
 have c1 := rN d R p 1 hs
 have c2 := qQo d R p hs ok.l4
 have c3 := kZ d R p ok.l4
 have cp := jW d R p ok.l4
 have hib := jM d p
 have htb := ok.tot
 have cf := qQp d R p ((s.size : Int) - (aQ d p).data.size) hs ok.l4 ok.keys ok.t2 ok.look ok.nod (by have := ok.rl; omega) (by omega)
 have c4 := xT d R fr nw ok.armed ok.steps
 have c6 := nW (aS d).2 R fr nw p { aQ d p with data := s, loose := true, anew := true } (by rw [(dH d).2.2.2.2]; exact ok.stamps)
 have c5 := qAx { (aS d).2 with stamps := (aS d).2.stamps + 1 } R fr nw p { aQ d p with data := s, loose := true, anew := true, stamp := (aS d).2.stamps + 1 } (by show gW (aS d).2.L; rw [(dH d).1]; exact ok.rise) (by show (aS d).2.L.length ≤ _; rw [(dH d).1]; exact ok.l4)
 simp only [rst, eF] at c4 c5 c6 ⊢
 refine zE ?_; refine zJ (fun K hK => ?_); simp (disch := omega) only [push_cast, ↓Int.cast_ofNat_Int, simprocAttr]; refine hK _ ?_; clear hK K
 refine zE ?_; refine zJ (fun K hK => ?_); simp (disch := omega) only [push_cast, ↓Int.cast_ofNat_Int, simprocAttr]
 refine cG zBc c1 (.cons (dL rfl rfl) (.cons (.v _) (.cons (.v _) .nil))) ?_
 with_reducible refine aM ?_; simp (disch := omega) only [push_cast, ↓Int.cast_ofNat_Int, simprocAttr]
 refine hK _ ?_; clear hK K
 refine zE ?_; refine zE ?_; refine zJ (fun K hK => ?_); simp (disch := omega) only [push_cast, ↓Int.cast_ofNat_Int, simprocAttr]; refine hK _ ?_; clear hK K
 refine zA ?_
 rcases (Decidable.em (may d p 1 = 0)).symm with h0 | h0
 ·have hr : dN d p s = (may d p 1, d) := by simp [dN, h0]
  rw [hr]
  refine bE rfl (fun _ => ?_) (fun h => by simp [h0] at h)
  refine zE ?_; refine zJ (fun K hK => ?_); simp (disch := omega) only [push_cast, ↓Int.cast_ofNat_Int, simprocAttr]; refine hK _ ?_; clear hK K
  refine zA ?_; refine zW ?_; refine zK ?_
  simp only [aK, aR, yH, yE, yK, yJ, aG, zS, zM, Nat.reduceEqDiff, reduceIte, reduceCtorEq]
  refine cJ [0, 1] (by decide) (by decide) (by simp only [push_cast, simprocAttr]) (by simp only [push_cast, simprocAttr]) (by simp only [push_cast, simprocAttr]; rfl) (by simp only [push_cast, simprocAttr]; rfl) ?_
  exact ⟨rfl, fr, rfl⟩
 refine bE rfl (fun h => by simp [h0] at h) (fun _ => ?_)
 rw [qA0 h0] at c2
 refine zC ?_; refine zE ?_; refine zE ?_; refine zJ (fun K hK => ?_); simp (disch := omega) only [push_cast, ↓Int.cast_ofNat_Int, simprocAttr]
 refine cG zJn c2 (.cons (dL rfl rfl) (.cons (.v _) .nil)) ?_
 with_reducible refine aM ?_; simp (disch := omega) only [push_cast, ↓Int.cast_ofNat_Int, simprocAttr]
 refine hK _ ?_; clear hK K
 refine zA ?_
 rcases (Decidable.em (fA d p = true)).symm with h1 | h1
 ·have hr : dN d p s = (11, d) := by simp [dN, h0, h1]
  rw [hr]
  refine bE rfl (fun _ => ?_) (fun h => by simp [h1] at h)
  refine zE ?_; refine zJ (fun K hK => ?_); simp (disch := omega) only [push_cast, ↓Int.cast_ofNat_Int, simprocAttr]; refine hK _ ?_; clear hK K
  refine zA ?_; refine zW ?_; refine zK ?_
  simp only [aK, aR, yH, yE, yK, yJ, aG, zS, zM, Nat.reduceEqDiff, reduceIte, reduceCtorEq]
  refine cJ [0, 1] (by decide) (by decide) (by simp only [push_cast, simprocAttr]) (by simp only [push_cast, simprocAttr]) (by simp only [push_cast, simprocAttr]; rfl) (by simp only [push_cast, simprocAttr]; rfl) ?_
  exact ⟨rfl, fr, rfl⟩
 refine bE rfl (fun h => by simp [h1] at h) (fun _ => ?_)
 have hkd := qCe d p
 refine zC ?_; refine zE ?_; refine zE ?_; refine zJ (fun K hK => ?_); simp (disch := omega) only [push_cast, ↓Int.cast_ofNat_Int, simprocAttr]
 refine cG mU c3 (.cons (dL rfl rfl) (.cons (.v _) .nil)) ?_
 with_reducible refine aM ?_; simp (disch := omega) only [push_cast, ↓Int.cast_ofNat_Int, simprocAttr]
 refine hK _ ?_; clear hK K
 refine zA ?_
 by_cases h2 : (aQ d p).dir = true
 ·have hr : dN d p s = (12, d) := by simp [dN, h0, h1, h2]
  have h2' : hZ d p = 1 := of_decide_eq_true (hkd.trans h2)
  rw [hr]
  refine bE rfl (fun _ => ?_) (fun h => by simp [h2'] at h)
  refine zE ?_; refine zJ (fun K hK => ?_); simp (disch := omega) only [push_cast, ↓Int.cast_ofNat_Int, simprocAttr]; refine hK _ ?_; clear hK K
  refine zA ?_; refine zW ?_; refine zK ?_
  simp only [aK, aR, yH, yE, yK, yJ, aG, zS, zM, Nat.reduceEqDiff, reduceIte, reduceCtorEq]
  refine cJ [0, 1] (by decide) (by decide) (by simp only [push_cast, simprocAttr]) (by simp only [push_cast, simprocAttr]) (by simp only [push_cast, simprocAttr]; rfl) (by simp only [push_cast, simprocAttr]; rfl) ?_
  exact ⟨rfl, fr, rfl⟩
 have h2' : ¬ hZ d p = 1 := fun e => h2 (hkd.symm.trans (decide_eq_true e))
 refine bE rfl (fun h => by simp [h2'] at h) (fun _ => ?_)
 refine yB [0, 1, 2] [0, 1] (by simp only [zZ, zR, zP, zQ, zN, zS, zM, zX, zU, Nat.reduceEqDiff, reduceIte]; exact rfl) ?_
 refine zC ?_; refine zE ?_; refine zJ (fun K hK => ?_); simp (disch := omega) only [push_cast, ↓Int.cast_ofNat_Int, simprocAttr]; refine hK _ ?_; clear hK K
 refine yB [0, 1, 2, 8] [0, 1, 64] (by simp only [zZ, zR, zP, zQ, zN, zS, zM, zX, zU, Nat.reduceEqDiff, reduceIte]; exact rfl) ?_
 refine zE ?_; refine zE ?_; refine zJ (fun K hK => ?_); simp (disch := omega) only [push_cast, ↓Int.cast_ofNat_Int, simprocAttr]
 refine cG mU c3 (.cons (dL rfl rfl) (.cons (.v _) .nil)) ?_
 with_reducible refine aM ?_; simp (disch := omega) only [push_cast, ↓Int.cast_ofNat_Int, simprocAttr]
 refine hK _ ?_; clear hK K
 refine zA ?_
 refine lF (fun _ : Unit => ⟨[(0, .ptr 0 6 0 0), (1, .v (.string p)), (2, .v (.string s)), (8, .ptr 64 7 0 0)], [(0, .bx false 35 [.lst fr (dS d.L), .own 1, .v (.int .i64 d.steps), .v (.int .i64 d.stamps), .v (.int .i64 d.armed), .v (.bool d.down)]), (1, .sl nw 76 2 (rms R)), (64, .bx true 37 [.v (.string p), .v (.bool (aQ d p).dir), .v (.string (aQ d p).data), .v (.string (aQ d p).kept), .v (.bool (aQ d p).loose), .v (.bool (aQ d p).anew), .v (.int .i64 (aQ d p).stamp)])]⟩) (fun _ => True) [0, 1, 2, 8] [0, 1, 64] ?_ ?_
 ·cases hp : plc p d.L with
  | none =>
   have hk0 : ¬ hZ d p = 2 := by rw [wC hp]; decide
   refine bE rfl (fun h => by simp [hk0] at h) (fun _ => ?_)
   rw [qNc hp]
   refine zC ?_
   exact ⟨(), by simp only [zZ, zR, zP, zQ, zN, zS, zM, zX, zU, Nat.reduceEqDiff, reduceIte]; try rfl, trivial⟩
  | some i =>
   obtain ⟨hi, e1, e3, e4, e5⟩ := mN hp
   have hdf : (aQ d p).dir = false := by simpa using h2
   have hk2 : hZ d p = 2 := by rw [e5, ← e3, hdf]; rfl
   refine bE rfl (fun _ => ?_) (fun h => by simp [hk2] at h)
   rw [fR hp] at cp
   rw [e3]
   refine iD 9 mixed (by kernel_rfl) (fun K hK => ?_); simp (disch := omega) only [push_cast, ↓Int.cast_ofNat_Int, simprocAttr, bD, bQ, bV hi]
   refine gK qLv cp (.cons (dL rfl rfl) (.cons (.v _) .nil)) ?_
   with_reducible refine aM ?_; simp (disch := omega) only [push_cast, ↓Int.cast_ofNat_Int, simprocAttr, bD, bQ, bV hi]
   with_reducible refine aM ?_; simp (disch := omega) only [push_cast, ↓Int.cast_ofNat_Int, simprocAttr]
   refine hK _ ?_; clear hK K
   skip
   exact ⟨(), by simp only [zZ, zR, zP, zQ, zN, zS, zM, zX, zU, Nat.reduceEqDiff, reduceIte]; rw [e1], trivial⟩
 intro S' _ hE _
 refine zE ?_; refine zE ?_
 refine yB [0, 1, 2, 8] [0, 1, 64] hE ?_
 clear hE
 refine zJ (fun K hK => ?_); simp (disch := omega) only [push_cast, ↓Int.cast_ofNat_Int, simprocAttr]
 refine cG zJm cf (.cons (dL rfl rfl) (.cons (.v _) (.cons (.v _) .nil))) ?_
 with_reducible refine aM ?_; simp (disch := omega) only [push_cast, ↓Int.cast_ofNat_Int, simprocAttr]
 refine hK _ ?_; clear hK K
 refine zA ?_
 rcases (Decidable.em (iZ d p ((s.size : Int) - (aQ d p).data.size) = true)).symm with h3 | h3
 ·have hr : dN d p s = (13, d) := by simp [dN, h0, h1, h2, h3]
  rw [hr]
  refine bE rfl (fun _ => ?_) (fun h => by simp [h3] at h)
  refine zE ?_; refine zJ (fun K hK => ?_); simp (disch := omega) only [push_cast, ↓Int.cast_ofNat_Int, simprocAttr]; refine hK _ ?_; clear hK K
  refine zA ?_; refine zW ?_; refine zK ?_
  simp only [aK, aR, yH, yE, yK, yJ, aG, zS, zM, Nat.reduceEqDiff, reduceIte, reduceCtorEq]
  refine cJ [0, 1] (by decide) (by decide) (by simp only [push_cast, simprocAttr]) (by simp only [push_cast, simprocAttr]) (by simp only [push_cast, simprocAttr]; rfl) (by simp only [push_cast, simprocAttr]; rfl) ?_
  exact ⟨rfl, fr, rfl⟩
 refine bE rfl (fun h => by simp [h3] at h) (fun _ => ?_)
 refine yB [0, 2, 8] [0, 1, 64] (by simp only [zZ, zR, zP, zQ, zN, zS, zM, zX, zU, Nat.reduceEqDiff, reduceIte]; exact rfl) ?_
 refine zC ?_; refine zE ?_; refine zJ (fun K hK => ?_); simp (disch := omega) only [push_cast, ↓Int.cast_ofNat_Int, simprocAttr]
 refine eC 392 [0, 1] zBb (c4) rfl (by decide) (by decide) (by simp only [push_cast, simprocAttr]; try rfl) (by simp only [push_cast, simprocAttr]; try rfl) ?_
 rintro _ _ ⟨rfl, rfl⟩
 refine aM ?_; simp (disch := omega) only [push_cast, ↓Int.cast_ofNat_Int, simprocAttr]
 refine hK _ ?_; clear hK K
 refine zE ?_; refine zE ?_; refine zJ (fun K hK => ?_); simp (disch := omega) only [push_cast, ↓Int.cast_ofNat_Int, simprocAttr]; refine hK _ ?_; clear hK K
 refine zA ?_
 rcases (fB d).symm with ⟨h4, h5⟩ | ⟨h4, h5⟩
 ·have hr : dN d p s = aS d := by simp [dN, h0, h1, h2, h3, h4]
  rw [hr, h4]
  refine yC rfl ?_
  refine zC ?_; refine zE ?_
  refine zJ (fun K hK => ?_); simp (disch := omega) only [push_cast, ↓Int.cast_ofNat_Int, simprocAttr]; refine hK _ ?_; clear hK K
  refine zA ?_; refine zW ?_
  simp only [aK, aR, yH, yE, yK, yJ, aG, zS, zM, Nat.reduceEqDiff, reduceIte, reduceCtorEq]
  refine cJ [0, 1] (by decide) (by decide) (by simp only [push_cast, simprocAttr]) (by simp only [push_cast, simprocAttr]) (by simp only [push_cast, simprocAttr]; rfl) (by simp only [push_cast, simprocAttr]; rfl) ?_
  exact ⟨rfl, fr, rfl⟩
 have hr : dN d p s = (0, iY (aS d).2 p { aQ d p with data := s, loose := true, anew := true }) := by simp [dN, h0, h1, h2, h3, h4]
 rw [hr, h4]
 refine yD rfl ?_
 refine zE ?_; refine zJ (fun K hK => ?_); simp (disch := omega) only [push_cast, ↓Int.cast_ofNat_Int, simprocAttr]; refine hK _ ?_; clear hK K
 refine yB [0, 7, 8] [0, 1, 64] (by simp only [zZ, zR, zP, zQ, zN, zS, zM, zX, zU, Nat.reduceEqDiff, reduceIte]; exact rfl) ?_
 refine zJ (fun K hK => ?_); simp (disch := omega) only [push_cast, ↓Int.cast_ofNat_Int, simprocAttr]
 refine eC 472 [0, 1] zFb (c6) rfl (by decide) (by decide) (by simp only [push_cast, simprocAttr]; try rfl) (by simp only [push_cast, simprocAttr]; try rfl) ?_
 rintro _ _ ⟨rfl, rfl⟩
 refine aM ?_; simp (disch := omega) only [push_cast, ↓Int.cast_ofNat_Int, simprocAttr]
 refine eC 480 [0, 1] qWp (c5) rfl (by decide) (by decide) (by simp only [push_cast, simprocAttr]; try rfl) (by simp only [push_cast, simprocAttr]; try rfl) ?_
 rintro _ _ ⟨rfl, rfl⟩
 refine aM ?_; simp (disch := omega) only [push_cast, ↓Int.cast_ofNat_Int, simprocAttr]
 refine hK _ ?_; clear hK K
 refine zE ?_; refine zJ (fun K hK => ?_); simp (disch := omega) only [push_cast, ↓Int.cast_ofNat_Int, simprocAttr]; refine hK _ ?_; clear hK K
 refine zA ?_; refine zW ?_
 simp only [aK, aR, yH, yE, yK, yJ, aG, zS, zM, Nat.reduceEqDiff, reduceIte, reduceCtorEq]
 refine cJ [0, 1] (by decide) (by decide) (by simp only [push_cast, simprocAttr]) (by simp only [push_cast, simprocAttr]) (by simp only [push_cast, simprocAttr]; rfl) (by simp only [push_cast, simprocAttr]; rfl) ?_
 exact ⟨rfl, true, rfl⟩
end Go.Proofs.YtojolcpblacjjaaGreatDoor
