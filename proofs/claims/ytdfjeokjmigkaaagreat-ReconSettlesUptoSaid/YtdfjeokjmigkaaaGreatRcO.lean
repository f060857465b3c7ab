/-
  ReconLocal: what is said below one name hangs on what the three trees have mY.
-/
import Derived.Test.YtdfjeokjmigkaaaGreatSl
import Derived.Test.YtdfjeokjmigkaaaGreatOne
import Derived.Test.YtdfjeokjmigkaaaGreatRcL
import Derived.Test.YtdfjeokjmigkaaaGreatApe
section
set_option linter.unusedSimpArgs false
set_option linter.unusedVariables false
set_option maxRecDepth 20000
namespace Go.Proofs.YtdfjeokjmigkaaaGreat
open Go Go.Eng Go.RowKit Go.Tr
set_option maxHeartbeats 4000000 in
theorem qFl (t : List Ent) (p : ByteArray) (hl : t.length ≤ 1048576) (hs : ∀ e ∈ t, e.1.size ≤ 1048576) (hp : p.size ≤ 1048576) : HFun Tryz.prog 23 [.lst false (aS t), .v (.string p)] (fun h st => h = .own 0 ∧ st = [(0, rowE (t.filter fun e => bR e.1 p))]) := by
 refine eM (N := 28) Tryz.func23 rfl Tryz.ntmps23 Tryz.results23 (by simp) ?_
 refine zE ?_; refine zJ (fun K hK => ?_); simp (disch := omega) only [push_cast, ↓Int.cast_ofNat_Int, simprocAttr]; refine hK _ ?_; clear hK K
 refine zE ?_; refine zJ (fun K hK => ?_); simp (disch := omega) only [push_cast, ↓Int.cast_ofNat_Int, simprocAttr]; refine hK _ ?_; clear hK K
 refine zE ?_; refine zE ?_; refine zJ (fun K hK => ?_); simp (disch := omega) only [push_cast, ↓Int.cast_ofNat_Int, simprocAttr]; refine hK _ ?_; clear hK K
 refine zA ?_; refine zD ?_
 refine qQq 5 9000 50 3 rfl (by simp only [qHc, qPb, qPd, nZ, lR, nC, lL, xS, nT, qCh, nR, nQ, rD, nU, nP, lQ, qV, qX, qW, wT, qEm, qCg, Nat.reduceBEq, Nat.reduceEqDiff, reduceIte, cond_true, cond_false, List.map_cons, List.map_nil]; exact rfl) ?_
 refine cQ (fun x : Nat × List Ent => ⟨[(0, .lst false (aS t)), (1, .v (.string p)), (5, .own 9000), (6, .v (.int .i64 x.1))], [(9000, rowE x.2)]⟩) (fun x => x.1 ≤ t.length ∧ x.2 = (t.take x.1).filter fun e => bR e.1 p) (fun x => t.length - x.1) [0, 1, 5, 6] [9000] (0, []) (by simp only [zZ, zR, zP, zQ, zN, zS, zM, zX, zU, Nat.reduceEqDiff, reduceIte]; rfl) ⟨Nat.zero_le _, rfl⟩ ?_
 rintro ⟨i, out⟩ ⟨hi, ho⟩
 simp only at hi ho
 by_cases hlt : i < t.length
 ·have hsz := hs _ (List.getElem_mem hlt)
  have hol : out.length ≤ i := by
   rw [ho]
   refine Nat.le_trans (List.length_filter_le ..) ?_
   rw [List.length_take]; omega
  have cu := qJa t[i].1 p hsz hp
  refine zE ?_; refine zE ?_; refine zJ (fun K hK => ?_); simp (disch := omega) only [push_cast, ↓Int.cast_ofNat_Int, simprocAttr, yV]; refine hK _ ?_; clear hK K
  refine zA ?_
  refine yD rfl ?_
  refine zC ?_; refine zE ?_
  refine zD ?_; refine zE ?_; refine zJ (fun K hK => ?_); simp (disch := omega) only [push_cast, ↓Int.cast_ofNat_Int, simprocAttr, yV, yU, yW hlt]
  refine aY zM6 cu (.cons (.v _) (.cons (.v _) .nil)) ?_
  with_reducible refine aC ?_; simp (disch := omega) only [push_cast, ↓Int.cast_ofNat_Int, simprocAttr]
  refine hK _ ?_; clear hK K
  cases hu : bR t[i].1 p with
  | true =>
   have e2 : aS out ++ [[FV.v (.string t[i].1), .v (.int .i64 t[i].2.1), .v (.string t[i].2.2)]] = aS (out ++ [t[i]]) := qMw out _ _ _
   refine yD rfl ?_
   refine zJ (fun K hK => ?_); simp (disch := omega) only [push_cast, ↓Int.cast_ofNat_Int, simprocAttr, yV, yU, yW hlt, e2]; (repeat refine ⟨by first | omega | decide | ((repeat' apply And.intro) <;> first | omega | decide), ?_⟩); refine hK _ ?_; clear hK K
   refine zB ?_; refine zA ?_
   refine zJ (fun K hK => ?_); simp (disch := omega) only [push_cast, ↓Int.cast_ofNat_Int, simprocAttr]; refine hK _ ?_; clear hK K
   refine zA ?_
   refine ⟨(i + 1, out ++ [t[i]]), by simp only [zZ, zR, zP, zQ, zN, zS, zM, zX, zU, Nat.reduceEqDiff, reduceIte]; try rfl, ⟨hlt, ?_⟩, by dsimp only; omega⟩
   dsimp only
   rw [List.take_succ_eq_append_getElem hlt, List.filter_append, ← ho]; simp [hu]
  | false =>
   refine yC rfl ?_
   refine zC ?_; refine zB ?_; refine zA ?_
   refine zJ (fun K hK => ?_); simp (disch := omega) only [push_cast, ↓Int.cast_ofNat_Int, simprocAttr]; refine hK _ ?_; clear hK K
   refine zA ?_
   refine ⟨(i + 1, out), by simp only [zZ, zR, zP, zQ, zN, zS, zM, zX, zU, Nat.reduceEqDiff, reduceIte]; try rfl, ⟨hlt, ?_⟩, by dsimp only; omega⟩
   dsimp only
   rw [List.take_succ_eq_append_getElem hlt, List.filter_append, ← ho]; simp [hu]
 ·have hne : i = t.length := by omega
  subst hne
  rw [List.take_length] at ho
  rw [ho]
  refine zE ?_; refine zE ?_; refine zJ (fun K hK => ?_); simp (disch := omega) only [push_cast, ↓Int.cast_ofNat_Int, simprocAttr, yV]; refine hK _ ?_; clear hK K
  refine zA ?_
  refine yC rfl ?_
  refine zT ?_; refine zG ?_; refine zG ?_; refine zH ?_; refine zE ?_
  refine zJ (fun K hK => ?_); simp (disch := omega) only [push_cast, ↓Int.cast_ofNat_Int, simprocAttr]; refine hK _ ?_; clear hK K
  refine zA ?_; refine zW ?_
  simp only [yA, yM, yH, yE, aA, aD, yK, yJ, zS, zM, Nat.reduceEqDiff, reduceIte, reduceCtorEq]
  exact xQ rfl (qKi _) ⟨rfl, rfl⟩
end Go.Proofs.YtdfjeokjmigkaaaGreat
end
section
set_option linter.unusedSimpArgs false
set_option linter.unusedVariables false
set_option maxRecDepth 20000
namespace Go.Rc
open Go Go.Eng Go.RowKit Go.Tr Go.Dk
theorem qA6 : ∀ (l : List UInt8), ∃ r, iE l = l.take (mZ l) :: r := by
 intro l
 induction l with
 | nil => exact ⟨[], rfl⟩
 | cons c r ih =>
  obtain ⟨q, hq⟩ := ih
  by_cases hc : c = 47
  ·subst hc; exact ⟨iE r, by simp [iE, mZ]⟩
  ·exact ⟨q, by simp [iE, mZ, hc, hq]⟩
theorem qHs {p : ByteArray} {d : Int} (h : pOk p d = true) : iT (vol p) = true := by
 obtain ⟨r, hr⟩ := qA6 p.data.toList
 have hp : parts p = vol p :: r.map mkB := by
  rw [parts, hr, List.map_cons]
  congr 1
  exact iN (by rw [qDr]; rfl)
 unfold pOk at h
 rw [hp, List.all_cons] at h
 simp only [Bool.and_eq_true] at h
 exact h.2.1
theorem nK {p : ByteArray} {d : Int} (h : pOk p d = true) : ∀ r, p.data.toList ≠ 47 :: r := by
 intro r hr
 have h1 := qHs h
 have h2 : (vol p).size = 0 := by rw [Lib.size_eq, qDr, hr]; simp [mZ]
 unfold iT at h1
 rw [h2] at h1
 simp at h1
theorem zF0 {p : ByteArray} (h : pOk p 1 = true) : ∀ c ∈ p.data.toList, c ≠ 47 := by
 have h1 : (parts p).length ≤ 1 := by
  unfold pOk at h
  simp only [Bool.and_eq_true, decide_eq_true_eq] at h
  omega
 have h2 : ∀ l : List UInt8, (iE l).length ≤ 1 → ∀ c ∈ l, c ≠ 47 := by
  intro l
  induction l with
  | nil => intro _ c hc; cases hc
  | cons x r ih =>
   intro hl c hc
   have hne := qE7 r
   by_cases hx : x = 47
   ·subst hx
    have : (iE ((47 : UInt8) :: r)).length = (iE r).length + 1 := by simp [iE]
    have h0 : 0 < (iE r).length := List.length_pos_iff.2 hne
    omega
   ·obtain ⟨q, hq⟩ := qA6 r
    have e : (iE (x :: r)).length = (iE r).length := by simp [iE, hx, hq]
    rcases List.mem_cons.1 hc with rfl | hc
    ·exact hx
    ·exact ih (by omega) c hc
 rw [parts, List.length_map] at h1
 exact h2 _ h1
theorem TB.sub {t : List Ent} (h : TB t) (p : ByteArray) : TB (cP t p) :=
 ⟨List.Pairwise.filter _ h.rise, Nat.le_trans (List.length_filter_le ..) h.len, fun e he => h.sz e (List.mem_filter.1 he).1, fun e he => h.dat e (List.mem_filter.1 he).1⟩
end Go.Rc
namespace Go.Proofs.YtdfjeokjmigkaaaGreat
open Go Go.Eng Go.RowKit Go.Tr Go.Dk Go.Rc
set_option maxHeartbeats 1000000 in
theorem zE9 (L : LN) (hl : L.length ≤ 1000000) : HFun Tryz.prog 14 [.lst false (itl L), .lst false (itl L)] (fun h st => h = .v (.bool true)) := by
 refine eM (N := 26) Tryz.func14 rfl Tryz.ntmps14 Tryz.results14 (by simp) ?_
 refine zE ?_; refine zJ (fun K hK => ?_); simp (disch := omega) only [push_cast, ↓Int.cast_ofNat_Int, simprocAttr]; refine hK _ ?_; clear hK K
 refine zE ?_; refine zE ?_; refine zJ (fun K hK => ?_); simp (disch := omega) only [push_cast, ↓Int.cast_ofNat_Int, simprocAttr, dJ]; refine hK _ ?_; clear hK K
 refine zA ?_
 refine eD rfl (fun ht => by simp at ht) (fun _ => ?_)
 refine zC ?_; refine zE ?_; refine zE ?_
 refine zJ (fun K hK => ?_); simp (disch := omega) only [push_cast, ↓Int.cast_ofNat_Int, simprocAttr]; refine hK _ ?_; clear hK K
 refine zA ?_; refine zD ?_
 refine cQ (fun i : Nat => ⟨[(0, .lst false (itl L)), (1, .lst false (itl L)), (5, .v (.int .i64 (i : Int)))], []⟩) (fun i => i ≤ L.length) (fun i => L.length - i) [0, 1, 5] [] 0 (by simp only [zZ, zR, zP, zQ, zN, zS, zM, zX, zU, Nat.reduceEqDiff, reduceIte]; try rfl) (Nat.zero_le _) ?_
 intro i hi
 by_cases h1 : i < L.length
 ·have hg : (itl L).getD i [] = [FV.v (.string L[i].1), .v (.int .i64 L[i].2)] := qB5 h1
  refine zE ?_; refine zE ?_; refine zJ (fun K hK => ?_); simp (disch := omega) only [push_cast, ↓Int.cast_ofNat_Int, simprocAttr, dJ]; refine hK _ ?_; clear hK K
  refine zA ?_
  refine yD rfl ?_
  refine zC ?_; refine zE ?_
  refine zD ?_; refine zE ?_; refine HW_drw 9 mixed (by kernel_rfl) (fun K hK => ?_); simp (disch := omega) only [push_cast, ↓Int.cast_ofNat_Int, simprocAttr, dJ, jT, hg]
  refine ⟨_, zJj _ _ _ _, ?_⟩
  with_reducible refine aC ?_; simp (disch := omega) only [push_cast, ↓Int.cast_ofNat_Int, simprocAttr, dJ, jT, hg]
  refine hK _ ?_; clear hK K
  refine eD rfl (fun ht => by simp at ht) (fun _ => ?_)
  refine zC ?_; refine zB ?_; refine zA ?_
  refine zJ (fun K hK => ?_); simp (disch := omega) only [push_cast, ↓Int.cast_ofNat_Int, simprocAttr]; refine hK _ ?_; clear hK K
  refine zA ?_
  exact ⟨i + 1, by simp only [zZ, zR, zP, zQ, zN, zS, zM, zX, zU, Nat.reduceEqDiff, reduceIte]; rfl, h1, by omega⟩
 ·have hi2 : i = L.length := by omega
  subst hi2
  refine zE ?_; refine zE ?_; refine zJ (fun K hK => ?_); simp (disch := omega) only [push_cast, ↓Int.cast_ofNat_Int, simprocAttr, dJ]; refine hK _ ?_; clear hK K
  refine zA ?_
  refine yC rfl ?_
  refine zT ?_; refine zG ?_; refine zG ?_; refine zH ?_; refine zE ?_
  refine zJ (fun K hK => ?_); simp (disch := omega) only [push_cast, ↓Int.cast_ofNat_Int, simprocAttr]; refine hK _ ?_; clear hK K
  refine zA ?_; refine zW ?_
  simp only [yA, yM, yH, yE, aA, aD, yK, yJ, zS, zM, Nat.reduceEqDiff, reduceIte, reduceCtorEq]
  exact aM rfl
end Go.Proofs.YtdfjeokjmigkaaaGreat
end
