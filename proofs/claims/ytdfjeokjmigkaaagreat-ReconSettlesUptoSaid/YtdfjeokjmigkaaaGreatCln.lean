/-
  slices.Clone and slices.Equal of texts.
-/
import Derived.Test.YtdfjeokjmigkaaaGreatMgA
import Derived.Test.YtdfjeokjmigkaaaGreatKpS
import Derived.Test.YtdfjeokjmigkaaaGreatGc
import Derived.Test.YtdfjeokjmigkaaaGreatTyZ
import Derived.Test.YtdfjeokjmigkaaaGreatTrD
section
set_option linter.unusedSimpArgs false
set_option linter.unusedVariables false
set_option maxRecDepth 20000
namespace Go.Proofs.YtdfjeokjmigkaaaGreat
open Go Go.Eng Go.RowKit Go.DiffM

def qJk (p : Nat × Nat) : Int × Int := ((p.1 : Int), (p.2 : Int))
theorem qSd : ∀ (s : List Nat) (i j : Nat), sU s i j = (knS s i j).map qJk
 | [], _, _ => rfl
 | x :: r, i, j => by
  rw [sU, knS, qSd r, List.map_append]
  congr 1
  split <;> rfl
theorem zGp (a b : List ByteArray) : qSe a b = (kn a b).map qJk := by rw [← zLp, kn, qSd]
theorem zCd (l : List Int) (i : Nat) (x : Int) : (mL l).set i [.v (.int .i64 x)] = mL (l.set i x) := by simp [mL, List.map_set, zCe]
abbrev zA9 (l : List Int) : Row := .sl true 3 1 (mL l)
def bF (o a : List ByteArray) : List Int := plc o.length (kn o a)
theorem qBs (o a : List ByteArray) : (bF o a).length = o.length := qPo _ _
set_option maxHeartbeats 4000000 in
theorem qRq (o a : List ByteArray) (ho : o.length ≤ 400) (ha : a.length ≤ 400) : HFun Tryz.prog 65 [.lst false (aR o), .lst false (aR a)] (fun h st =>
  h = .tup [.own 0, .v (.int .i64 0)] ∧ st = [(0, zA9 (bF o a))]) := by
 refine eM (N := 38) Tryz.func65 rfl Tryz.ntmps65 Tryz.results65 (by simp) ?_
 refine zE ?_; refine zJ (fun K hK => ?_); simp (disch := omega) only [push_cast, ↓Int.cast_ofNat_Int, simprocAttr]; refine hK _ ?_; clear hK K
 refine zE ?_; refine zJ (fun K hK => ?_); simp (disch := omega) only [push_cast, ↓Int.cast_ofNat_Int, simprocAttr]
 refine hat 112 zVa (zQd o a) (.cons (aK (bU _)) (.cons (aK (bU _)) .nil)) ?_
 rintro _ _ (⟨hlim, rfl, rfl⟩ | ⟨-, -, rfl, rfl⟩)
 ·omega
 rw [zGp]
 with_reducible refine aC ?_; simp (disch := omega) only [push_cast, ↓Int.cast_ofNat_Int, simprocAttr]
 refine hK _ ?_; clear hK K
 refine zE ?_; refine zE ?_; refine zJ (fun K hK => ?_); simp (disch := omega) only [push_cast, ↓Int.cast_ofNat_Int, simprocAttr]; refine hK _ ?_; clear hK K
 refine zA ?_
 refine yC rfl ?_
 refine zC ?_; refine zE ?_
 refine yB [0, 6] [112] (by simp only [zZ, zR, zP, zQ, zN, zS, zM, zX, zU, Nat.reduceEqDiff, reduceIte]; exact rfl) ?_
 have e1 : [[FV.v (.int .i64 (-1))]] = mL [-1] := rfl
 refine zJ (fun K hK => ?_); simp (disch := omega) only [push_cast, ↓Int.cast_ofNat_Int, simprocAttr, e1, aN]
 refine hat 184 zU9 (zFf (-1) o.length (by omega)) (.cons (kD (zGw _) rfl) (.cons (.v _) .nil)) ?_
 rintro _ _ ⟨rfl, rfl⟩
 with_reducible refine aC ?_; simp (disch := omega) only [push_cast, ↓Int.cast_ofNat_Int, simprocAttr]
 refine hK _ ?_; clear hK K
 refine zE ?_; refine zE ?_; refine zJ (fun K hK => ?_); simp (disch := omega) only [push_cast, ↓Int.cast_ofNat_Int, simprocAttr, qB8, List.length_map]; refine hK _ ?_; clear hK K
 refine zA ?_; refine zD ?_
 have hmem := (rA o a).mem
 have hLl : (kn o a).length ≤ 400 := by have := (rA o a).len; omega
 have hd : bF o a = ((kn o a).drop 0).foldl (fun (o : List Int) (p : Nat × Nat) => o.set p.1 (p.2 : Int)) (List.replicate o.length (-1)) := rfl
 generalize bF o a = P at *
 generalize kn o a = L at *
 refine cQ (fun x : Nat × List Int => ⟨[(8, .own 184), (24, .own 112), (25, .v (.int .i64 L.length)), (26, .v (.int .i64 x.1))], [(112, qLl (L.map qJk)), (184, zA9 x.2)]⟩)
  (fun x => x.1 ≤ L.length ∧ x.2.length = o.length ∧ P = (L.drop x.1).foldl (fun (o : List Int) (p : Nat × Nat) => o.set p.1 (p.2 : Int)) x.2) (fun x => L.length - x.1) [8, 24, 25, 26] [112, 184] (0, List.replicate o.length (-1)) rfl ⟨Nat.zero_le _, by simp, hd⟩ ?_
 rintro ⟨n, out⟩ ⟨hn, hl, hP⟩
 simp only at hn hl hP
 by_cases hlt : n < L.length
 ·obtain ⟨p, q, hpq⟩ : ∃ p q, L[n] = (p, q) := ⟨L[n].1, L[n].2, rfl⟩
  have hp := (hmem (p, q) (hpq ▸ List.getElem_mem hlt)).2.2.1
  rw [List.drop_eq_getElem_cons hlt, hpq, List.foldl_cons] at hP
  have hlm : n < (L.map qJk).length := by rw [List.length_map]; exact hlt
  have hge : (L.map qJk)[n] = ((p : Int), (q : Int)) := by rw [List.getElem_map, hpq]; rfl
  have hll : (qAg (L.map qJk)).length = L.length := by rw [qB8, List.length_map]
  refine zE ?_; refine zJ (fun K hK => ?_); simp (disch := omega) only [push_cast, ↓Int.cast_ofNat_Int, simprocAttr, hll]; refine hK _ ?_; clear hK K
  refine zE ?_
  refine yD rfl ?_
  refine zC ?_; refine zE ?_
  refine zD ?_; refine zE ?_; refine zJ (fun K hK => ?_); simp (disch := omega) only [push_cast, ↓Int.cast_ofNat_Int, simprocAttr, hll, zCg, zCh hlm, hge]; refine hK _ ?_; clear hK K
  have hil : (mL out).length = o.length := by rw [qAx, hl]
  refine zA ?_; refine zJ (fun K hK => ?_); simp (disch := omega) only [push_cast, ↓Int.cast_ofNat_Int, simprocAttr, hil, zCd, qEe, qJ2, hl]; (repeat refine ⟨by first | omega | decide | ((repeat' apply And.intro) <;> first | omega | decide), ?_⟩); refine hK _ ?_; clear hK K
  refine zB ?_; refine zA ?_
  refine zJ (fun K hK => ?_); simp (disch := omega) only [push_cast, ↓Int.cast_ofNat_Int, simprocAttr]; refine hK _ ?_; clear hK K
  refine zA ?_
  exact ⟨(n + 1, out.set p q), rfl, ⟨hlt, by simpa using hl, hP⟩, by dsimp only; omega⟩
 ·have hne : n = L.length := by omega
  subst hne
  have hll : (qAg (L.map qJk)).length = L.length := by rw [qB8, List.length_map]
  rw [List.drop_length, List.foldl_nil] at hP
  refine zE ?_; refine zJ (fun K hK => ?_); simp (disch := omega) only [push_cast, ↓Int.cast_ofNat_Int, simprocAttr, hll]; refine hK _ ?_; clear hK K
  refine zE ?_
  refine yC rfl ?_
  refine zT ?_; refine zG ?_; refine zG ?_; refine zH ?_; refine zE ?_
  refine zJ (fun K hK => ?_); simp (disch := omega) only [push_cast, ↓Int.cast_ofNat_Int, simprocAttr]; refine hK _ ?_; clear hK K
  refine zA ?_; refine zW ?_
  simp only [yA, yM, yH, yE, aA, aD, yK, yJ, zS, zM, Nat.reduceEqDiff, reduceIte, reduceCtorEq]
  exact qEl rfl (qJ3 _) ⟨rfl, by rw [hP]⟩
end Go.Proofs.YtdfjeokjmigkaaaGreat
end
section
set_option linter.unusedSimpArgs false
set_option linter.unusedVariables false
set_option maxRecDepth 20000
namespace Go.Proofs.YtdfjeokjmigkaaaGreat
open Go Go.Eng Go.RowKit

end Go.Proofs.YtdfjeokjmigkaaaGreat
end
section
set_option linter.unusedSimpArgs false
set_option linter.unusedVariables false
set_option maxRecDepth 20000
namespace Go.Proofs.YtdfjeokjmigkaaaGreat
open Go Go.Eng Go.RowKit

theorem qQi (a : List ByteArray) (ha : a.length ≤ 1000000000000) : HFun Tryz.prog 84 [.lst false (aR a)] (fun h st => h = .own 0 ∧ st = [(0, .sl true 9 1 (aR a))]) := by
 intro w vs R
 obtain ⟨v, rfl⟩ : ∃ v, vs = [v] := by
  match vs, R.1 with
  | [v], _ => exact ⟨v, rfl⟩
 have hv := R.2 0 (by simp) (by simp)
 simp only [List.getElem_cons_zero] at hv
 cases hv with
 | lst hF =>
 cases hF with
 | lst sz vals hn hc hm hnil hsz hadd h1 hr =>
 rename_i ad n cap
 have hn' : a.length = n := by rw [← hn, aN]
 subst hn'
 have fin : ∀ {v' : Value} {w' : World} {l : List Value}, Own w' w.heap.size 9 1 v' a.length l → Below w.heap.size w w' → (∀ i (hi : i < a.length), l[i]? = some (.string a[i])) →
   Below w.heap.size w w' ∧ ∃ h st', (∀ i r, rlk st' i = some r → i < 8) ∧ (h = .own 0 ∧ st' = [(0, Row.sl true 9 1 (aR a))]) ∧ InvV (cx w (fun _ => False) (fun b => b < w.heap.size)) ⟨[], st'⟩ h v' (fun _ => none) w' := by
  intro v' w' l hO hB hl
  obtain ⟨ρ, xs, G, e⟩ := qZg (P := Tryz.prog) (ty := 9) (sz := 1) (els := aR a) (v := v') (l := l) hB (by rw [aN]; exact hO) (fun x hx => by simp [aR, qAi] at hx; obtain ⟨b, _, rfl⟩ := hx; rfl) (fun i k hi hk => by
   have hi' : i < a.length := by rw [aN] at hi; exact hi
   have hk' : k = 0 := by simpa [aR, qAi] using hk
   subst hk'
   refine ⟨.string a[i], by rw [Nat.mul_one, Nat.add_zero]; exact hl i hi', rfl, ?_⟩
   simp [aR, qAi])
  refine ⟨hB, .own 0, _, fun i r hi => ?_, ⟨rfl, rfl⟩, ρ, xs, G, ?_⟩
  ·simp only [rlk] at hi
   split at hi
   ·omega
   ·cases hi
  ·rw [← e]
   refine .own 0 ?_
   rw [e]
   obtain ⟨_, _, rfl⟩ := cV hO
   rfl
 by_cases h0 : a.length = 0
 ·have : a = [] := List.eq_nil_of_length_eq_zero h0
  subst this
  cases ad with
  | none =>
   refine (Tryz.slices_Clone_string_nil 0 cap w).mono ?_
   rintro e w' ⟨rfl, rfl⟩
   exact oY (fin (World.ownsRow_nil _ _ 9 1) (Below.refl _ _) (fun i hi => absurd hi (Nat.not_lt_zero _)))
  | some ad =>
   refine (Tryz.slices_Clone_string_zero ad cap w).mono ?_
   rintro e w' ⟨v', rfl, hO, -, hB⟩
   exact oY (fin hO hB (fun i hi => absurd hi (Nat.not_lt_zero _)))
 ·obtain ⟨bk, off, rfl, -, hbk, -, hcell⟩ := hadd (by omega)
  have hszz : sz = 1 := by
   have := hsz ((aR a)[0]'(by rw [aN]; omega)) (List.getElem_mem _)
   rw [← this]; simp [aR, qAi]
  subst hszz
  have hcl : ∀ j, j < a.length → w.cell? ⟨bk, off + j, none⟩ = some (.string (a.getD j ByteArray.empty)) := fun j hj => by
   have h3 := hcell j 0 hj (by omega)
   rw [show off + (j * 1 + 0) = off + j by omega] at h3
   rw [h3]
   have h4 := hr j 0 (by rw [aN]; exact hj) (by simp [aR, qAi])
   simp only [aR, qAi, List.getElem_map, List.getElem_cons_zero] at h4
   generalize vals j 0 = u at h4
   cases h4
   rw [List.getD_eq_getElem?_getD, List.getElem?_eq_getElem hj]; rfl
  refine (Tryz.slices_Clone_string bk off a.length cap a w (Nat.le_refl _) (by omega) hcl).mono ?_
  rintro e w' ⟨v', rfl, hO, hB⟩
  exact oY (fin hO hB.2 (fun i hi => by rw [List.take_length]; simp [hi]))
def seE (a b : List ByteArray) (i : Nat) : HS := ⟨[(0, .lst false (aR a)), (1, .lst false (aR b)), (11, .lst false (aR a)), (12, .v (.int .i64 a.length)), (13, .v (.int .i64 i))], []⟩
set_option maxHeartbeats 4000000 in
theorem qH8 (a b : List ByteArray) (ha : a.length ≤ 140737488355328) (hb : b.length ≤ 140737488355328) : HFun Tryz.prog 45 [.lst false (aR a), .lst false (aR b)] (fun h st => h = .v (.bool (decide (a = b)))) := by
 refine eM (N := 26) Tryz.func45 rfl Tryz.ntmps45 Tryz.results45 (by simp) ?_
 refine zE ?_; refine zJ (fun K hK => ?_); simp (disch := omega) only [push_cast, ↓Int.cast_ofNat_Int, simprocAttr]; refine hK _ ?_; clear hK K
 by_cases h : a.length = b.length
 ·refine zE ?_; refine zE ?_; refine zJ (fun K hK => ?_); simp (disch := omega) only [push_cast, ↓Int.cast_ofNat_Int, simprocAttr, aN]; refine hK _ ?_; clear hK K
  refine yC rfl ?_
  refine zC ?_; refine zE ?_; refine zE ?_
  refine zJ (fun K hK => ?_); simp (disch := omega) only [push_cast, ↓Int.cast_ofNat_Int, simprocAttr, aN]; refine hK _ ?_; clear hK K
  refine zA ?_; refine zD ?_
  refine cQ (seE a b) (fun i => i ≤ a.length ∧ a.take i = b.take i) (fun i => a.length - i) [0, 1, 11, 12, 13] [] 0 (by simp only [zZ, zR, zP, zQ, zN, zS, zM, zX, zU, Nat.reduceEqDiff, reduceIte, seE]; rfl) ⟨Nat.zero_le _, by simp⟩ ?_
  rintro i ⟨hi, he⟩
  simp only [seE]
  by_cases hlt : i < a.length
  ·have hlt2 : i < b.length := by omega
   refine zE ?_; refine zJ (fun K hK => ?_); simp (disch := omega) only [push_cast, ↓Int.cast_ofNat_Int, simprocAttr, aN]; refine hK _ ?_; clear hK K
   refine zE ?_
   refine yD rfl ?_
   refine zC ?_; refine zE ?_
   refine zD ?_; refine zE ?_; refine zJ (fun K hK => ?_); simp (disch := omega) only [push_cast, ↓Int.cast_ofNat_Int, simprocAttr]; refine hK _ ?_; clear hK K
   by_cases heq : a[i] = b[i]
   ·have hd : decide (a[i] = b[i]) = true := decide_eq_true heq
    refine zE ?_; refine HW_drw 9 mixed (by kernel_rfl) (fun K hK => ?_); simp (disch := omega) only [push_cast, ↓Int.cast_ofNat_Int, simprocAttr, aN, oM, fX, hd]
    with_reducible refine aC ?_; simp (disch := omega) only [push_cast, ↓Int.cast_ofNat_Int, simprocAttr]
    refine hK _ ?_; clear hK K
    refine yC rfl ?_
    refine zC ?_; refine zB ?_; refine zA ?_
    refine zJ (fun K hK => ?_); simp (disch := omega) only [push_cast, ↓Int.cast_ofNat_Int, simprocAttr]; refine hK _ ?_; clear hK K
    refine zA ?_
    refine ⟨i + 1, by simp only [zZ, zR, zP, zQ, zN, zS, zM, zX, zU, Nat.reduceEqDiff, reduceIte, seE]; try rfl, ⟨hlt, ?_⟩, by omega⟩
    rw [List.take_succ_eq_append_getElem hlt, List.take_succ_eq_append_getElem hlt2, he, heq]
   ·have hd : decide (a[i] = b[i]) = false := decide_eq_false heq
    have hne : decide (a = b) = false := decide_eq_false (fun e => heq (by subst e; rfl))
    rw [hne]
    refine zE ?_; refine HW_drw 9 mixed (by kernel_rfl) (fun K hK => ?_); simp (disch := omega) only [push_cast, ↓Int.cast_ofNat_Int, simprocAttr, aN, oM, fX, hd]
    with_reducible refine aC ?_; simp (disch := omega) only [push_cast, ↓Int.cast_ofNat_Int, simprocAttr]
    refine hK _ ?_; clear hK K
    refine yD rfl ?_
    refine zE ?_; refine zJ (fun K hK => ?_); simp (disch := omega) only [push_cast, ↓Int.cast_ofNat_Int, simprocAttr]; refine hK _ ?_; clear hK K
    refine zA ?_; refine zW ?_; refine zL ?_; refine zK ?_; refine zK ?_; refine zL ?_; refine zK ?_
    simp only [yA, yM, yH, yE, aA, aD, yK, yJ, zS, zM, Nat.reduceEqDiff, reduceIte, reduceCtorEq]
    exact aM rfl
  ·have hab : a = b := by
    rw [List.take_of_length_le (by omega), List.take_of_length_le (by omega)] at he; exact he
   rw [decide_eq_true hab]
   refine zE ?_; refine zJ (fun K hK => ?_); simp (disch := omega) only [push_cast, ↓Int.cast_ofNat_Int, simprocAttr, aN]; refine hK _ ?_; clear hK K
   refine zE ?_
   refine yC rfl ?_
   refine zT ?_; refine zG ?_; refine zG ?_; refine zH ?_; refine zE ?_
   refine zJ (fun K hK => ?_); simp (disch := omega) only [push_cast, ↓Int.cast_ofNat_Int, simprocAttr]; refine hK _ ?_; clear hK K
   refine zA ?_; refine zW ?_
   simp only [yA, yM, yH, yE, aA, aD, yK, yJ, zS, zM, Nat.reduceEqDiff, reduceIte, reduceCtorEq]
   exact aM rfl
 ·have hne : decide (a = b) = false := decide_eq_false (fun e => h (by rw [e]))
  rw [hne]
  refine zE ?_; refine zE ?_; refine zJ (fun K hK => ?_); simp (disch := omega) only [push_cast, ↓Int.cast_ofNat_Int, simprocAttr, aN]; refine hK _ ?_; clear hK K
  refine yD rfl ?_
  refine zE ?_; refine zJ (fun K hK => ?_); simp (disch := omega) only [push_cast, ↓Int.cast_ofNat_Int, simprocAttr]; refine hK _ ?_; clear hK K
  refine zA ?_; refine zW ?_; refine zK ?_
  simp only [yA, yM, yH, yE, aA, aD, yK, yJ, zS, zM, Nat.reduceEqDiff, reduceIte, reduceCtorEq]
  exact aM rfl
end Go.Proofs.YtdfjeokjmigkaaaGreat
end
