/-
  slices.Clone and slices.Equal of texts.
-/
import Derived.Test.YtdfjeokjmigkaaaGreatMgA
import Derived.Test.YtdfjeokjmigkaaaGreatKpS
import Derived.Test.YtdfjeokjmigkaaaGreatGc
import Derived.Test.YtdfjeokjmigkaaaGreatTyZ
import Derived.Test.YtdfjeokjmigkaaaGreatShpZ2
section
set_option linter.unusedSimpArgs false
set_option linter.unusedVariables false
set_option maxRecDepth 20000
namespace Go.Proofs.YtdfjeokjmigkaaaGreat
open Go Go.Eng Go.RowKit Go.DiffM

def qHi (p : Nat × Nat) : Int × Int := ((p.1 : Int), (p.2 : Int))
theorem qQw : ∀ (s : List Nat) (i j : Nat), rD s i j = (knS s i j).map qHi
 | [], _, _ => rfl
 | x :: r, i, j => by
  rw [rD, knS, qQw r, List.map_append]
  congr 1
  split <;> rfl
theorem zEy (a b : List ByteArray) : qQx a b = (kn a b).map qHi := by rw [← zJx, kn, qQw]
theorem zAr (l : List Int) (i : Nat) (x : Int) : (lT l).set i [.v (.int .i64 x)] = lT (l.set i x) := by simp [lT, List.map_set, zAs]
abbrev qZj (l : List Int) : Row := .sl true 3 1 (lT l)
def aZ (o a : List ByteArray) : List Int := plc o.length (kn o a)
theorem qAu (o a : List ByteArray) : (aZ o a).length = o.length := qM8 _ _
set_option maxHeartbeats 4000000 in
theorem qQc (o a : List ByteArray) (ho : o.length ≤ 400) (ha : a.length ≤ 400) : HFun Tryz.prog 65 [.lst false (aQ o), .lst false (aQ a)] (fun h st =>
  h = .tup [.own 0, .v (.int .i64 0)] ∧ st = [(0, qZj (aZ o a))]) := by
 refine fA (N := 38) Tryz.func65 rfl Tryz.ntmps65 Tryz.results65 (by simp) ?_
 refine zE ?_; refine zJ (fun K hK => ?_); simp (disch := omega) only [push_cast, ↓Int.cast_ofNat_Int, simprocAttr]; refine hK _ ?_; clear hK K
 refine zE ?_; refine zJ (fun K hK => ?_); simp (disch := omega) only [push_cast, ↓Int.cast_ofNat_Int, simprocAttr]
 refine hat 112 zTh (zNg o a) (.cons (aP (bQ _)) (.cons (aP (bQ _)) .nil)) ?_
 rintro _ _ (⟨hlim, rfl, rfl⟩ | ⟨-, -, rfl, rfl⟩)
 ·omega
 rw [zEy]
 with_reducible refine aE ?_; simp (disch := omega) only [push_cast, ↓Int.cast_ofNat_Int, simprocAttr]
 refine hK _ ?_; clear hK K
 refine zE ?_; refine zE ?_; refine zJ (fun K hK => ?_); simp (disch := omega) only [push_cast, ↓Int.cast_ofNat_Int, simprocAttr]; refine hK _ ?_; clear hK K
 refine zA ?_
 refine yC rfl ?_
 refine zC ?_; refine zE ?_
 refine yB [0, 6] [112] (by simp only [zZ, zR, zP, zQ, zN, zS, zM, zX, zU, Nat.reduceEqDiff, reduceIte]; exact rfl) ?_
 have e1 : [[FV.v (.int .i64 (-1))]] = lT [-1] := rfl
 refine zJ (fun K hK => ?_); simp (disch := omega) only [push_cast, ↓Int.cast_ofNat_Int, simprocAttr, e1, aK]
 refine hat 184 zTg (zDq (-1) o.length (by omega)) (.cons (qLf (zE5 _) rfl) (.cons (.v _) .nil)) ?_
 rintro _ _ ⟨rfl, rfl⟩
 with_reducible refine aE ?_; simp (disch := omega) only [push_cast, ↓Int.cast_ofNat_Int, simprocAttr]
 refine hK _ ?_; clear hK K
 refine zE ?_; refine zE ?_; refine zJ (fun K hK => ?_); simp (disch := omega) only [push_cast, ↓Int.cast_ofNat_Int, simprocAttr, qA8, List.length_map]; refine hK _ ?_; clear hK K
 refine zA ?_; refine zD ?_
 have hmem := (xS o a).mem
 have hLl : (kn o a).length ≤ 400 := by have := (xS o a).len; omega
 have hd : aZ o a = ((kn o a).drop 0).foldl (fun (o : List Int) (p : Nat × Nat) => o.set p.1 (p.2 : Int)) (List.replicate o.length (-1)) := rfl
 generalize aZ o a = P at *
 generalize kn o a = L at *
 refine dB (fun x : Nat × List Int => ⟨[(8, .own 184), (24, .own 112), (25, .v (.int .i64 L.length)), (26, .v (.int .i64 x.1))], [(112, qMx (L.map qHi)), (184, qZj x.2)]⟩)
  (fun x => x.1 ≤ L.length ∧ x.2.length = o.length ∧ P = (L.drop x.1).foldl (fun (o : List Int) (p : Nat × Nat) => o.set p.1 (p.2 : Int)) x.2) (fun x => L.length - x.1) [8, 24, 25, 26] [112, 184] (0, List.replicate o.length (-1)) rfl ⟨Nat.zero_le _, by simp, hd⟩ ?_
 rintro ⟨n, out⟩ ⟨hn, hl, hP⟩
 simp only at hn hl hP
 by_cases hlt : n < L.length
 ·obtain ⟨p, q, hpq⟩ : ∃ p q, L[n] = (p, q) := ⟨L[n].1, L[n].2, rfl⟩
  have hp := (hmem (p, q) (hpq ▸ List.getElem_mem hlt)).2.2.1
  rw [List.drop_eq_getElem_cons hlt, hpq, List.foldl_cons] at hP
  have hlm : n < (L.map qHi).length := by rw [List.length_map]; exact hlt
  have hge : (L.map qHi)[n] = ((p : Int), (q : Int)) := by rw [List.getElem_map, hpq]; rfl
  have hll : (xB (L.map qHi)).length = L.length := by rw [qA8, List.length_map]
  refine zE ?_; refine zJ (fun K hK => ?_); simp (disch := omega) only [push_cast, ↓Int.cast_ofNat_Int, simprocAttr, hll]; refine hK _ ?_; clear hK K
  refine zE ?_
  refine yD rfl ?_
  refine zC ?_; refine zE ?_
  refine zD ?_; refine zE ?_; refine zJ (fun K hK => ?_); simp (disch := omega) only [push_cast, ↓Int.cast_ofNat_Int, simprocAttr, hll, zAu, zAv hlm, hge]; refine hK _ ?_; clear hK K
  have hil : (lT out).length = o.length := by rw [xU, hl]
  refine zA ?_; refine zJ (fun K hK => ?_); simp (disch := omega) only [push_cast, ↓Int.cast_ofNat_Int, simprocAttr, hil, zAr, qDf, qHz, hl]; (repeat refine ⟨by first | omega | decide | ((repeat' apply And.intro) <;> first | omega | decide), ?_⟩); refine hK _ ?_; clear hK K
  refine zB ?_; refine zA ?_
  refine zJ (fun K hK => ?_); simp (disch := omega) only [push_cast, ↓Int.cast_ofNat_Int, simprocAttr]; refine hK _ ?_; clear hK K
  refine zA ?_
  exact ⟨(n + 1, out.set p q), rfl, ⟨hlt, by simpa using hl, hP⟩, by dsimp only; omega⟩
 ·have hne : n = L.length := by omega
  subst hne
  have hll : (xB (L.map qHi)).length = L.length := by rw [qA8, List.length_map]
  rw [List.drop_length, List.foldl_nil] at hP
  refine zE ?_; refine zJ (fun K hK => ?_); simp (disch := omega) only [push_cast, ↓Int.cast_ofNat_Int, simprocAttr, hll]; refine hK _ ?_; clear hK K
  refine zE ?_
  refine yC rfl ?_
  refine zT ?_; refine zG ?_; refine zG ?_; refine zH ?_; refine zE ?_
  refine zJ (fun K hK => ?_); simp (disch := omega) only [push_cast, ↓Int.cast_ofNat_Int, simprocAttr]; refine hK _ ?_; clear hK K
  refine zA ?_; refine zW ?_
  simp only [yA, yM, yH, yE, aA, aC, yK, yJ, zS, zM, Nat.reduceEqDiff, reduceIte, reduceCtorEq]
  exact qDm rfl (qH0 _) ⟨rfl, by rw [hP]⟩
end Go.Proofs.YtdfjeokjmigkaaaGreat
end
section
set_option linter.unusedSimpArgs false
set_option linter.unusedVariables false
set_option maxRecDepth 20000
namespace Go.Proofs.YtdfjeokjmigkaaaGreat
open Go Go.Eng Go.RowKit

end Go.Proofs.YtdfjeokjmigkaaaGreat
end
section
set_option linter.unusedSimpArgs false
set_option linter.unusedVariables false
set_option maxRecDepth 20000
namespace Go.Proofs.YtdfjeokjmigkaaaGreat
open Go Go.Eng Go.RowKit

theorem qN1 (a : List ByteArray) (ha : a.length ≤ 1000000000000) : HFun Tryz.prog 84 [.lst false (aQ a)] (fun h st => h = .own 0 ∧ st = [(0, .sl true 9 1 (aQ a))]) := by
 intro w vs R
 obtain ⟨v, rfl⟩ : ∃ v, vs = [v] := by
  match vs, R.1 with
  | [v], _ => exact ⟨v, rfl⟩
 have hv := R.2 0 (by simp) (by simp)
 simp only [List.getElem_cons_zero] at hv
 cases hv with
 | lst hF =>
 cases hF with
 | lst sz vals hn hc hm hnil hsz hadd h1 hr =>
 rename_i ad n cap
 have hn' : a.length = n := by rw [← hn, aK]
 subst hn'
 have fin : ∀ {v' : Value} {w' : World} {l : List Value}, Own w' w.heap.size 9 1 v' a.length l → Below w.heap.size w w' → (∀ i (hi : i < a.length), l[i]? = some (.string a[i])) →
   Below w.heap.size w w' ∧ ∃ h st', (∀ i r, rlk st' i = some r → i < 8) ∧ (h = .own 0 ∧ st' = [(0, Row.sl true 9 1 (aQ a))]) ∧ InvV (cx w (fun _ => False) (fun b => b < w.heap.size)) ⟨[], st'⟩ h v' (fun _ => none) w' := by
  intro v' w' l hO hB hl
  obtain ⟨ρ, xs, G, e⟩ := qXq (P := Tryz.prog) (ty := 9) (sz := 1) (els := aQ a) (v := v') (l := l) hB (by rw [aK]; exact hO) (fun x hx => by simp [aQ, xD] at hx; obtain ⟨b, _, rfl⟩ := hx; rfl) (fun i k hi hk => by
   have hi' : i < a.length := by rw [aK] at hi; exact hi
   have hk' : k = 0 := by simpa [aQ, xD] using hk
   subst hk'
   refine ⟨.string a[i], by rw [Nat.mul_one, Nat.add_zero]; exact hl i hi', rfl, ?_⟩
   simp [aQ, xD])
  refine ⟨hB, .own 0, _, fun i r hi => ?_, ⟨rfl, rfl⟩, ρ, xs, G, ?_⟩
  ·simp only [rlk] at hi
   split at hi
   ·omega
   ·cases hi
  ·rw [← e]
   refine .own 0 ?_
   rw [e]
   obtain ⟨_, _, rfl⟩ := cQ hO
   rfl
 by_cases h0 : a.length = 0
 ·have : a = [] := List.eq_nil_of_length_eq_zero h0
  subst this
  cases ad with
  | none =>
   refine (Tryz.slices_Clone_string_nil 0 cap w).mono ?_
   rintro e w' ⟨rfl, rfl⟩
   exact nV (fin (World.ownsRow_nil _ _ 9 1) (Below.refl _ _) (fun i hi => absurd hi (Nat.not_lt_zero _)))
  | some ad =>
   refine (Tryz.slices_Clone_string_zero ad cap w).mono ?_
   rintro e w' ⟨v', rfl, hO, -, hB⟩
   exact nV (fin hO hB (fun i hi => absurd hi (Nat.not_lt_zero _)))
 ·obtain ⟨bk, off, rfl, -, hbk, -, hcell⟩ := hadd (by omega)
  have hszz : sz = 1 := by
   have := hsz ((aQ a)[0]'(by rw [aK]; omega)) (List.getElem_mem _)
   rw [← this]; simp [aQ, xD]
  subst hszz
  have hcl : ∀ j, j < a.length → w.cell? ⟨bk, off + j, none⟩ = some (.string (a.getD j ByteArray.empty)) := fun j hj => by
   have h3 := hcell j 0 hj (by omega)
   rw [show off + (j * 1 + 0) = off + j by omega] at h3
   rw [h3]
   have h4 := hr j 0 (by rw [aK]; exact hj) (by simp [aQ, xD])
   simp only [aQ, xD, List.getElem_map, List.getElem_cons_zero] at h4
   generalize vals j 0 = u at h4
   cases h4
   rw [List.getD_eq_getElem?_getD, List.getElem?_eq_getElem hj]; rfl
  refine (Tryz.slices_Clone_string bk off a.length cap a w (Nat.le_refl _) (by omega) hcl).mono ?_
  rintro e w' ⟨v', rfl, hO, hB⟩
  exact nV (fin hO hB.2 (fun i hi => by rw [List.take_length]; simp [hi]))
def seE (a b : List ByteArray) (i : Nat) : HS := ⟨[(0, .lst false (aQ a)), (1, .lst false (aQ b)), (11, .lst false (aQ a)), (12, .v (.int .i64 a.length)), (13, .v (.int .i64 i))], []⟩
set_option maxHeartbeats 4000000 in
theorem qG9 (a b : List ByteArray) (ha : a.length ≤ 140737488355328) (hb : b.length ≤ 140737488355328) : HFun Tryz.prog 45 [.lst false (aQ a), .lst false (aQ b)] (fun h st => h = .v (.bool (decide (a = b)))) := by
 refine fA (N := 26) Tryz.func45 rfl Tryz.ntmps45 Tryz.results45 (by simp) ?_
 refine zE ?_; refine zJ (fun K hK => ?_); simp (disch := omega) only [push_cast, ↓Int.cast_ofNat_Int, simprocAttr]; refine hK _ ?_; clear hK K
 by_cases h : a.length = b.length
 ·refine zE ?_; refine zE ?_; refine zJ (fun K hK => ?_); simp (disch := omega) only [push_cast, ↓Int.cast_ofNat_Int, simprocAttr, aK]; refine hK _ ?_; clear hK K
  refine yC rfl ?_
  refine zC ?_; refine zE ?_; refine zE ?_
  refine zJ (fun K hK => ?_); simp (disch := omega) only [push_cast, ↓Int.cast_ofNat_Int, simprocAttr, aK]; refine hK _ ?_; clear hK K
  refine zA ?_; refine zD ?_
  refine dB (seE a b) (fun i => i ≤ a.length ∧ a.take i = b.take i) (fun i => a.length - i) [0, 1, 11, 12, 13] [] 0 (by simp only [zZ, zR, zP, zQ, zN, zS, zM, zX, zU, Nat.reduceEqDiff, reduceIte, seE]; rfl) ⟨Nat.zero_le _, by simp⟩ ?_
  rintro i ⟨hi, he⟩
  simp only [seE]
  by_cases hlt : i < a.length
  ·have hlt2 : i < b.length := by omega
   refine zE ?_; refine zJ (fun K hK => ?_); simp (disch := omega) only [push_cast, ↓Int.cast_ofNat_Int, simprocAttr, aK]; refine hK _ ?_; clear hK K
   refine zE ?_
   refine yD rfl ?_
   refine zC ?_; refine zE ?_
   refine zD ?_; refine zE ?_; refine zJ (fun K hK => ?_); simp (disch := omega) only [push_cast, ↓Int.cast_ofNat_Int, simprocAttr]; refine hK _ ?_; clear hK K
   by_cases heq : a[i] = b[i]
   ·have hd : decide (a[i] = b[i]) = true := decide_eq_true heq
    refine zE ?_; refine HW_drw 9 mixed (by kernel_rfl) (fun K hK => ?_); simp (disch := omega) only [push_cast, ↓Int.cast_ofNat_Int, simprocAttr, aK, nG, fG, hd]
    with_reducible refine aE ?_; simp (disch := omega) only [push_cast, ↓Int.cast_ofNat_Int, simprocAttr]
    refine hK _ ?_; clear hK K
    refine yC rfl ?_
    refine zC ?_; refine zB ?_; refine zA ?_
    refine zJ (fun K hK => ?_); simp (disch := omega) only [push_cast, ↓Int.cast_ofNat_Int, simprocAttr]; refine hK _ ?_; clear hK K
    refine zA ?_
    refine ⟨i + 1, by simp only [zZ, zR, zP, zQ, zN, zS, zM, zX, zU, Nat.reduceEqDiff, reduceIte, seE]; try rfl, ⟨hlt, ?_⟩, by omega⟩
    rw [List.take_succ_eq_append_getElem hlt, List.take_succ_eq_append_getElem hlt2, he, heq]
   ·have hd : decide (a[i] = b[i]) = false := decide_eq_false heq
    have hne : decide (a = b) = false := decide_eq_false (fun e => heq (by subst e; rfl))
    rw [hne]
    refine zE ?_; refine HW_drw 9 mixed (by kernel_rfl) (fun K hK => ?_); simp (disch := omega) only [push_cast, ↓Int.cast_ofNat_Int, simprocAttr, aK, nG, fG, hd]
    with_reducible refine aE ?_; simp (disch := omega) only [push_cast, ↓Int.cast_ofNat_Int, simprocAttr]
    refine hK _ ?_; clear hK K
    refine yD rfl ?_
    refine zE ?_; refine zJ (fun K hK => ?_); simp (disch := omega) only [push_cast, ↓Int.cast_ofNat_Int, simprocAttr]; refine hK _ ?_; clear hK K
    refine zA ?_; refine zW ?_; refine zL ?_; refine zK ?_; refine zK ?_; refine zL ?_; refine zK ?_
    simp only [yA, yM, yH, yE, aA, aC, yK, yJ, zS, zM, Nat.reduceEqDiff, reduceIte, reduceCtorEq]
    exact aL rfl
  ·have hab : a = b := by
    rw [List.take_of_length_le (by omega), List.take_of_length_le (by omega)] at he; exact he
   rw [decide_eq_true hab]
   refine zE ?_; refine zJ (fun K hK => ?_); simp (disch := omega) only [push_cast, ↓Int.cast_ofNat_Int, simprocAttr, aK]; refine hK _ ?_; clear hK K
   refine zE ?_
   refine yC rfl ?_
   refine zT ?_; refine zG ?_; refine zG ?_; refine zH ?_; refine zE ?_
   refine zJ (fun K hK => ?_); simp (disch := omega) only [push_cast, ↓Int.cast_ofNat_Int, simprocAttr]; refine hK _ ?_; clear hK K
   refine zA ?_; refine zW ?_
   simp only [yA, yM, yH, yE, aA, aC, yK, yJ, zS, zM, Nat.reduceEqDiff, reduceIte, reduceCtorEq]
   exact aL rfl
 ·have hne : decide (a = b) = false := decide_eq_false (fun e => h (by rw [e]))
  rw [hne]
  refine zE ?_; refine zE ?_; refine zJ (fun K hK => ?_); simp (disch := omega) only [push_cast, ↓Int.cast_ofNat_Int, simprocAttr, aK]; refine hK _ ?_; clear hK K
  refine yD rfl ?_
  refine zE ?_; refine zJ (fun K hK => ?_); simp (disch := omega) only [push_cast, ↓Int.cast_ofNat_Int, simprocAttr]; refine hK _ ?_; clear hK K
  refine zA ?_; refine zW ?_; refine zK ?_
  simp only [yA, yM, yH, yE, aA, aC, yK, yJ, zS, zM, Nat.reduceEqDiff, reduceIte, reduceCtorEq]
  exact aL rfl
end Go.Proofs.YtdfjeokjmigkaaaGreat
end
