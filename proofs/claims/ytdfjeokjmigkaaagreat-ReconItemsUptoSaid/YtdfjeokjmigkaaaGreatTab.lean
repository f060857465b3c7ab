/-
  The reference's table of longest common rows, its steps.
-/
import Derived.Test.YtdfjeokjmigkaaaGreatKept
import Derived.Test.YtdfjeokjmigkaaaGreatDiffD
set_option linter.unusedSimpArgs false
set_option linter.unusedVariables false
set_option maxRecDepth 20000
namespace Go.Proofs.YtdfjeokjmigkaaaGreat
open Go Go.Eng Go.RowKit Go.DiffM

section
variable {α : Type} [DecidableEq α]
theorem qUj (x : α) (a b : List α) : lcs (x :: a) b ≤ lcs a b + 1 := by
  obtain ⟨s, h1, h2, h3⟩ := qL3 _ (x :: a) b (Nat.le_refl _)
  rcases List.sublist_cons_iff.1 h1 with h | ⟨r, rfl, h⟩
  · have := tX _ a b s (Nat.le_refl _) h h2; omega
  · have := tX _ a b r (Nat.le_refl _) h ((List.sublist_cons_self _ _).trans h2)
    simp only [List.length_cons] at h3; omega
theorem qRy (y : α) (a b : List α) : lcs a (y :: b) ≤ lcs a b + 1 := by
  obtain ⟨s, h1, h2, h3⟩ := qL3 _ a (y :: b) (Nat.le_refl _)
  rcases List.sublist_cons_iff.1 h2 with h | ⟨r, rfl, h⟩
  · have := tX _ a b s (Nat.le_refl _) h1 h; omega
  · have := tX _ a b r (Nat.le_refl _) ((List.sublist_cons_self _ _).trans h1) h
    simp only [List.length_cons] at h3; omega
theorem zMd (a b : List α) (i j : Nat) (hi : i < a.length) : at2 a b i j ≤ at2 a b (i + 1) j + 1 := by
  unfold at2; rw [List.drop_eq_getElem_cons hi]; exact qUj _ _ _
theorem zGv (a b : List α) (i j : Nat) (hj : j < b.length) : at2 a b i j ≤ at2 a b i (j + 1) + 1 := by
  unfold at2; rw [List.drop_eq_getElem_cons hj]; exact qRy _ _ _
end
def zSn : List FV := [.v (.slice none 0 0)]
def qXe (r : List Int) : List FV := [.lst true (iD r)]
def rK (a b : List ByteArray) (p : Nat) : List Int := (List.range (b.length + 1)).map fun q => ((at2 a b p q : Nat) : Int)
def pD (a b : List ByteArray) (n : Nat) : List (List Int) := ((List.range (a.length + 1)).drop n).map (rK a b)
def xE (n : Nat) (rows : List (List Int)) : List (List FV) := List.replicate n zSn ++ rows.map qXe
def tab (a b : List ByteArray) : List (List FV) := (pD a b 0).map qXe
theorem sF (a b : List ByteArray) (p : Nat) : (rK a b p).length = b.length + 1 := by simp [rK]
theorem qDk (a b : List ByteArray) (p q : Nat) (h : q < (rK a b p).length) : (rK a b p)[q] = ((at2 a b p q : Nat) : Int) := by simp [rK]
theorem vQ (a b : List ByteArray) (n : Nat) (h : n ≤ a.length) : pD a b n = rK a b n :: pD a b (n + 1) := by
  unfold pD
  rw [List.drop_eq_getElem_cons (by simp; omega), List.map_cons, List.getElem_range]
theorem qTg (a b : List ByteArray) : pD a b a.length = [rK a b a.length] := by
  rw [vQ a b _ (Nat.le_refl _)]
  congr 1
  unfold pD
  rw [List.drop_eq_nil_of_le (by simp)]; rfl
theorem nX (n : Nat) (rows : List (List Int)) : (xE n rows).length = n + rows.length := by simp [xE]
theorem sU (n : Nat) (rows : List (List Int)) : Wid 1 (xE n rows) = True := eq_true fun x hx => by
  simp only [xE, List.mem_append] at hx
  rcases hx with h | h
  · rw [(List.mem_replicate.1 h).2]; rfl
  · obtain ⟨r, -, rfl⟩ := List.mem_map.1 h; rfl
theorem oY (n : Nat) (r : List Int) (rows : List (List Int)) {d : List FV} : (xE n (r :: rows)).getD n d = [.lst true (iD r)] := by
  rw [fZ (by simp [xE])]
  simp [xE, qXe]
theorem qSw (n : Nat) (rows : List (List Int)) {d : List FV} : (xE (n + 1) rows).getD n d = [.v (.slice none 0 0)] := by
  rw [fZ (by simp [xE]; omega)]
  simp only [xE]
  rw [List.getElem_append_left (by simp)]
  simp [zSn]
theorem qSv (n : Nat) (r : List Int) (rows : List (List Int)) : (xE (n + 1) rows).set n [.lst true (iD r)] = xE n (r :: rows) := by
  simp only [xE, List.replicate_succ', List.append_assoc]
  rw [List.set_append_right _ _ (by simp)]
  simp [qXe]
theorem zHc (n : Nat) : List.replicate n [FV.v (.slice none 0 0)] = xE n [] := by simp [xE, zSn]
theorem zC1 (a b : List ByteArray) : xE 0 (pD a b 0) = tab a b := by simp [xE, tab]
theorem qUq (n : Nat) : List.replicate n [FV.v (.int .i64 0)] = iD (List.replicate n 0) := by simp [iD, qR2]
theorem qCp (R : List Int) (k : Nat) (x : Int) : (iD R).set k [.v (.int .i64 x)] = iD (R.set k x) := by simp [iD, List.map_set, qR2]
theorem pP {R : List Int} {k : Nat} {x : Int} {d : List FV} (h : k < R.length) : (iD (R.set k x)).getD k d = [.v (.int .i64 x)] := by rw [gC (by simpa using h)]; simp
theorem qQu (a b : List ByteArray) : (tab a b).length = a.length + 1 := by simp [tab, pD]
theorem qQv (a b : List ByteArray) {p : Nat} {d : List FV} (h : p < a.length + 1) : (tab a b).getD p d = [.lst true (iD (rK a b p))] := by
  unfold tab
  rw [jT (by simpa [pD] using h)]
  simp [pD, qXe]
theorem qQt (a b : List ByteArray) : Wid 1 (tab a b) = True := eq_true (vK _ fun _ => rfl)
theorem zC0 (a b : List ByteArray) : ∀ x ∈ tab a b, ∀ f ∈ x, FreshF f := fun x hx f hf => by
  obtain ⟨r, -, rfl⟩ := List.mem_map.1 hx
  simp [qXe] at hf
  subst hf
  exact .lst (qBj r)
set_option maxHeartbeats 2000000 in
theorem zMx (a b : List ByteArray) (hA : a.length ≤ 400) (hB : b.length ≤ 400) : HFun Tryz.prog 132 [.lst false (aK a), .lst false (aK b)] (fun h st => h = .own 0 ∧ st = [(0, .sl true 88 1 (tab a b))]) := by
  refine eF (N := 115) Tryz.func132 rfl Tryz.ntmps132 Tryz.results132 (by simp) ?_
  refine zE ?_; refine zJ (fun K hK => ?_); simp (disch := omega) only [push_cast, ↓Int.cast_ofNat_Int, simprocAttr]; refine hK _ ?_; clear hK K
  refine zE ?_; refine zJ (fun K hK => ?_); simp (disch := omega) only [push_cast, ↓Int.cast_ofNat_Int, simprocAttr, aF, maxLen, zHc]; refine hK _ ?_; clear hK K
  refine yB [0, 1, 5] [96] (by simp only [zZ, zR, zP, zQ, zN, zS, zM, zX, zU, Nat.reduceEqDiff, reduceIte]; exact rfl) ?_
  refine zE ?_; refine zJ (fun K hK => ?_); simp (disch := omega) only [push_cast, ↓Int.cast_ofNat_Int, simprocAttr, aF, maxLen, nX, qSw, qSv, qUq]; refine hK _ ?_; clear hK K
  refine yB [0, 1, 5] [96] (by simp only [zZ, zR, zP, zQ, zN, zS, zM, zX, zU, Nat.reduceEqDiff, reduceIte]; exact rfl) ?_
  refine zE ?_; refine zE ?_; refine zJ (fun K hK => ?_); simp (disch := omega) only [push_cast, ↓Int.cast_ofNat_Int, simprocAttr, aF]; refine hK _ ?_; clear hK K
  refine yB [0, 1, 5, 6] [96] (by simp only [zZ, zR, zP, zQ, zN, zS, zM, zX, zU, Nat.reduceEqDiff, reduceIte]; exact rfl) ?_
  refine zD ?_
  refine bR (fun i : Int => ⟨[(0, .lst false (aK a)), (1, .lst false (aK b)), (5, .own 96), (6, .v (.int .i64 i))], [(96, .sl true 88 1 (xE (i + 1).toNat (pD a b (i + 1).toNat)))]⟩)
    (fun i => -1 ≤ i ∧ i < a.length) (fun i => (i + 1).toNat) [0, 1, 5, 6] [96] ((a.length : Int) - 1) ?_ ⟨by omega, by omega⟩ ?_
  · have e : ((a.length : Int) - 1 + 1).toNat = a.length := by omega
    simp only [zZ, zR, zP, zQ, zN, zS, zM, zX, zU, Nat.reduceEqDiff, reduceIte, e, qTg]
    have e2 : rK a b a.length = List.replicate (b.length + 1) 0 := by
      apply List.ext_getElem
      · simp [rK]
      · intro i h1 h2
        simp only [rK, List.getElem_map, List.getElem_range, List.getElem_replicate]
        rw [qSj _ _ _ _ (.inl (Nat.le_refl _))]; rfl
    rw [e2]
  rintro i ⟨hi1, hi2⟩
  refine zE ?_; refine zE ?_; refine zJ (fun K hK => ?_); simp (disch := omega) only [push_cast, ↓Int.cast_ofNat_Int, simprocAttr]; refine hK _ ?_; clear hK K
  refine zA ?_
  refine eQ rfl (fun hlt => ?_) (fun hge => ?_)
  · have h0 : 0 ≤ i := by simpa using hlt
    obtain ⟨p, rfl⟩ := Int.eq_ofNat_of_zero_le h0
    have hp : p < a.length := by omega
    have e : ((p : Int) + 1).toNat = p + 1 := by omega
    simp only [e]
    rw [vQ a b (p + 1) (by omega)]
    refine zC ?_; refine zE ?_; refine zD ?_; refine zE ?_; refine zJ (fun K hK => ?_); simp (disch := omega) only [push_cast, ↓Int.cast_ofNat_Int, simprocAttr, aF, maxLen, qUq]; refine hK _ ?_; clear hK K
    refine zE ?_; refine zE ?_; refine zJ (fun K hK => ?_); simp (disch := omega) only [push_cast, ↓Int.cast_ofNat_Int, simprocAttr, aF]; refine hK _ ?_; clear hK K
    refine yB [0, 1, 5, 6, 7, 8] [96, 248] (by simp only [zZ, zR, zP, zQ, zN, zS, zM, zX, zU, Nat.reduceEqDiff, reduceIte]; exact rfl) ?_
    refine zD ?_
    have hRn := sF a b (p + 1)
    generalize hN : rK a b (p + 1) = Rn at *
    have hget : ∀ q (h : q < Rn.length), Rn[q] = ((at2 a b (p + 1) q : Nat) : Int) := fun q h => by subst hN; exact qDk a b (p + 1) q h
    refine bR (fun x : Int × List Int => ⟨[(0, .lst false (aK a)), (1, .lst false (aK b)), (5, .own 96), (6, .v (.int .i64 (p : Nat))), (7, .own 248), (8, .v (.int .i64 x.1))], [(96, .sl true 88 1 (xE (p + 1) (Rn :: pD a b (p + 1 + 1)))), (248, .sl true 3 1 (iD x.2))]⟩)
      (fun x => -1 ≤ x.1 ∧ x.1 < b.length ∧ x.2.length = b.length + 1 ∧ ∀ q (h : q < x.2.length), x.1 < q → x.2[q] = ((at2 a b p q : Nat) : Int)) (fun x => (x.1 + 1).toNat) [0, 1, 5, 6, 7, 8] [96, 248] ((b.length : Int) - 1, List.replicate (b.length + 1) 0) rfl ⟨by show -1 ≤ (b.length : Int) - 1; omega, by show (b.length : Int) - 1 < b.length; omega, by simp, fun q h hq => ?_⟩ ?_
    · simp only [List.length_replicate] at h
      have : (b.length : Int) - 1 < q := hq
      simp only [List.getElem_replicate]
      rw [qSj a b p q (.inr (by omega))]; rfl
    rintro ⟨j, R⟩ ⟨hj1, hj2, hR, hv⟩
    simp only at hj1 hj2 hR hv
    refine zE ?_; refine zE ?_; refine zJ (fun K hK => ?_); simp (disch := omega) only [push_cast, ↓Int.cast_ofNat_Int, simprocAttr]; refine hK _ ?_; clear hK K
    refine zA ?_
    refine eQ rfl (fun hlt2 => ?_) (fun hge2 => ?_)
    · have hj0 : 0 ≤ j := by simpa using hlt2
      obtain ⟨k, rfl⟩ := Int.eq_ofNat_of_zero_le hj0
      have hk : k < b.length := by omega
      have hx : R[k + 1]'(by omega) = ((at2 a b p (k + 1) : Nat) : Int) := hv (k + 1) (by omega) (by omega)
      have hy : Rn[k]'(by omega) = ((at2 a b (p + 1) k : Nat) : Int) := hget k (by omega)
      have hz : Rn[k + 1]'(by omega) = ((at2 a b (p + 1) (k + 1) : Nat) : Int) := hget (k + 1) (by omega)
      have hstep := qV6 a b p k hp hk
      have b1 := zMd a b p (k + 1) hp
      have b2 := zGv a b (p + 1) k hk
      have b3 := qH2 a b p (k + 1)
      have b4 := qH2 a b (p + 1) k
      have b5 := qH2 a b (p + 1) (k + 1)
      generalize hX : at2 a b p (k + 1) = X at *
      generalize hY : at2 a b (p + 1) k = Y at *
      generalize hZ : at2 a b (p + 1) (k + 1) = Z at *
      generalize hV : at2 a b p k = V at *
      have fin : ∀ (v : Nat), v = V → ∀ q (h : q < (R.set k (v : Int)).length), ((k : Int) - 1) < q → (R.set k (v : Int))[q] = ((at2 a b p q : Nat) : Int) := fun v ev q h hq => by
        rw [List.getElem_set]
        split
        · rename_i e; subst e; rw [hV, ev]
        · exact hv q (by simpa using h) (by omega)
      by_cases he : a[p] = b[k]
      · rw [if_pos he] at hstep
        have he' : decide (a[p] = b[k]) = true := decide_eq_true he
        have hcs : (Y ≤ X ∧ X < Z + 1) ∨ (Y ≤ X ∧ X = Z + 1) ∨ (X < Y ∧ Y < Z + 1) ∨ (X < Y ∧ Y = Z + 1) := by omega
        rcases hcs with ⟨c1, c2⟩ | ⟨c1, c2⟩ | ⟨c1, c2⟩ | ⟨c1, c2⟩
        all_goals
          (repeat first | refine zE ?_ | refine zA ?_ | refine zC ?_ | refine zB ?_ | refine zD ?_); refine zJ (fun K hK => ?_); simp (disch := omega) only [push_cast, ↓Int.cast_ofNat_Int, simprocAttr, dW, gC, fL, hx, qCp]; refine hK _ ?_; clear hK K
          refine yB [0, 1, 5, 6, 7, 8] [96, 248] (by simp only [zZ, zR, zP, zQ, zN, zS, zM, zX, zU, Nat.reduceEqDiff, reduceIte]; exact rfl) ?_
          (repeat first | refine zE ?_ | refine zA ?_ | refine zC ?_ | refine zB ?_ | refine zD ?_); refine HW_drw 13 mixed (by kernel_rfl) (fun K hK => ?_); simp (disch := omega) only [push_cast, ↓Int.cast_ofNat_Int, simprocAttr, dW, gC, fL, nX, oY, sU, hy, pP, List.length_set]
          with_reducible refine aB ?_; simp (disch := omega) only [push_cast, ↓Int.cast_ofNat_Int, simprocAttr]
          refine hK _ ?_; clear hK K
          refine yB [0, 1, 5, 6, 7, 8, 59] [96, 248] (by simp only [zZ, zR, zP, zQ, zN, zS, zM, zX, zU, Nat.reduceEqDiff, reduceIte]; exact rfl) ?_
          (repeat first | refine zE ?_ | refine zA ?_ | refine zC ?_ | refine zB ?_ | refine zD ?_)
          first
            | (refine yC rfl ?_)
            | (refine yD rfl ?_
               (repeat first | refine zE ?_ | refine zA ?_ | refine zC ?_ | refine zB ?_ | refine zD ?_); refine zJ (fun K hK => ?_); simp (disch := omega) only [push_cast, ↓Int.cast_ofNat_Int, simprocAttr, dW, gC, fL, nX, oY, sU, hy, qCp, pP, List.length_set, List.set_set]; refine hK _ ?_; clear hK K
               refine yB [0, 1, 5, 6, 7, 8] [96, 248] (by simp only [zZ, zR, zP, zQ, zN, zS, zM, zX, zU, Nat.reduceEqDiff, reduceIte]; exact rfl) ?_)
          (repeat first | refine zE ?_ | refine zA ?_ | refine zC ?_ | refine zB ?_ | refine zD ?_); refine HW_drw 26 mixed (by kernel_rfl) (fun K hK => ?_); simp (disch := omega) only [push_cast, ↓Int.cast_ofNat_Int, simprocAttr, aF, bJ, eY, he', dW, gC, fL, nX, oY, sU, hz, pP, List.length_set]
          with_reducible refine aB ?_; simp (disch := omega) only [push_cast, ↓Int.cast_ofNat_Int, simprocAttr]
          refine hK _ ?_; clear hK K
          refine yB [0, 1, 5, 6, 7, 8, 96] [96, 248] (by simp only [zZ, zR, zP, zQ, zN, zS, zM, zX, zU, Nat.reduceEqDiff, reduceIte]; exact rfl) ?_
          (repeat first | refine zE ?_ | refine zA ?_ | refine zC ?_ | refine zB ?_ | refine zD ?_)
          first
            | (refine yC rfl ?_)
            | (refine yD rfl ?_
               (repeat first | refine zE ?_ | refine zA ?_ | refine zC ?_ | refine zB ?_ | refine zD ?_); refine zJ (fun K hK => ?_); simp (disch := omega) only [push_cast, ↓Int.cast_ofNat_Int, simprocAttr, dW, gC, fL, nX, oY, sU, hz, qCp, pP, List.length_set, List.set_set]; refine hK _ ?_; clear hK K
               refine yB [0, 1, 5, 6, 7, 8] [96, 248] (by simp only [zZ, zR, zP, zQ, zN, zS, zM, zX, zU, Nat.reduceEqDiff, reduceIte]; exact rfl) ?_)
          (repeat first | refine zK ?_ | refine zG ?_ | refine zH ?_ | refine zF rfl ?_ | refine zL ?_ | refine zB ?_ | refine zE ?_ | refine zA ?_ | refine zC ?_ | refine zT ?_ | refine zW ?_)
          (repeat first | refine zE ?_ | refine zA ?_ | refine zC ?_ | refine zB ?_ | refine zD ?_); refine zJ (fun K hK => ?_); simp (disch := omega) only [push_cast, ↓Int.cast_ofNat_Int, simprocAttr]; refine hK _ ?_; clear hK K
          refine zA ⟨((k : Int) - 1, _), rfl, ⟨by show -1 ≤ (k : Int) - 1; omega, by show (k : Int) - 1 < b.length; omega, by simp [hR], fun q h hq => ?_⟩, by show ((k : Int) - 1 + 1).toNat < ((k : Int) + 1).toNat; omega⟩
          first
            | exact fin X (by omega) q h hq
            | exact fin Y (by omega) q h hq
            | exact fin (Z + 1) (by omega) q h hq
      · rw [if_neg he] at hstep
        have he' : decide (a[p] = b[k]) = false := decide_eq_false he
        have hcs : (Y ≤ X) ∨ (X < Y) := by omega
        rcases hcs with c1 | c1
        all_goals
          (repeat first | refine zE ?_ | refine zA ?_ | refine zC ?_ | refine zB ?_ | refine zD ?_); refine zJ (fun K hK => ?_); simp (disch := omega) only [push_cast, ↓Int.cast_ofNat_Int, simprocAttr, dW, gC, fL, hx, qCp]; refine hK _ ?_; clear hK K
          refine yB [0, 1, 5, 6, 7, 8] [96, 248] (by simp only [zZ, zR, zP, zQ, zN, zS, zM, zX, zU, Nat.reduceEqDiff, reduceIte]; exact rfl) ?_
          (repeat first | refine zE ?_ | refine zA ?_ | refine zC ?_ | refine zB ?_ | refine zD ?_); refine HW_drw 13 mixed (by kernel_rfl) (fun K hK => ?_); simp (disch := omega) only [push_cast, ↓Int.cast_ofNat_Int, simprocAttr, dW, gC, fL, nX, oY, sU, hy, pP, List.length_set]
          with_reducible refine aB ?_; simp (disch := omega) only [push_cast, ↓Int.cast_ofNat_Int, simprocAttr]
          refine hK _ ?_; clear hK K
          refine yB [0, 1, 5, 6, 7, 8, 59] [96, 248] (by simp only [zZ, zR, zP, zQ, zN, zS, zM, zX, zU, Nat.reduceEqDiff, reduceIte]; exact rfl) ?_
          (repeat first | refine zE ?_ | refine zA ?_ | refine zC ?_ | refine zB ?_ | refine zD ?_)
          first
            | (refine yC rfl ?_)
            | (refine yD rfl ?_
               refine zJ (fun K hK => ?_); simp (disch := omega) only [push_cast, ↓Int.cast_ofNat_Int, simprocAttr, dW, gC, fL, nX, oY, sU, hy, qCp, pP, List.length_set, List.set_set]; refine hK _ ?_; clear hK K
               refine yB [0, 1, 5, 6, 7, 8] [96, 248] (by simp only [zZ, zR, zP, zQ, zN, zS, zM, zX, zU, Nat.reduceEqDiff, reduceIte]; exact rfl) ?_)
          (repeat first | refine zE ?_ | refine zA ?_ | refine zC ?_ | refine zB ?_ | refine zD ?_); refine HW_drw 26 mixed (by kernel_rfl) (fun K hK => ?_); simp (disch := omega) only [push_cast, ↓Int.cast_ofNat_Int, simprocAttr, aF, bJ, eY, he', dW, gC, fL, nX, oY, sU, hz, pP, List.length_set]
          with_reducible refine aB ?_; simp (disch := omega) only [push_cast, ↓Int.cast_ofNat_Int, simprocAttr]
          refine hK _ ?_; clear hK K
          refine yB [0, 1, 5, 6, 7, 8, 96] [96, 248] (by simp only [zZ, zR, zP, zQ, zN, zS, zM, zX, zU, Nat.reduceEqDiff, reduceIte]; exact rfl) ?_
          (repeat first | refine zE ?_ | refine zA ?_ | refine zC ?_ | refine zB ?_ | refine zD ?_)
          refine yC rfl ?_
          (repeat first | refine zK ?_ | refine zG ?_ | refine zH ?_ | refine zF rfl ?_ | refine zL ?_ | refine zB ?_ | refine zE ?_ | refine zA ?_ | refine zC ?_ | refine zT ?_ | refine zW ?_)
          (repeat first | refine zE ?_ | refine zA ?_ | refine zC ?_ | refine zB ?_ | refine zD ?_); refine zJ (fun K hK => ?_); simp (disch := omega) only [push_cast, ↓Int.cast_ofNat_Int, simprocAttr]; refine hK _ ?_; clear hK K
          refine zA ⟨((k : Int) - 1, _), rfl, ⟨by show -1 ≤ (k : Int) - 1; omega, by show (k : Int) - 1 < b.length; omega, by simp [hR], fun q h hq => ?_⟩, by show ((k : Int) - 1 + 1).toNat < ((k : Int) + 1).toNat; omega⟩
          first
            | exact fin X (by omega) q h hq
            | exact fin Y (by omega) q h hq
    · have hjm : j = -1 := by have : ¬ 0 ≤ j := by simpa using hge2
                              omega
      subst hjm
      have hRp : R = rK a b p := by
        apply List.ext_getElem
        · rw [hR, sF]
        · intro q h1 h2
          rw [hv q h1 (by omega), qDk]
      subst hRp
      refine zT ?_; refine zG ?_; refine zG ?_; refine zH ?_; refine zA ?_
      refine zJ (fun K hK => ?_); simp (disch := omega) only [push_cast, ↓Int.cast_ofNat_Int, simprocAttr, nX, qSw, qSv]; refine hK _ ?_; clear hK K
      refine yB [0, 1, 5, 6] [96] (by simp only [zZ, zR, zP, zQ, zN, zS, zM, zX, zU, Nat.reduceEqDiff, reduceIte]; exact rfl) ?_
      skip
      refine zJ (fun K hK => ?_); simp (disch := omega) only [push_cast, ↓Int.cast_ofNat_Int, simprocAttr]; refine hK _ ?_; clear hK K
      refine zA ⟨(p : Int) - 1, ?_, ⟨by omega, by omega⟩, by omega⟩
      have e3 : ((p : Int) - 1 + 1).toNat = p := by omega
      simp only [zZ, zR, zP, zQ, zN, zS, zM, zX, zU, Nat.reduceEqDiff, reduceIte, e3, vQ a b p (by omega), vQ a b (p + 1) (by omega), hN]
  · have him : i = -1 := by have : ¬ 0 ≤ i := by simpa using hge
                            omega
    subst him
    refine zT ?_; refine zG ?_; refine zG ?_; refine zH ?_; refine zE ?_
    refine zJ (fun K hK => ?_); simp (disch := omega) only [push_cast, ↓Int.cast_ofNat_Int, simprocAttr]; refine hK _ ?_; clear hK K
    refine zA ?_; refine zW ?_
    simp only [yA, yM, yH, yE, aA, aC, yK, yJ, zS, zM, Nat.reduceEqDiff, reduceIte, reduceCtorEq]
    refine lW rfl ?_ ⟨rfl, ?_⟩
    · exact zC0 a b
    · show [(0, Row.sl true 88 1 (xE 0 (pD a b 0)))] = _
      rw [zC1]
end Go.Proofs.YtdfjeokjmigkaaaGreat
