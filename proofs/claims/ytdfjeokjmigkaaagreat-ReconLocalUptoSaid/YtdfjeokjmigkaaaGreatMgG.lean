/-
  merge.Merge, walked.
-/
import Derived.Test.YtdfjeokjmigkaaaGreatMgE
import Derived.Test.YtdfjeokjmigkaaaGreatCat
import Derived.Test.YtdfjeokjmigkaaaGreatJoin
set_option linter.unusedSimpArgs false
set_option linter.unusedVariables false
set_option maxRecDepth 20000
namespace Go.Proofs.YtdfjeokjmigkaaaGreat
open Go Go.Eng Go.RowKit Go.DiffM


def mkA : ByteArray := { data := #[60, 60, 60, 60, 60, 60, 60, 10] }
def mkM : ByteArray := { data := #[61, 61, 61, 61, 61, 61, 61, 10] }
def mkB : ByteArray := { data := #[62, 62, 62, 62, 62, 62, 62, 10] }
def rV (c : Ck ByteArray) : Prop := c.st = true ∨ c.l = c.r ∨ c.b = c.r
instance (c : Ck ByteArray) : Decidable (rV c) := by unfold rV; infer_instance
def ckT (c : Ck ByteArray) : ByteArray := if rV c then cat c.l else if c.b = c.l then cat c.r else ((((mkA ++ cat (gN c.l)) ++ mkM) ++ cat (gN c.r)) ++ mkB)
def ckN (c : Ck ByteArray) : Nat := if rV c then 0 else if c.b = c.l then 0 else 1
def mgT (cs : List (Ck ByteArray)) : ByteArray := cat (cs.map ckT)
def mgN (cs : List (Ck ByteArray)) : Nat := (cs.map ckN).sum
def qUh (x y z : ByteArray) : ByteArray := if qZ x y z ≠ 0 then { data := #[] } else mgT (cC x y z)
def qUi (x y z : ByteArray) : Nat := if qZ x y z ≠ 0 then 0 else mgN (cC x y z)
theorem rU (l : List ByteArray) : (cat (gN l)).size ≤ (cat l).size + 1 := by
 rcases List.eq_nil_or_concat l with rfl | ⟨q, x, rfl⟩
 ·simp [gN]
 ·rw [List.concat_eq_append]
  have : gN (q ++ [x]) = q ++ [qJn x] := by
   unfold gN
   simp [List.set_append]
  rw [this, rW, rW, qN5, qN5, ByteArray.size_append, ByteArray.size_append]
  unfold qJn
  split
  ·omega
  ·rw [ByteArray.size_append]; have : nl.size = 1 := rfl; omega
theorem zEk : mkA.size = 8 := rfl
theorem zEi : mkM.size = 8 := rfl
theorem zEj : mkB.size = 8 := rfl
theorem qSc (c : Ck ByteArray) : (ckT c).size ≤ (cat c.l).size + (cat c.r).size + 26 := by
 unfold ckT
 split
 ·omega
 ·split
  ·omega
  ·simp only [ByteArray.size_append, zEk, zEi, zEj]
   have := rU c.l
   have := rU c.r
   omega
theorem zEl (cs : List (Ck ByteArray)) : (mgT cs).size ≤ (cat (cs.flatMap (·.l))).size + (cat (cs.flatMap (·.r))).size + 26 * cs.length := by
 unfold mgT
 induction cs with
 | nil => simp [cat]
 | cons c r ih =>
  rw [List.map_cons, qSh, List.flatMap_cons, List.flatMap_cons, rW, rW]
  simp only [ByteArray.size_append, List.length_cons]
  have := qSc c
  omega
theorem tF (cs : List (Ck ByteArray)) (c : Ck ByteArray) : mgT (cs ++ [c]) = mgT cs ++ ckT c := by rw [mgT, List.map_append, rW, List.map_singleton, qN5]; rfl
theorem xP (cs : List (Ck ByteArray)) (c : Ck ByteArray) : mgN (cs ++ [c]) = mgN cs + ckN c := by simp [mgN]
theorem zCo {α : Type} {cs : List (Ck α)} (h : ∀ c ∈ cs, zL1 c) : cs.length ≤ (cs.flatMap (·.b)).length + (cs.flatMap (·.l)).length + (cs.flatMap (·.r)).length := by
 induction cs with
 | nil => simp
 | cons c r ih =>
  have h1 := ih fun x hx => h x (by simp [hx])
  have h2 := (h c (by simp)).1
  simp only [List.flatMap_cons, List.length_append, List.length_cons]
  omega
theorem zEm {x y z : ByteArray} (h0 : fV x = 0) (h1 : fV y = 0) (h2 : fV z = 0) : qZ x y z = 0 := by
 rw [qZ, if_neg (by simpa using h0), if_neg (by simpa using h1), h2]
theorem qW6 {x y z : ByteArray} (h0 : fV x = 0) (h1 : fV y = 0) (h2 : fV z = 0) : (cC x y z).length ≤ 1200 := by
 have := zCo (zCp (cV x) (cV y) (cV z))
 rw [qSf, qJp, qJo] at this
 have := gM h0; have := gM h1; have := gM h2
 show (oA (cV x) (cV y) (cV z)).length ≤ 1200
 omega
theorem qHo {cs : List (Ck ByteArray)} (f : Ck ByteArray → List ByteArray) {c : Ck ByteArray} (h : c ∈ cs) : (f c).length ≤ (cs.flatMap f).length ∧ (cat (f c)).size ≤ (cat (cs.flatMap f)).size ∧ (f c).Sublist (cs.flatMap f) := by
 induction cs with
 | nil => simp at h
 | cons d r ih =>
  rw [List.flatMap_cons, rW]
  simp only [ByteArray.size_append, List.length_append]
  rcases List.mem_cons.1 h with rfl | h
  ·exact ⟨by omega, by omega, List.sublist_append_left _ _⟩
  ·obtain ⟨a, b, d⟩ := ih h
   exact ⟨by omega, by omega, d.trans (List.sublist_append_right _ _)⟩
theorem qYf {l : List ByteArray} {x : ByteArray} (h : x ∈ l) : x.size ≤ (cat l).size := by
 induction l with
 | nil => simp at h
 | cons a r ih =>
  rw [qSh, ByteArray.size_append]
  rcases List.mem_cons.1 h with rfl | h
  ·omega
  ·have := ih h; omega
def mgS (cs : List (Ck ByteArray)) (n : Nat) : HS := ⟨[(6, .v (.string (mgT (cs.take n)))), (7, .v (.int .i64 (mgN (cs.take n)))), (22, .own 128), (23, .v (.int .i64 cs.length)), (24, .v (.int .i64 n))], [(128, .sl true 77 4 (cks cs))]⟩
theorem zNd (cs : List (Ck ByteArray)) : mgN cs ≤ cs.length := by
 unfold mgN
 induction cs with
 | nil => simp
 | cons c r ih =>
  simp only [List.map_cons, List.sum_cons, List.length_cons]
  have : ckN c ≤ 1 := by
   unfold ckN
   split
   ·omega
   ·split <;> omega
  omega
set_option maxHeartbeats 8000000 in
theorem zJt (x y z : ByteArray) (hx : x.size ≤ 4294967296) (hy : y.size ≤ 4294967296) (hz : z.size ≤ 4294967296) : HFun Tryz.prog 32 [.v (.string x), .v (.string y), .v (.string z)] (fun h st =>
  h = .tup [.v (.string (qUh x y z)), .v (.int .i64 (qUi x y z)), .v (.int .i64 (qZ x y z))]) := by
 refine fA (N := 76) Tryz.func32 rfl Tryz.ntmps32 Tryz.results32 (by simp) ?_
 refine zE ?_; refine zJ (fun K hK => ?_); simp (disch := omega) only [push_cast, ↓Int.cast_ofNat_Int, simprocAttr]; refine hK _ ?_; clear hK K
 refine zE ?_; refine zJ (fun K hK => ?_); simp (disch := omega) only [push_cast, ↓Int.cast_ofNat_Int, simprocAttr]
 refine hat 128 zTr (zG2 x y z hx hy hz) (.cons (.v _) (.cons (.v _) (.cons (.v _) .nil))) ?_
 rintro _ _ (⟨he, rfl, rfl⟩ | ⟨t0, t1, t2, rfl, rfl⟩)
 ·have e1 : qUh x y z = { data := #[] } := by rw [qUh, if_pos he]
  have e2 : qUi x y z = 0 := by rw [qUi, if_pos he]
  with_reducible refine aE ?_; simp (disch := omega) only [push_cast, ↓Int.cast_ofNat_Int, simprocAttr]
  refine hK _ ?_; clear hK K
  refine zE ?_; refine zE ?_; refine zJ (fun K hK => ?_); simp (disch := omega) only [push_cast, ↓Int.cast_ofNat_Int, simprocAttr]; refine hK _ ?_; clear hK K
  refine zA ?_
  refine yD rfl ?_
  refine zE ?_; refine zJ (fun K hK => ?_); simp (disch := omega) only [push_cast, ↓Int.cast_ofNat_Int, simprocAttr]; refine hK _ ?_; clear hK K
  refine zA ?_; refine zW ?_; refine zK ?_
  simp only [yA, yM, yH, yE, aA, aC, yK, yJ, zS, zM, Nat.reduceEqDiff, reduceIte, reduceCtorEq]
  exact jQ (by rw [e1, e2]; rfl)
 ·have hE := zEm t0 t1 t2
  have e1 : qUh x y z = mgT (cC x y z) := by rw [qUh, if_neg (by simpa using hE)]
  have e2 : qUi x y z = mgN (cC x y z) := by rw [qUi, if_neg (by simpa using hE)]
  have hlen := qW6 t0 t1 t2
  have hsz : ∀ n, (mgT ((cC x y z).take n)).size ≤ y.size + z.size + 31200 := fun n => by
   have h1 := zEl ((cC x y z).take n)
   have h2 : (cat (((cC x y z).take n).flatMap (·.l))).size ≤ y.size := by
    have : cat ((cC x y z).flatMap (·.l)) = y := by rw [show (cC x y z).flatMap (·.l) = cV y from qJp (cV x) (cV y) (cV z), qEa]
    rw [← List.take_append_drop n (cC x y z), List.flatMap_append, rW] at this
    rw [← congrArg ByteArray.size this, ByteArray.size_append]
    omega
   have h3 : (cat (((cC x y z).take n).flatMap (·.r))).size ≤ z.size := by
    have : cat ((cC x y z).flatMap (·.r)) = z := by rw [show (cC x y z).flatMap (·.r) = cV z from qJo (cV x) (cV y) (cV z), qEa]
    rw [← List.take_append_drop n (cC x y z), List.flatMap_append, rW] at this
    rw [← congrArg ByteArray.size this, ByteArray.size_append]
    omega
   have h4 : ((cC x y z).take n).length ≤ 1200 := by rw [List.length_take]; omega
   omega
  have hll : ∀ c ∈ cC x y z, c.b.length ≤ 400 ∧ c.l.length ≤ 400 ∧ c.r.length ≤ 400 ∧ (cat c.l).size ≤ y.size ∧ (cat c.r).size ≤ z.size := fun c hc => by
   have p1 := qHo (·.b) hc
   have p2 := qHo (·.l) hc
   have p3 := qHo (·.r) hc
   rw [show (cC x y z).flatMap (·.b) = cV x from qSf (cV x) (cV y) (cV z)] at p1
   rw [show (cC x y z).flatMap (·.l) = cV y from qJp (cV x) (cV y) (cV z), qEa] at p2
   rw [show (cC x y z).flatMap (·.r) = cV z from qJo (cV x) (cV y) (cV z), qEa] at p3
   have := gM t0; have := gM t1; have := gM t2
   exact ⟨by omega, by omega, by omega, p2.2.1, p3.2.1⟩
  have hfin : qUh x y z = mgT ((cC x y z).take (cC x y z).length) ∧ qUi x y z = mgN ((cC x y z).take (cC x y z).length) := by rw [List.take_length]; exact ⟨e1, e2⟩
  clear e1 e2
  generalize cC x y z = cs at *
  with_reducible refine aE ?_; simp (disch := omega) only [push_cast, ↓Int.cast_ofNat_Int, simprocAttr]
  refine hK _ ?_; clear hK K
  refine zE ?_; refine zE ?_; refine zJ (fun K hK => ?_); simp (disch := omega) only [push_cast, ↓Int.cast_ofNat_Int, simprocAttr]; refine hK _ ?_; clear hK K
  refine zA ?_
  refine yC rfl ?_
  refine zC ?_; refine zE ?_; refine zE ?_
  refine zJ (fun K hK => ?_); simp (disch := omega) only [push_cast, ↓Int.cast_ofNat_Int, simprocAttr, wQ]; refine hK _ ?_; clear hK K
  refine zA ?_; refine zD ?_
  refine dB (mgS cs) (fun n => n ≤ cs.length) (fun n => cs.length - n) [6, 7, 22, 23, 24] [128] 0 (by simp only [zZ, zR, zP, zQ, zN, zS, zM, zX, zU, Nat.reduceEqDiff, reduceIte, mgS]; try rfl) (Nat.zero_le _) ?_
  intro n hn
  simp only [mgS]
  by_cases hlt : n < cs.length
  ·obtain ⟨c, hc⟩ : ∃ c, cs[n] = c := ⟨_, rfl⟩
   have hcm : c ∈ cs := hc ▸ List.getElem_mem hlt
   obtain ⟨b1, b2, b3, b4, b5⟩ := hll c hcm
   have hs1 := hsz n
   have hs2 := hsz (n + 1)
   have hnn := zNd (cs.take n)
   rw [List.length_take] at hnn
   have ht : cs.take (n + 1) = cs.take n ++ [c] := by rw [List.take_succ_eq_append_getElem hlt, hc]
   rw [ht, tF, ByteArray.size_append] at hs2
   have hT := qSc c
   have hg : ∀ d, (cks cs).getD n d = [.v (.bool c.st), .lst true (aQ c.b), .lst true (aQ c.l), .lst true (aQ c.r)] := fun d => by rw [qYd hlt, hc]; rfl
   generalize hTT : mgT (cs.take n) = T at *
   generalize hNN : mgN (cs.take n) = M at *
   cases hst : c.st with
   | true =>
    have hL : rV c := .inl hst
    have eT : ckT c = cat c.l := by rw [ckT, if_pos hL]
    have eN : ckN c = 0 := by rw [ckN, if_pos hL]
    refine zE ?_; refine zJ (fun K hK => ?_); simp (disch := omega) only [push_cast, ↓Int.cast_ofNat_Int, simprocAttr]; refine hK _ ?_; clear hK K
    refine zE ?_
    refine yD rfl ?_
    refine zC ?_; refine zE ?_
    refine zD ?_; refine zE ?_; refine zJ (fun K hK => ?_); simp (disch := omega) only [push_cast, ↓Int.cast_ofNat_Int, simprocAttr, wQ, qN3, hg, hst]; refine hK _ ?_; clear hK K
    refine yB [6, 7, 11, 22, 23, 24] [88, 128] (by simp only [zZ, zR, zP, zQ, zN, zS, zM, zX, zU, Nat.reduceEqDiff, reduceIte]; exact rfl) ?_
    refine zD ?_; refine zE ?_; refine zE ?_; refine zJ (fun K hK => ?_); simp (disch := omega) only [push_cast, ↓Int.cast_ofNat_Int, simprocAttr]; refine hK _ ?_; clear hK K
    refine zA ?_
    refine yD rfl ?_
    refine zC ?_; refine zA ?_
    skip
    refine yD rfl ?_
    refine zJ (fun K hK => ?_); simp (disch := omega) only [push_cast, ↓Int.cast_ofNat_Int, simprocAttr]
    refine bP zCm (qEw c.l (by omega) (by omega)) (.cons (aP (bQ _)) .nil) ?_
    with_reducible refine aE ?_; simp (disch := omega) only [push_cast, ↓Int.cast_ofNat_Int, simprocAttr]
    refine ⟨by first | omega | decide | ((repeat' apply And.intro) <;> first | omega | decide), ?_⟩
    refine hK _ ?_; clear hK K
    refine zB ?_; refine zB ?_; refine zA ?_
    refine zJ (fun K hK => ?_); simp (disch := omega) only [push_cast, ↓Int.cast_ofNat_Int, simprocAttr]; refine hK _ ?_; clear hK K
    refine zA ?_
    refine ⟨n + 1, by simp only [zZ, zR, zP, zQ, zN, zS, zM, zX, zU, Nat.reduceEqDiff, reduceIte, mgS]; rw [ht, tF, xP, hTT, hNN, eT, eN]; try rfl, hlt, by omega⟩
   | false =>
    refine zE ?_; refine zJ (fun K hK => ?_); simp (disch := omega) only [push_cast, ↓Int.cast_ofNat_Int, simprocAttr]; refine hK _ ?_; clear hK K
    refine zE ?_
    refine yD rfl ?_
    refine zC ?_; refine zE ?_
    refine zD ?_; refine zE ?_; refine zJ (fun K hK => ?_); simp (disch := omega) only [push_cast, ↓Int.cast_ofNat_Int, simprocAttr, wQ, qN3, hg, hst]; refine hK _ ?_; clear hK K
    refine yB [6, 7, 11, 22, 23, 24] [88, 128] (by simp only [zZ, zR, zP, zQ, zN, zS, zM, zX, zU, Nat.reduceEqDiff, reduceIte]; exact rfl) ?_
    refine zD ?_; refine zE ?_; refine zE ?_; refine zJ (fun K hK => ?_); simp (disch := omega) only [push_cast, ↓Int.cast_ofNat_Int, simprocAttr]; refine hK _ ?_; clear hK K
    refine zA ?_
    refine yC rfl ?_
    refine zE ?_; refine zJ (fun K hK => ?_); simp (disch := omega) only [push_cast, ↓Int.cast_ofNat_Int, simprocAttr]
    refine bP zPx (qG9 c.l c.r (by omega) (by omega)) (.cons (aP (bQ _)) (.cons (aP (bQ _)) .nil)) ?_
    with_reducible refine aE ?_; simp (disch := omega) only [push_cast, ↓Int.cast_ofNat_Int, simprocAttr]
    refine hK _ ?_; clear hK K
    by_cases hlr : c.l = c.r
    ·have hL : rV c := .inr (.inl hlr)
     have eT : ckT c = cat c.l := by rw [ckT, if_pos hL]
     have eN : ckN c = 0 := by rw [ckN, if_pos hL]
     rw [decide_eq_true hlr]
     refine zA ?_
     refine yD rfl ?_
     refine zC ?_; refine zA ?_
     skip
     refine yD rfl ?_
     refine zJ (fun K hK => ?_); simp (disch := omega) only [push_cast, ↓Int.cast_ofNat_Int, simprocAttr]
     refine bP zCm (qEw c.l (by omega) (by omega)) (.cons (aP (bQ _)) .nil) ?_
     with_reducible refine aE ?_; simp (disch := omega) only [push_cast, ↓Int.cast_ofNat_Int, simprocAttr]
     refine ⟨by first | omega | decide | ((repeat' apply And.intro) <;> first | omega | decide), ?_⟩
     refine hK _ ?_; clear hK K
     refine zB ?_; refine zB ?_; refine zA ?_
     refine zJ (fun K hK => ?_); simp (disch := omega) only [push_cast, ↓Int.cast_ofNat_Int, simprocAttr]; refine hK _ ?_; clear hK K
     refine zA ?_
     refine ⟨n + 1, by simp only [zZ, zR, zP, zQ, zN, zS, zM, zX, zU, Nat.reduceEqDiff, reduceIte, mgS]; rw [ht, tF, xP, hTT, hNN, eT, eN]; try rfl, hlt, by omega⟩
    ·rw [decide_eq_false hlr]
     refine zA ?_
     refine yC rfl ?_
     refine zJ (fun K hK => ?_); simp (disch := omega) only [push_cast, ↓Int.cast_ofNat_Int, simprocAttr]
     refine bP zPx (qG9 c.b c.r (by omega) (by omega)) (.cons (aP (bQ _)) (.cons (aP (bQ _)) .nil)) ?_
     with_reducible refine aE ?_; simp (disch := omega) only [push_cast, ↓Int.cast_ofNat_Int, simprocAttr]
     refine hK _ ?_; clear hK K
     by_cases hbr : c.b = c.r
     ·have hL : rV c := .inr (.inr hbr)
      have eT : ckT c = cat c.l := by rw [ckT, if_pos hL]
      have eN : ckN c = 0 := by rw [ckN, if_pos hL]
      rw [decide_eq_true hbr]
      refine zA ?_
      skip
      refine yD rfl ?_
      refine zJ (fun K hK => ?_); simp (disch := omega) only [push_cast, ↓Int.cast_ofNat_Int, simprocAttr]
      refine bP zCm (qEw c.l (by omega) (by omega)) (.cons (aP (bQ _)) .nil) ?_
      with_reducible refine aE ?_; simp (disch := omega) only [push_cast, ↓Int.cast_ofNat_Int, simprocAttr]
      refine ⟨by first | omega | decide | ((repeat' apply And.intro) <;> first | omega | decide), ?_⟩
      refine hK _ ?_; clear hK K
      refine zB ?_; refine zB ?_; refine zA ?_
      refine zJ (fun K hK => ?_); simp (disch := omega) only [push_cast, ↓Int.cast_ofNat_Int, simprocAttr]; refine hK _ ?_; clear hK K
      refine zA ?_
      refine ⟨n + 1, by simp only [zZ, zR, zP, zQ, zN, zS, zM, zX, zU, Nat.reduceEqDiff, reduceIte, mgS]; rw [ht, tF, xP, hTT, hNN, eT, eN]; try rfl, hlt, by omega⟩
     ·have hL : ¬ rV c := fun h => h.elim (fun h => by rw [hst] at h; cases h) (fun h => h.elim hlr hbr)
      rw [decide_eq_false hbr]
      refine zA ?_
      skip
      refine yC rfl ?_
      refine zE ?_; refine zJ (fun K hK => ?_); simp (disch := omega) only [push_cast, ↓Int.cast_ofNat_Int, simprocAttr]
      refine bP zPx (qG9 c.b c.l (by omega) (by omega)) (.cons (aP (bQ _)) (.cons (aP (bQ _)) .nil)) ?_
      with_reducible refine aE ?_; simp (disch := omega) only [push_cast, ↓Int.cast_ofNat_Int, simprocAttr]
      refine hK _ ?_; clear hK K
      by_cases hbl : c.b = c.l
      ·have eT : ckT c = cat c.r := by rw [ckT, if_neg hL, if_pos hbl]
       have eN : ckN c = 0 := by rw [ckN, if_neg hL, if_pos hbl]
       rw [decide_eq_true hbl]
       refine zA ?_
       refine yD rfl ?_
       refine zJ (fun K hK => ?_); simp (disch := omega) only [push_cast, ↓Int.cast_ofNat_Int, simprocAttr]
       refine bP zCm (qEw c.r (by omega) (by omega)) (.cons (aP (bQ _)) .nil) ?_
       with_reducible refine aE ?_; simp (disch := omega) only [push_cast, ↓Int.cast_ofNat_Int, simprocAttr]
       refine ⟨by first | omega | decide | ((repeat' apply And.intro) <;> first | omega | decide), ?_⟩
       refine hK _ ?_; clear hK K
       refine zB ?_; refine zB ?_; refine zA ?_
       refine zJ (fun K hK => ?_); simp (disch := omega) only [push_cast, ↓Int.cast_ofNat_Int, simprocAttr]; refine hK _ ?_; clear hK K
       refine zA ?_
       refine ⟨n + 1, by simp only [zZ, zR, zP, zQ, zN, zS, zM, zX, zU, Nat.reduceEqDiff, reduceIte, mgS]; rw [ht, tF, xP, hTT, hNN, eT, eN]; try rfl, hlt, by omega⟩
      ·have eT : ckT c = ((((mkA ++ cat (gN c.l)) ++ mkM) ++ cat (gN c.r)) ++ mkB) := by rw [ckT, if_neg hL, if_neg hbl]
       have eN : ckN c = 1 := by rw [ckN, if_neg hL, if_neg hbl]
       rw [decide_eq_false hbl]
       have k1 := qR9 c.l (by omega) (fun x hx => by have := qYf hx; omega)
       have k2 := qR9 c.r (by omega) (fun x hx => by have := qYf hx; omega)
       have z1 := rU c.l
       have z2 := rU c.r
       have j1 := qEw (gN c.l) (by rw [qFu]; omega) (by omega)
       have j2 := qEw (gN c.r) (by rw [qFu]; omega) (by omega)
       refine zA ?_
       refine yC rfl ?_
       refine zE ?_; refine zJ (fun K hK => ?_); simp (disch := omega) only [push_cast, ↓Int.cast_ofNat_Int, simprocAttr]; refine hK _ ?_; clear hK K
       refine yB [6, 7, 11, 22, 23, 24] [88, 128] (by simp only [zZ, zR, zP, zQ, zN, zS, zM, zX, zU, Nat.reduceEqDiff, reduceIte]; exact rfl) ?_
       have sA : ({ data := #[60, 60, 60, 60, 60, 60, 60, 10] } : ByteArray).size = 8 := rfl
       have sM : ({ data := #[61, 61, 61, 61, 61, 61, 61, 10] } : ByteArray).size = 8 := rfl
       have sB : ({ data := #[62, 62, 62, 62, 62, 62, 62, 10] } : ByteArray).size = 8 := rfl
       refine zHc 13 mixed (by kernel_rfl) (fun K hK K1 hK1 => ?_); simp (disch := omega) only [push_cast, ↓Int.cast_ofNat_Int, simprocAttr]
       refine qFn zRo k1 (.cons (aP (bQ _)) .nil) ?_
       with_reducible refine aE ?_; simp (disch := omega) only [push_cast, ↓Int.cast_ofNat_Int, simprocAttr]
       refine zL8 zCm j1 (.cons (aP (bQ _)) .nil) ?_
       with_reducible refine aE ?_; simp (disch := omega) only [push_cast, ↓Int.cast_ofNat_Int, simprocAttr, sA, sM, sB, ByteArray.size_append]
       refine ⟨by omega, by omega, ?_⟩
       refine qFn zRo k2 (.cons (aP (bQ _)) .nil) ?_
       with_reducible refine aE ?_; simp (disch := omega) only [push_cast, ↓Int.cast_ofNat_Int, simprocAttr]
       refine zL8 zCm j2 (.cons (aP (bQ _)) .nil) ?_
       with_reducible refine aE ?_; simp (disch := omega) only [push_cast, ↓Int.cast_ofNat_Int, simprocAttr, sA, sM, sB, ByteArray.size_append]
       refine ⟨by omega, by omega, ?_⟩
       refine hK1 _ ?_; (try clear hK1 K1); with_reducible refine aE ?_; simp (disch := omega) only [push_cast, ↓Int.cast_ofNat_Int, simprocAttr, sA, sM, sB, ByteArray.size_append]
       refine ⟨by omega, ?_⟩
       refine hK _ ?_; clear hK K
       refine zB ?_; refine zB ?_; refine zA ?_
       refine zJ (fun K hK => ?_); simp (disch := omega) only [push_cast, ↓Int.cast_ofNat_Int, simprocAttr]; refine hK _ ?_; clear hK K
       refine zA ?_
       refine ⟨n + 1, by simp only [zZ, zR, zP, zQ, zN, zS, zM, zX, zU, Nat.reduceEqDiff, reduceIte, mgS]; rw [ht, tF, xP, hTT, hNN, eT, eN]; try rfl, hlt, by omega⟩
  ·have hne : n = cs.length := by omega
   subst hne
   refine zE ?_; refine zJ (fun K hK => ?_); simp (disch := omega) only [push_cast, ↓Int.cast_ofNat_Int, simprocAttr, wQ]; refine hK _ ?_; clear hK K
   refine zE ?_
   refine yC rfl ?_
   refine zT ?_; refine zG ?_; refine zG ?_; refine zH ?_; refine zE ?_
   refine zJ (fun K hK => ?_); simp (disch := omega) only [push_cast, ↓Int.cast_ofNat_Int, simprocAttr]; refine hK _ ?_; clear hK K
   refine zA ?_; refine zW ?_
   simp only [yA, yM, yH, yE, aA, aC, yK, yJ, zS, zM, Nat.reduceEqDiff, reduceIte, reduceCtorEq]
   exact jQ (by rw [hfin.1, hfin.2, hE])
end Go.Proofs.YtdfjeokjmigkaaaGreat
