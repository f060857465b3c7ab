/-
  merge.Merge, walked.
-/
import Derived.Test.YtdfjeokjmigkaaaGreatMgE
import Derived.Test.YtdfjeokjmigkaaaGreatCat
import Derived.Test.YtdfjeokjmigkaaaGreatJoin
set_option linter.unusedSimpArgs false
set_option linter.unusedVariables false
set_option maxRecDepth 20000
namespace Go.Proofs.YtdfjeokjmigkaaaGreat
open Go Go.Eng Go.RowKit Go.DiffM


def mkA : ByteArray := { data := #[60, 60, 60, 60, 60, 60, 60, 10] }
def mkM : ByteArray := { data := #[61, 61, 61, 61, 61, 61, 61, 10] }
def mkB : ByteArray := { data := #[62, 62, 62, 62, 62, 62, 62, 10] }
def oK (c : Ck ByteArray) : Prop := c.st = true ∨ c.l = c.r ∨ c.b = c.r
instance (c : Ck ByteArray) : Decidable (oK c) := by unfold oK; infer_instance
def ckT (c : Ck ByteArray) : ByteArray := if oK c then cat c.l else if c.b = c.l then cat c.r else ((((mkA ++ cat (iF c.l)) ++ mkM) ++ cat (iF c.r)) ++ mkB)
def ckN (c : Ck ByteArray) : Nat := if oK c then 0 else if c.b = c.l then 0 else 1
def mgT (cs : List (Ck ByteArray)) : ByteArray := cat (cs.map ckT)
def mgN (cs : List (Ck ByteArray)) : Nat := (cs.map ckN).sum
def qJo (x y z : ByteArray) : ByteArray := if mK x y z ≠ 0 then { data := #[] } else mgT (bG x y z)
def qJp (x y z : ByteArray) : Nat := if mK x y z ≠ 0 then 0 else mgN (bG x y z)
theorem tQ (l : List ByteArray) : (cat (iF l)).size ≤ (cat l).size + 1 := by
 rcases List.eq_nil_or_concat l with rfl | ⟨q, x, rfl⟩
 ·simp [iF]
 ·rw [List.concat_eq_append]
  have : iF (q ++ [x]) = q ++ [qKr x] := by
   unfold iF
   simp [List.set_append]
  rw [this, tR, tR, qQm, qQm, ByteArray.size_append, ByteArray.size_append]
  unfold qKr
  split
  ·omega
  ·rw [ByteArray.size_append]; have : nl.size = 1 := rfl; omega
theorem zGa : mkA.size = 8 := rfl
theorem zF8 : mkM.size = 8 := rfl
theorem zF9 : mkB.size = 8 := rfl
theorem qTs (c : Ck ByteArray) : (ckT c).size ≤ (cat c.l).size + (cat c.r).size + 26 := by
 unfold ckT
 split
 ·omega
 ·split
  ·omega
  ·simp only [ByteArray.size_append, zGa, zF8, zF9]
   have := tQ c.l
   have := tQ c.r
   omega
theorem zGb (cs : List (Ck ByteArray)) : (mgT cs).size ≤ (cat (cs.flatMap (·.l))).size + (cat (cs.flatMap (·.r))).size + 26 * cs.length := by
 unfold mgT
 induction cs with
 | nil => simp [cat]
 | cons c r ih =>
  rw [List.map_cons, qTw, List.flatMap_cons, List.flatMap_cons, tR, tR]
  simp only [ByteArray.size_append, List.length_cons]
  have := qTs c
  omega
theorem uV (cs : List (Ck ByteArray)) (c : Ck ByteArray) : mgT (cs ++ [c]) = mgT cs ++ ckT c := by rw [mgT, List.map_append, tR, List.map_singleton, qQm]; rfl
theorem qAs (cs : List (Ck ByteArray)) (c : Ck ByteArray) : mgN (cs ++ [c]) = mgN cs + ckN c := by simp [mgN]
theorem zEc {α : Type} {cs : List (Ck α)} (h : ∀ c ∈ cs, qY2 c) : cs.length ≤ (cs.flatMap (·.b)).length + (cs.flatMap (·.l)).length + (cs.flatMap (·.r)).length := by
 induction cs with
 | nil => simp
 | cons c r ih =>
  have h1 := ih fun x hx => h x (by simp [hx])
  have h2 := (h c (by simp)).1
  simp only [List.flatMap_cons, List.length_append, List.length_cons]
  omega
theorem zGd {x y z : ByteArray} (h0 : eG x = 0) (h1 : eG y = 0) (h2 : eG z = 0) : mK x y z = 0 := by
 rw [mK, if_neg (by simpa using h0), if_neg (by simpa using h1), h2]
theorem qYq {x y z : ByteArray} (h0 : eG x = 0) (h1 : eG y = 0) (h2 : eG z = 0) : (bG x y z).length ≤ 1200 := by
 have := zEc (qM4 (dB x) (dB y) (dB z))
 rw [qTv, qKt, qKs] at this
 have := iB h0; have := iB h1; have := iB h2
 show (lV (dB x) (dB y) (dB z)).length ≤ 1200
 omega
theorem qJr {cs : List (Ck ByteArray)} (f : Ck ByteArray → List ByteArray) {c : Ck ByteArray} (h : c ∈ cs) : (f c).length ≤ (cs.flatMap f).length ∧ (cat (f c)).size ≤ (cat (cs.flatMap f)).size ∧ (f c).Sublist (cs.flatMap f) := by
 induction cs with
 | nil => simp at h
 | cons d r ih =>
  rw [List.flatMap_cons, tR]
  simp only [ByteArray.size_append, List.length_append]
  rcases List.mem_cons.1 h with rfl | h
  ·exact ⟨by omega, by omega, List.sublist_append_left _ _⟩
  ·obtain ⟨a, b, d⟩ := ih h
   exact ⟨by omega, by omega, d.trans (List.sublist_append_right _ _)⟩
theorem qZ5 {l : List ByteArray} {x : ByteArray} (h : x ∈ l) : x.size ≤ (cat l).size := by
 induction l with
 | nil => simp at h
 | cons a r ih =>
  rw [qTw, ByteArray.size_append]
  rcases List.mem_cons.1 h with rfl | h
  ·omega
  ·have := ih h; omega
def mgS (cs : List (Ck ByteArray)) (n : Nat) : HS := ⟨[(6, .v (.string (mgT (cs.take n)))), (7, .v (.int .i64 (mgN (cs.take n)))), (22, .own 128), (23, .v (.int .i64 cs.length)), (24, .v (.int .i64 n))], [(128, .sl true 77 4 (cks cs))]⟩
theorem zQa (cs : List (Ck ByteArray)) : mgN cs ≤ cs.length := by
 unfold mgN
 induction cs with
 | nil => simp
 | cons c r ih =>
  simp only [List.map_cons, List.sum_cons, List.length_cons]
  have : ckN c ≤ 1 := by
   unfold ckN
   split
   ·omega
   ·split <;> omega
  omega
set_option maxHeartbeats 8000000 in
theorem zLl (x y z : ByteArray) (hx : x.size ≤ 4294967296) (hy : y.size ≤ 4294967296) (hz : z.size ≤ 4294967296) : HFun Tryz.prog 32 [.v (.string x), .v (.string y), .v (.string z)] (fun h st =>
  h = .tup [.v (.string (qJo x y z)), .v (.int .i64 (qJp x y z)), .v (.int .i64 (mK x y z))]) := by
 refine eM (N := 76) Tryz.func32 rfl Tryz.ntmps32 Tryz.results32 (by simp) ?_
 refine zE ?_; refine zJ (fun K hK => ?_); simp (disch := omega) only [push_cast, ↓Int.cast_ofNat_Int, simprocAttr]; refine hK _ ?_; clear hK K
 refine zE ?_; refine zJ (fun K hK => ?_); simp (disch := omega) only [push_cast, ↓Int.cast_ofNat_Int, simprocAttr]
 refine hat 128 zVk (zJt x y z hx hy hz) (.cons (.v _) (.cons (.v _) (.cons (.v _) .nil))) ?_
 rintro _ _ (⟨he, rfl, rfl⟩ | ⟨t0, t1, t2, rfl, rfl⟩)
 ·have e1 : qJo x y z = { data := #[] } := by rw [qJo, if_pos he]
  have e2 : qJp x y z = 0 := by rw [qJp, if_pos he]
  with_reducible refine aC ?_; simp (disch := omega) only [push_cast, ↓Int.cast_ofNat_Int, simprocAttr]
  refine hK _ ?_; clear hK K
  refine zE ?_; refine zE ?_; refine zJ (fun K hK => ?_); simp (disch := omega) only [push_cast, ↓Int.cast_ofNat_Int, simprocAttr]; refine hK _ ?_; clear hK K
  refine zA ?_
  refine yD rfl ?_
  refine zE ?_; refine zJ (fun K hK => ?_); simp (disch := omega) only [push_cast, ↓Int.cast_ofNat_Int, simprocAttr]; refine hK _ ?_; clear hK K
  refine zA ?_; refine zW ?_; refine zK ?_
  simp only [yA, yM, yH, yE, aA, aD, yK, yJ, zS, zM, Nat.reduceEqDiff, reduceIte, reduceCtorEq]
  exact kP (by rw [e1, e2]; rfl)
 ·have hE := zGd t0 t1 t2
  have e1 : qJo x y z = mgT (bG x y z) := by rw [qJo, if_neg (by simpa using hE)]
  have e2 : qJp x y z = mgN (bG x y z) := by rw [qJp, if_neg (by simpa using hE)]
  have hlen := qYq t0 t1 t2
  have hsz : ∀ n, (mgT ((bG x y z).take n)).size ≤ y.size + z.size + 31200 := fun n => by
   have h1 := zGb ((bG x y z).take n)
   have h2 : (cat (((bG x y z).take n).flatMap (·.l))).size ≤ y.size := by
    have : cat ((bG x y z).flatMap (·.l)) = y := by rw [show (bG x y z).flatMap (·.l) = dB y from qKt (dB x) (dB y) (dB z), qE8]
    rw [← List.take_append_drop n (bG x y z), List.flatMap_append, tR] at this
    rw [← congrArg ByteArray.size this, ByteArray.size_append]
    omega
   have h3 : (cat (((bG x y z).take n).flatMap (·.r))).size ≤ z.size := by
    have : cat ((bG x y z).flatMap (·.r)) = z := by rw [show (bG x y z).flatMap (·.r) = dB z from qKs (dB x) (dB y) (dB z), qE8]
    rw [← List.take_append_drop n (bG x y z), List.flatMap_append, tR] at this
    rw [← congrArg ByteArray.size this, ByteArray.size_append]
    omega
   have h4 : ((bG x y z).take n).length ≤ 1200 := by rw [List.length_take]; omega
   omega
  have hll : ∀ c ∈ bG x y z, c.b.length ≤ 400 ∧ c.l.length ≤ 400 ∧ c.r.length ≤ 400 ∧ (cat c.l).size ≤ y.size ∧ (cat c.r).size ≤ z.size := fun c hc => by
   have p1 := qJr (·.b) hc
   have p2 := qJr (·.l) hc
   have p3 := qJr (·.r) hc
   rw [show (bG x y z).flatMap (·.b) = dB x from qTv (dB x) (dB y) (dB z)] at p1
   rw [show (bG x y z).flatMap (·.l) = dB y from qKt (dB x) (dB y) (dB z), qE8] at p2
   rw [show (bG x y z).flatMap (·.r) = dB z from qKs (dB x) (dB y) (dB z), qE8] at p3
   have := iB t0; have := iB t1; have := iB t2
   exact ⟨by omega, by omega, by omega, p2.2.1, p3.2.1⟩
  have hfin : qJo x y z = mgT ((bG x y z).take (bG x y z).length) ∧ qJp x y z = mgN ((bG x y z).take (bG x y z).length) := by rw [List.take_length]; exact ⟨e1, e2⟩
  clear e1 e2
  generalize bG x y z = cs at *
  with_reducible refine aC ?_; simp (disch := omega) only [push_cast, ↓Int.cast_ofNat_Int, simprocAttr]
  refine hK _ ?_; clear hK K
  refine zE ?_; refine zE ?_; refine zJ (fun K hK => ?_); simp (disch := omega) only [push_cast, ↓Int.cast_ofNat_Int, simprocAttr]; refine hK _ ?_; clear hK K
  refine zA ?_
  refine yC rfl ?_
  refine zC ?_; refine zE ?_; refine zE ?_
  refine zJ (fun K hK => ?_); simp (disch := omega) only [push_cast, ↓Int.cast_ofNat_Int, simprocAttr, xY]; refine hK _ ?_; clear hK K
  refine zA ?_; refine zD ?_
  refine cQ (mgS cs) (fun n => n ≤ cs.length) (fun n => cs.length - n) [6, 7, 22, 23, 24] [128] 0 (by simp only [zZ, zR, zP, zQ, zN, zS, zM, zX, zU, Nat.reduceEqDiff, reduceIte, mgS]; try rfl) (Nat.zero_le _) ?_
  intro n hn
  simp only [mgS]
  by_cases hlt : n < cs.length
  ·obtain ⟨c, hc⟩ : ∃ c, cs[n] = c := ⟨_, rfl⟩
   have hcm : c ∈ cs := hc ▸ List.getElem_mem hlt
   obtain ⟨b1, b2, b3, b4, b5⟩ := hll c hcm
   have hs1 := hsz n
   have hs2 := hsz (n + 1)
   have hnn := zQa (cs.take n)
   rw [List.length_take] at hnn
   have ht : cs.take (n + 1) = cs.take n ++ [c] := by rw [List.take_succ_eq_append_getElem hlt, hc]
   rw [ht, uV, ByteArray.size_append] at hs2
   have hT := qTs c
   have hg : ∀ d, (cks cs).getD n d = [.v (.bool c.st), .lst true (aR c.b), .lst true (aR c.l), .lst true (aR c.r)] := fun d => by rw [qZ3 hlt, hc]; rfl
   generalize hTT : mgT (cs.take n) = T at *
   generalize hNN : mgN (cs.take n) = M at *
   cases hst : c.st with
   | true =>
    have hL : oK c := .inl hst
    have eT : ckT c = cat c.l := by rw [ckT, if_pos hL]
    have eN : ckN c = 0 := by rw [ckN, if_pos hL]
    refine zE ?_; refine zJ (fun K hK => ?_); simp (disch := omega) only [push_cast, ↓Int.cast_ofNat_Int, simprocAttr]; refine hK _ ?_; clear hK K
    refine zE ?_
    refine yD rfl ?_
    refine zC ?_; refine zE ?_
    refine zD ?_; refine zE ?_; refine zJ (fun K hK => ?_); simp (disch := omega) only [push_cast, ↓Int.cast_ofNat_Int, simprocAttr, xY, qQk, hg, hst]; refine hK _ ?_; clear hK K
    refine yB [6, 7, 11, 22, 23, 24] [88, 128] (by simp only [zZ, zR, zP, zQ, zN, zS, zM, zX, zU, Nat.reduceEqDiff, reduceIte]; exact rfl) ?_
    refine zD ?_; refine zE ?_; refine zE ?_; refine zJ (fun K hK => ?_); simp (disch := omega) only [push_cast, ↓Int.cast_ofNat_Int, simprocAttr]; refine hK _ ?_; clear hK K
    refine zA ?_
    refine yD rfl ?_
    refine zC ?_; refine zA ?_
    skip
    refine yD rfl ?_
    refine zJ (fun K hK => ?_); simp (disch := omega) only [push_cast, ↓Int.cast_ofNat_Int, simprocAttr]
    refine aY zD8 (qFx c.l (by omega) (by omega)) (.cons (aK (bU _)) .nil) ?_
    with_reducible refine aC ?_; simp (disch := omega) only [push_cast, ↓Int.cast_ofNat_Int, simprocAttr]
    refine ⟨by first | omega | decide | ((repeat' apply And.intro) <;> first | omega | decide), ?_⟩
    refine hK _ ?_; clear hK K
    refine zB ?_; refine zB ?_; refine zA ?_
    refine zJ (fun K hK => ?_); simp (disch := omega) only [push_cast, ↓Int.cast_ofNat_Int, simprocAttr]; refine hK _ ?_; clear hK K
    refine zA ?_
    refine ⟨n + 1, by simp only [zZ, zR, zP, zQ, zN, zS, zM, zX, zU, Nat.reduceEqDiff, reduceIte, mgS]; rw [ht, uV, qAs, hTT, hNN, eT, eN]; try rfl, hlt, by omega⟩
   | false =>
    refine zE ?_; refine zJ (fun K hK => ?_); simp (disch := omega) only [push_cast, ↓Int.cast_ofNat_Int, simprocAttr]; refine hK _ ?_; clear hK K
    refine zE ?_
    refine yD rfl ?_
    refine zC ?_; refine zE ?_
    refine zD ?_; refine zE ?_; refine zJ (fun K hK => ?_); simp (disch := omega) only [push_cast, ↓Int.cast_ofNat_Int, simprocAttr, xY, qQk, hg, hst]; refine hK _ ?_; clear hK K
    refine yB [6, 7, 11, 22, 23, 24] [88, 128] (by simp only [zZ, zR, zP, zQ, zN, zS, zM, zX, zU, Nat.reduceEqDiff, reduceIte]; exact rfl) ?_
    refine zD ?_; refine zE ?_; refine zE ?_; refine zJ (fun K hK => ?_); simp (disch := omega) only [push_cast, ↓Int.cast_ofNat_Int, simprocAttr]; refine hK _ ?_; clear hK K
    refine zA ?_
    refine yC rfl ?_
    refine zE ?_; refine zJ (fun K hK => ?_); simp (disch := omega) only [push_cast, ↓Int.cast_ofNat_Int, simprocAttr]
    refine aY zRt (qH8 c.l c.r (by omega) (by omega)) (.cons (aK (bU _)) (.cons (aK (bU _)) .nil)) ?_
    with_reducible refine aC ?_; simp (disch := omega) only [push_cast, ↓Int.cast_ofNat_Int, simprocAttr]
    refine hK _ ?_; clear hK K
    by_cases hlr : c.l = c.r
    ·have hL : oK c := .inr (.inl hlr)
     have eT : ckT c = cat c.l := by rw [ckT, if_pos hL]
     have eN : ckN c = 0 := by rw [ckN, if_pos hL]
     rw [decide_eq_true hlr]
     refine zA ?_
     refine yD rfl ?_
     refine zC ?_; refine zA ?_
     skip
     refine yD rfl ?_
     refine zJ (fun K hK => ?_); simp (disch := omega) only [push_cast, ↓Int.cast_ofNat_Int, simprocAttr]
     refine aY zD8 (qFx c.l (by omega) (by omega)) (.cons (aK (bU _)) .nil) ?_
     with_reducible refine aC ?_; simp (disch := omega) only [push_cast, ↓Int.cast_ofNat_Int, simprocAttr]
     refine ⟨by first | omega | decide | ((repeat' apply And.intro) <;> first | omega | decide), ?_⟩
     refine hK _ ?_; clear hK K
     refine zB ?_; refine zB ?_; refine zA ?_
     refine zJ (fun K hK => ?_); simp (disch := omega) only [push_cast, ↓Int.cast_ofNat_Int, simprocAttr]; refine hK _ ?_; clear hK K
     refine zA ?_
     refine ⟨n + 1, by simp only [zZ, zR, zP, zQ, zN, zS, zM, zX, zU, Nat.reduceEqDiff, reduceIte, mgS]; rw [ht, uV, qAs, hTT, hNN, eT, eN]; try rfl, hlt, by omega⟩
    ·rw [decide_eq_false hlr]
     refine zA ?_
     refine yC rfl ?_
     refine zJ (fun K hK => ?_); simp (disch := omega) only [push_cast, ↓Int.cast_ofNat_Int, simprocAttr]
     refine aY zRt (qH8 c.b c.r (by omega) (by omega)) (.cons (aK (bU _)) (.cons (aK (bU _)) .nil)) ?_
     with_reducible refine aC ?_; simp (disch := omega) only [push_cast, ↓Int.cast_ofNat_Int, simprocAttr]
     refine hK _ ?_; clear hK K
     by_cases hbr : c.b = c.r
     ·have hL : oK c := .inr (.inr hbr)
      have eT : ckT c = cat c.l := by rw [ckT, if_pos hL]
      have eN : ckN c = 0 := by rw [ckN, if_pos hL]
      rw [decide_eq_true hbr]
      refine zA ?_
      skip
      refine yD rfl ?_
      refine zJ (fun K hK => ?_); simp (disch := omega) only [push_cast, ↓Int.cast_ofNat_Int, simprocAttr]
      refine aY zD8 (qFx c.l (by omega) (by omega)) (.cons (aK (bU _)) .nil) ?_
      with_reducible refine aC ?_; simp (disch := omega) only [push_cast, ↓Int.cast_ofNat_Int, simprocAttr]
      refine ⟨by first | omega | decide | ((repeat' apply And.intro) <;> first | omega | decide), ?_⟩
      refine hK _ ?_; clear hK K
      refine zB ?_; refine zB ?_; refine zA ?_
      refine zJ (fun K hK => ?_); simp (disch := omega) only [push_cast, ↓Int.cast_ofNat_Int, simprocAttr]; refine hK _ ?_; clear hK K
      refine zA ?_
      refine ⟨n + 1, by simp only [zZ, zR, zP, zQ, zN, zS, zM, zX, zU, Nat.reduceEqDiff, reduceIte, mgS]; rw [ht, uV, qAs, hTT, hNN, eT, eN]; try rfl, hlt, by omega⟩
     ·have hL : ¬ oK c := fun h => h.elim (fun h => by rw [hst] at h; cases h) (fun h => h.elim hlr hbr)
      rw [decide_eq_false hbr]
      refine zA ?_
      skip
      refine yC rfl ?_
      refine zE ?_; refine zJ (fun K hK => ?_); simp (disch := omega) only [push_cast, ↓Int.cast_ofNat_Int, simprocAttr]
      refine aY zRt (qH8 c.b c.l (by omega) (by omega)) (.cons (aK (bU _)) (.cons (aK (bU _)) .nil)) ?_
      with_reducible refine aC ?_; simp (disch := omega) only [push_cast, ↓Int.cast_ofNat_Int, simprocAttr]
      refine hK _ ?_; clear hK K
      by_cases hbl : c.b = c.l
      ·have eT : ckT c = cat c.r := by rw [ckT, if_neg hL, if_pos hbl]
       have eN : ckN c = 0 := by rw [ckN, if_neg hL, if_pos hbl]
       rw [decide_eq_true hbl]
       refine zA ?_
       refine yD rfl ?_
       refine zJ (fun K hK => ?_); simp (disch := omega) only [push_cast, ↓Int.cast_ofNat_Int, simprocAttr]
       refine aY zD8 (qFx c.r (by omega) (by omega)) (.cons (aK (bU _)) .nil) ?_
       with_reducible refine aC ?_; simp (disch := omega) only [push_cast, ↓Int.cast_ofNat_Int, simprocAttr]
       refine ⟨by first | omega | decide | ((repeat' apply And.intro) <;> first | omega | decide), ?_⟩
       refine hK _ ?_; clear hK K
       refine zB ?_; refine zB ?_; refine zA ?_
       refine zJ (fun K hK => ?_); simp (disch := omega) only [push_cast, ↓Int.cast_ofNat_Int, simprocAttr]; refine hK _ ?_; clear hK K
       refine zA ?_
       refine ⟨n + 1, by simp only [zZ, zR, zP, zQ, zN, zS, zM, zX, zU, Nat.reduceEqDiff, reduceIte, mgS]; rw [ht, uV, qAs, hTT, hNN, eT, eN]; try rfl, hlt, by omega⟩
      ·have eT : ckT c = ((((mkA ++ cat (iF c.l)) ++ mkM) ++ cat (iF c.r)) ++ mkB) := by rw [ckT, if_neg hL, if_neg hbl]
       have eN : ckN c = 1 := by rw [ckN, if_neg hL, if_neg hbl]
       rw [decide_eq_false hbl]
       have k1 := qTp c.l (by omega) (fun x hx => by have := qZ5 hx; omega)
       have k2 := qTp c.r (by omega) (fun x hx => by have := qZ5 hx; omega)
       have z1 := tQ c.l
       have z2 := tQ c.r
       have j1 := qFx (iF c.l) (by rw [qGu]; omega) (by omega)
       have j2 := qFx (iF c.r) (by rw [qGu]; omega) (by omega)
       refine zA ?_
       refine yC rfl ?_
       refine zE ?_; refine zJ (fun K hK => ?_); simp (disch := omega) only [push_cast, ↓Int.cast_ofNat_Int, simprocAttr]; refine hK _ ?_; clear hK K
       refine yB [6, 7, 11, 22, 23, 24] [88, 128] (by simp only [zZ, zR, zP, zQ, zN, zS, zM, zX, zU, Nat.reduceEqDiff, reduceIte]; exact rfl) ?_
       have sA : ({ data := #[60, 60, 60, 60, 60, 60, 60, 10] } : ByteArray).size = 8 := rfl
       have sM : ({ data := #[61, 61, 61, 61, 61, 61, 61, 10] } : ByteArray).size = 8 := rfl
       have sB : ({ data := #[62, 62, 62, 62, 62, 62, 62, 10] } : ByteArray).size = 8 := rfl
       refine zJ3 13 mixed (by kernel_rfl) (fun K hK K1 hK1 => ?_); simp (disch := omega) only [push_cast, ↓Int.cast_ofNat_Int, simprocAttr]
       refine qGn zTj k1 (.cons (aK (bU _)) .nil) ?_
       with_reducible refine aC ?_; simp (disch := omega) only [push_cast, ↓Int.cast_ofNat_Int, simprocAttr]
       refine zN1 zD8 j1 (.cons (aK (bU _)) .nil) ?_
       with_reducible refine aC ?_; simp (disch := omega) only [push_cast, ↓Int.cast_ofNat_Int, simprocAttr, sA, sM, sB, ByteArray.size_append]
       refine ⟨by omega, by omega, ?_⟩
       refine qGn zTj k2 (.cons (aK (bU _)) .nil) ?_
       with_reducible refine aC ?_; simp (disch := omega) only [push_cast, ↓Int.cast_ofNat_Int, simprocAttr]
       refine zN1 zD8 j2 (.cons (aK (bU _)) .nil) ?_
       with_reducible refine aC ?_; simp (disch := omega) only [push_cast, ↓Int.cast_ofNat_Int, simprocAttr, sA, sM, sB, ByteArray.size_append]
       refine ⟨by omega, by omega, ?_⟩
       refine hK1 _ ?_; (try clear hK1 K1); with_reducible refine aC ?_; simp (disch := omega) only [push_cast, ↓Int.cast_ofNat_Int, simprocAttr, sA, sM, sB, ByteArray.size_append]
       refine ⟨by omega, ?_⟩
       refine hK _ ?_; clear hK K
       refine zB ?_; refine zB ?_; refine zA ?_
       refine zJ (fun K hK => ?_); simp (disch := omega) only [push_cast, ↓Int.cast_ofNat_Int, simprocAttr]; refine hK _ ?_; clear hK K
       refine zA ?_
       refine ⟨n + 1, by simp only [zZ, zR, zP, zQ, zN, zS, zM, zX, zU, Nat.reduceEqDiff, reduceIte, mgS]; rw [ht, uV, qAs, hTT, hNN, eT, eN]; try rfl, hlt, by omega⟩
  ·have hne : n = cs.length := by omega
   subst hne
   refine zE ?_; refine zJ (fun K hK => ?_); simp (disch := omega) only [push_cast, ↓Int.cast_ofNat_Int, simprocAttr, xY]; refine hK _ ?_; clear hK K
   refine zE ?_
   refine yC rfl ?_
   refine zT ?_; refine zG ?_; refine zG ?_; refine zH ?_; refine zE ?_
   refine zJ (fun K hK => ?_); simp (disch := omega) only [push_cast, ↓Int.cast_ofNat_Int, simprocAttr]; refine hK _ ?_; clear hK K
   refine zA ?_; refine zW ?_
   simp only [yA, yM, yH, yE, aA, aD, yK, yJ, zS, zM, Nat.reduceEqDiff, reduceIte, reduceCtorEq]
   exact kP (by rw [hfin.1, hfin.2, hE])
end Go.Proofs.YtdfjeokjmigkaaaGreat
