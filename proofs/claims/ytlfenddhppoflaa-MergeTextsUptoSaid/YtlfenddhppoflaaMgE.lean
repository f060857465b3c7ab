/- What the walk of the law stands on. -/
import Derived.Test.YtlfenddhppoflaaMgD
import Derived.Test.YtlfenddhppoflaaLtx
set_option linter.unusedSimpArgs false
set_option linter.unusedVariables false
set_option maxRecDepth 20000
namespace Go.Proofs.Ytlfenddhppoflaa
open Go Go.Eng Go.RowKit Go.DiffM


def mgErr (x y z : ByteArray) : Int := if textS x ≠ 0 then textS x else if textS y ≠ 0 then textS y else textS z
theorem textS_zero {s : ByteArray} (h : textS s = 0) : (splS s).length ≤ 400 := by
 unfold textS at h
 split at h
 ·omega
 ·split at h <;> omega
def mcE (x y z : ByteArray) (i : Nat) : HS := ⟨[(0, .v (.string x)), (1, .v (.string y)), (2, .v (.string z)), (22, .agg [.v (.string x), .v (.string y), .v (.string z)]), (23, .v (.int .i64 i))], []⟩
theorem cadd_new {cs : List (Ck ByteArray)} (h : ∀ c, cs.getLast? = some c → c.st = false) (s : ByteArray) : cadd cs s = cs ++ [⟨true, [s], [s], [s]⟩] := by
 unfold cadd
 cases e : cs.getLast? with
 | none =>
  have : cs = [] := by simpa using e
  subst this; rfl
 | some c => simp [h c e]
theorem cadd_on {pre : List (Ck ByteArray)} {c : Ck ByteArray} (h : c.st = true) (s : ByteArray) : cadd (pre ++ [c]) s = pre ++ [⟨true, c.b ++ [s], c.l ++ [s], c.r ++ [s]⟩] := by
 unfold cadd
 simp [h]
structure CuT where
 i : Nat
 j : Nat
 k : Nat
 pre : List (Ck ByteArray)
 c : Ck ByteArray
def cuRows (o a b : List ByteArray) : Option CuT → Store
 | none => [(136, .bx true 109 [.lst true (strs o), .lst true (strs a), .lst true (strs b), .v (.int .i64 (0 : Nat)), .v (.int .i64 (0 : Nat)), .v (.int .i64 (0 : Nat)), .own 9000]), (328, rowI (place o a)), (400, rowI (place o b)), (9000, .sl true 77 4 (cks []))]
 | some s => [(136, .bx true 109 [.lst true (strs o), .lst true (strs a), .lst true (strs b), .v (.int .i64 s.i), .v (.int .i64 s.j), .v (.int .i64 s.k), .own 9000]), (328, rowI (place o a)), (400, rowI (place o b)), (9000, rowJ s.pre), (1000002, rowT s.c.b), (1000003, rowT s.c.l), (1000004, rowT s.c.r)]
def cuE (o a b : List ByteArray) (p : Nat × Option CuT) : HS := ⟨[(11, .lst true (strs o)), (12, .lst true (strs a)), (13, .lst true (strs b)), (14, .own 328), (16, .own 400), (17, .ptr 136 7 0 0), (61, .v (.int .i64 o.length)), (62, .v (.int .i64 p.1))], cuRows o a b p.2⟩
def cuU : Option CuT → Cu ByteArray
 | none => ⟨0, 0, 0, []⟩
 | some s => ⟨s.i, s.j, s.k, s.pre ++ [s.c]⟩
structure CuI (o a b : List ByteArray) (n : Nat) (p : Option CuT) : Prop where
 le : n ≤ o.length
 i : (cuU p).i ≤ n
 j : Nxt (kn o a) n (cuU p).j a.length
 k : Nxt (kn o b) n (cuU p).k b.length
 len : (cuU p).out.length ≤ 2 * n
 st : ∀ s, p = some s → s.c.st = true ∧ s.c.b.length ≤ n ∧ s.c.l.length ≤ n ∧ s.c.r.length ≤ n
 rest : chI o a b (kn o a) (kn o b) (o.length - n) n (cuU p) = chT o a b (tri (kn o a) (kn o b)) ⟨0, 0, 0, []⟩
theorem cuI_zero (o a b : List ByteArray) : CuI o a b 0 none :=
 ⟨Nat.zero_le _, Nat.le_refl _, Nxt.init (kn_ok o a), Nxt.init (kn_ok o b), Nat.zero_le _, fun _ h => (by cases h), chI_tri (kn o a) (kn o b) _ 0 (kn o a) (kn o b) 0 0 ⟨0, 0, 0, []⟩ (fun _ _ => rfl) (fun _ _ => rfl) (kn_ok o a) (kn_ok o b) (by omega)⟩
theorem CuI.skip {o a b : List ByteArray} {n : Nat} {p : Option CuT} (h : CuI o a b n p) (hn : n < o.length) (hl : DiffM.look (kn o a) n = none ∨ DiffM.look (kn o b) n = none) : CuI o a b (n + 1) p :=
 ⟨hn, by have := h.i; omega, h.j.one, h.k.one, by have := h.len; omega, fun s hs => by obtain ⟨a, b, c, d⟩ := h.st s hs; exact ⟨a, by omega, by omega, by omega⟩, by
  have := h.rest
  rw [show o.length - n = (o.length - (n + 1)) + 1 by omega, chI] at this
  rcases hl with e | e
  ·rw [e] at this; exact this
  ·rw [e] at this
   cases e1 : DiffM.look (kn o a) n <;> (rw [e1] at this; exact this)⟩
theorem CuI.step {o a b : List ByteArray} {n j k : Nat} {p : Option CuT} (h : CuI o a b n p) (hn : n < o.length) (h1 : DiffM.look (kn o a) n = some j) (h2 : DiffM.look (kn o b) n = some k) (s : CuT) (hi : s.i = n + 1) (hj : s.j = j + 1) (hk : s.k = k + 1) (hst : s.c.st = true)
  (hb : s.c.b.length ≤ n + 1) (hl : s.c.l.length ≤ n + 1) (hr : s.c.r.length ≤ n + 1) (hlen : s.pre.length ≤ 2 * n + 1) (ho : s.pre ++ [s.c] = cadd (betw o a b (cuU p) n j k).out o[n]) : CuI o a b (n + 1) (some s) :=
 ⟨hn, by simp only [cuU]; omega, by simp only [cuU]; rw [hj]; exact h.j.step (kn_ok o a) h1, by simp only [cuU]; rw [hk]; exact h.k.step (kn_ok o b) h2, by simp only [cuU, List.length_append, List.length_singleton]; omega, fun s' hs => (by cases hs; exact ⟨hst, hb, hl, hr⟩), by
  have := h.rest
  rw [show o.length - n = (o.length - (n + 1)) + 1 by omega, chI, h1, h2] at this
  rw [← this]
  congr 1
  simp only [cuU, stab, betw] at ho ⊢
  rw [hi, hj, hk]
  congr 1
  rw [ho]
  simp [List.getD_eq_getElem?_getD, hn]⟩
abbrev chunksS (x y z : ByteArray) : List (Ck ByteArray) := chunks (splS x) (splS y) (splS z)
set_option maxHeartbeats 8000000 in
theorem chunks_H (x y z : ByteArray) (hx : x.size ≤ 4294967296) (hy : y.size ≤ 4294967296) (hz : z.size ≤ 4294967296) : HFun Try.prog 47 [.v (.string x), .v (.string y), .v (.string z)] (fun h st =>
  (mgErr x y z ≠ 0 ∧ h = .tup [.v (.slice none 0 0), .v (.int .i64 (mgErr x y z))] ∧ st = []) ∨
  (textS x = 0 ∧ textS y = 0 ∧ textS z = 0 ∧ h = .tup [.own 0, .v (.int .i64 0)] ∧ st = [(0, .sl true 77 4 (cks (chunksS x y z)))])) := by
 refine hfun (N := 99) Try.func47 rfl Try.ntmps47 Try.results47 (by simp) ?_
 (repeat first | refine qE ?_ | refine qA ?_ | refine qC ?_ | refine qB ?_ | refine qD ?_); refine qJ (fun K hK => ?_); simp (maxSteps := 2000000) (disch := omega) only [push_cast, ↓Int.cast_ofNat_Int, Nat.reduceBEq, Nat.reduceAdd, Nat.reduceLT, Nat.reduceEqDiff, reduceIte, reduceCtorEq, Nat.reduceLeDiff, Nat.reduceSub, List.reduceReplicate, Nat.reduceMul, Int.reduceToNat, Nat.reducePow]; refine hK _ ?_; clear hK K
 (repeat first | refine qE ?_ | refine qA ?_ | refine qC ?_ | refine qB ?_ | refine qD ?_); refine qJ (fun K hK => ?_); simp (maxSteps := 2000000) (disch := omega) only [push_cast, ↓Int.cast_ofNat_Int, Nat.reduceBEq, Nat.reduceAdd, Nat.reduceLT, Nat.reduceEqDiff, reduceIte, reduceCtorEq, Nat.reduceLeDiff, Nat.reduceSub, List.reduceReplicate, Nat.reduceMul, Int.reduceToNat, Nat.reducePow]; refine hK _ ?_; clear hK K
 (repeat first | refine qE ?_ | refine qA ?_ | refine qC ?_ | refine qB ?_ | refine qD ?_)
 refine HW_loop (mcE x y z) (fun i => i ≤ 3 ∧ (0 < i → textS x = 0) ∧ (1 < i → textS y = 0) ∧ (2 < i → textS z = 0)) (fun i => 3 - i) [0, 1, 2, 22, 23] [] 0 (by simp only [qZ, qR, qP, qQ, qN, qS, qM, qX, qU, Nat.reduceEqDiff, reduceIte, mcE]; try rfl) ⟨by omega, by omega, by omega, by omega⟩ ?_
 rintro i ⟨hi, h0, h1, h2⟩
 simp only [mcE]
 have hcs : i = 0 ∨ i = 1 ∨ i = 2 ∨ i = 3 := by omega
 rcases hcs with rfl | rfl | rfl | rfl
 ·(repeat first | refine qE ?_ | refine qA ?_ | refine qC ?_ | refine qB ?_ | refine qD ?_); refine qJ (fun K hK => ?_); simp (maxSteps := 2000000) (disch := omega) only [push_cast, ↓Int.cast_ofNat_Int, Nat.reduceBEq, Nat.reduceAdd, Nat.reduceLT, Nat.reduceEqDiff, reduceIte, reduceCtorEq, Nat.reduceLeDiff, Nat.reduceSub, List.reduceReplicate, Nat.reduceMul, Int.reduceToNat, Nat.reducePow]; refine hK _ ?_; clear hK K
  (repeat first | refine qE ?_ | refine qA ?_ | refine qC ?_ | refine qB ?_ | refine qD ?_)
  refine zD rfl ?_
  (repeat first | refine qK ?_ | refine qG ?_ | refine qH ?_ | refine qF rfl ?_ | refine qL ?_ | refine qB ?_ | refine qE ?_ | refine qA ?_ | refine qC ?_ | refine qT ?_ | refine qW ?_)
  (repeat first | refine qE ?_ | refine qA ?_ | refine qC ?_ | refine qB ?_ | refine qD ?_); refine qJ (fun K hK => ?_); simp (maxSteps := 2000000) (disch := omega) only [push_cast, ↓Int.cast_ofNat_Int, Nat.reduceBEq, Nat.reduceAdd, Nat.reduceLT, Nat.reduceEqDiff, reduceIte, reduceCtorEq, Nat.reduceLeDiff, Nat.reduceSub, List.reduceReplicate, Nat.reduceMul, Int.reduceToNat, Nat.reducePow]; (repeat refine ⟨by first | omega | decide | ((repeat' apply And.intro) <;> first | omega | decide), ?_⟩); refine hK _ ?_; clear hK K
  (repeat first | refine qE ?_ | refine qA ?_ | refine qC ?_ | refine qB ?_ | refine qD ?_); refine qJ (fun K hK => ?_); simp (maxSteps := 2000000) (disch := omega) only [push_cast, ↓Int.cast_ofNat_Int, Nat.reduceBEq, Nat.reduceAdd, Nat.reduceLT, Nat.reduceEqDiff, reduceIte, reduceCtorEq, Nat.reduceLeDiff, Nat.reduceSub, List.reduceReplicate, Nat.reduceMul, Int.reduceToNat, Nat.reducePow]
  refine hatv cl41 (text_H x hx) (.cons (.v _) .nil) ?_
  with_reducible refine hstop ?_; simp (maxSteps := 2000000) (disch := omega) only [push_cast, ↓Int.cast_ofNat_Int, Nat.reduceBEq, Nat.reduceAdd, Nat.reduceLT, Nat.reduceEqDiff, reduceIte, reduceCtorEq, Nat.reduceLeDiff, Nat.reduceSub, List.reduceReplicate, Nat.reduceMul, Int.reduceToNat, Nat.reducePow]
  refine hK _ ?_; clear hK K
  by_cases he : textS x = 0
  ·(repeat first | refine qE ?_ | refine qA ?_ | refine qC ?_ | refine qB ?_ | refine qD ?_); refine qJ (fun K hK => ?_); simp (maxSteps := 2000000) (disch := omega) only [push_cast, ↓Int.cast_ofNat_Int, Nat.reduceBEq, Nat.reduceAdd, Nat.reduceLT, Nat.reduceEqDiff, reduceIte, reduceCtorEq, Nat.reduceLeDiff, Nat.reduceSub, List.reduceReplicate, Nat.reduceMul, Int.reduceToNat, Nat.reducePow, he]; refine hK _ ?_; clear hK K
   (repeat first | refine qE ?_ | refine qA ?_ | refine qC ?_ | refine qB ?_ | refine qD ?_)
   refine zC rfl ?_
   (repeat first | refine qK ?_ | refine qG ?_ | refine qH ?_ | refine qF rfl ?_ | refine qL ?_ | refine qB ?_ | refine qE ?_ | refine qA ?_ | refine qC ?_ | refine qT ?_ | refine qW ?_)
   (repeat first | refine qE ?_ | refine qA ?_ | refine qC ?_ | refine qB ?_ | refine qD ?_); refine qJ (fun K hK => ?_); simp (maxSteps := 2000000) (disch := omega) only [push_cast, ↓Int.cast_ofNat_Int, Nat.reduceBEq, Nat.reduceAdd, Nat.reduceLT, Nat.reduceEqDiff, reduceIte, reduceCtorEq, Nat.reduceLeDiff, Nat.reduceSub, List.reduceReplicate, Nat.reduceMul, Int.reduceToNat, Nat.reducePow]; refine hK _ ?_; clear hK K
   (repeat first | refine qK ?_ | refine qG ?_ | refine qH ?_ | refine qF rfl ?_ | refine qL ?_ | refine qB ?_ | refine qE ?_ | refine qA ?_ | refine qC ?_ | refine qT ?_ | refine qW ?_)
   exact ⟨1, by simp only [qZ, qR, qP, qQ, qN, qS, qM, qX, qU, Nat.reduceEqDiff, reduceIte, mcE]; rfl, ⟨by omega, fun _ => he, by omega, by omega⟩, by omega⟩
  ·(repeat first | refine qE ?_ | refine qA ?_ | refine qC ?_ | refine qB ?_ | refine qD ?_); refine qJ (fun K hK => ?_); simp (maxSteps := 2000000) (disch := omega) only [push_cast, ↓Int.cast_ofNat_Int, Nat.reduceBEq, Nat.reduceAdd, Nat.reduceLT, Nat.reduceEqDiff, reduceIte, reduceCtorEq, Nat.reduceLeDiff, Nat.reduceSub, List.reduceReplicate, Nat.reduceMul, Int.reduceToNat, Nat.reducePow]; refine hK _ ?_; clear hK K
   (repeat first | refine qE ?_ | refine qA ?_ | refine qC ?_ | refine qB ?_ | refine qD ?_)
   refine zD rfl ?_
   (repeat first | refine qE ?_ | refine qA ?_ | refine qC ?_ | refine qB ?_ | refine qD ?_); refine qJ (fun K hK => ?_); simp (maxSteps := 2000000) (disch := omega) only [push_cast, ↓Int.cast_ofNat_Int, Nat.reduceBEq, Nat.reduceAdd, Nat.reduceLT, Nat.reduceEqDiff, reduceIte, reduceCtorEq, Nat.reduceLeDiff, Nat.reduceSub, List.reduceReplicate, Nat.reduceMul, Int.reduceToNat, Nat.reducePow]; refine hK _ ?_; clear hK K
   (repeat first | refine qK ?_ | refine qG ?_ | refine qH ?_ | refine qF rfl ?_ | refine qL ?_ | refine qB ?_ | refine qE ?_ | refine qA ?_ | refine qC ?_ | refine qT ?_ | refine qW ?_)
   simp only [zA, zM, zH, zE, zK, zJ, qS, qM, Nat.reduceEqDiff, reduceIte, reduceCtorEq]
   have er : mgErr x y z = textS x := by rw [mgErr, if_pos he]
   exact hres_vv (.inl ⟨by rw [er]; exact he, by rw [er], rfl⟩)
 ·(repeat first | refine qE ?_ | refine qA ?_ | refine qC ?_ | refine qB ?_ | refine qD ?_); refine qJ (fun K hK => ?_); simp (maxSteps := 2000000) (disch := omega) only [push_cast, ↓Int.cast_ofNat_Int, Nat.reduceBEq, Nat.reduceAdd, Nat.reduceLT, Nat.reduceEqDiff, reduceIte, reduceCtorEq, Nat.reduceLeDiff, Nat.reduceSub, List.reduceReplicate, Nat.reduceMul, Int.reduceToNat, Nat.reducePow]; refine hK _ ?_; clear hK K
  (repeat first | refine qE ?_ | refine qA ?_ | refine qC ?_ | refine qB ?_ | refine qD ?_)
  refine zD rfl ?_
  (repeat first | refine qK ?_ | refine qG ?_ | refine qH ?_ | refine qF rfl ?_ | refine qL ?_ | refine qB ?_ | refine qE ?_ | refine qA ?_ | refine qC ?_ | refine qT ?_ | refine qW ?_)
  (repeat first | refine qE ?_ | refine qA ?_ | refine qC ?_ | refine qB ?_ | refine qD ?_); refine qJ (fun K hK => ?_); simp (maxSteps := 2000000) (disch := omega) only [push_cast, ↓Int.cast_ofNat_Int, Nat.reduceBEq, Nat.reduceAdd, Nat.reduceLT, Nat.reduceEqDiff, reduceIte, reduceCtorEq, Nat.reduceLeDiff, Nat.reduceSub, List.reduceReplicate, Nat.reduceMul, Int.reduceToNat, Nat.reducePow]; (repeat refine ⟨by first | omega | decide | ((repeat' apply And.intro) <;> first | omega | decide), ?_⟩); refine hK _ ?_; clear hK K
  (repeat first | refine qE ?_ | refine qA ?_ | refine qC ?_ | refine qB ?_ | refine qD ?_); refine qJ (fun K hK => ?_); simp (maxSteps := 2000000) (disch := omega) only [push_cast, ↓Int.cast_ofNat_Int, Nat.reduceBEq, Nat.reduceAdd, Nat.reduceLT, Nat.reduceEqDiff, reduceIte, reduceCtorEq, Nat.reduceLeDiff, Nat.reduceSub, List.reduceReplicate, Nat.reduceMul, Int.reduceToNat, Nat.reducePow]
  refine hatv cl41 (text_H y hy) (.cons (.v _) .nil) ?_
  with_reducible refine hstop ?_; simp (maxSteps := 2000000) (disch := omega) only [push_cast, ↓Int.cast_ofNat_Int, Nat.reduceBEq, Nat.reduceAdd, Nat.reduceLT, Nat.reduceEqDiff, reduceIte, reduceCtorEq, Nat.reduceLeDiff, Nat.reduceSub, List.reduceReplicate, Nat.reduceMul, Int.reduceToNat, Nat.reducePow]
  refine hK _ ?_; clear hK K
  by_cases he : textS y = 0
  ·(repeat first | refine qE ?_ | refine qA ?_ | refine qC ?_ | refine qB ?_ | refine qD ?_); refine qJ (fun K hK => ?_); simp (maxSteps := 2000000) (disch := omega) only [push_cast, ↓Int.cast_ofNat_Int, Nat.reduceBEq, Nat.reduceAdd, Nat.reduceLT, Nat.reduceEqDiff, reduceIte, reduceCtorEq, Nat.reduceLeDiff, Nat.reduceSub, List.reduceReplicate, Nat.reduceMul, Int.reduceToNat, Nat.reducePow, he]; refine hK _ ?_; clear hK K
   (repeat first | refine qE ?_ | refine qA ?_ | refine qC ?_ | refine qB ?_ | refine qD ?_)
   refine zC rfl ?_
   (repeat first | refine qK ?_ | refine qG ?_ | refine qH ?_ | refine qF rfl ?_ | refine qL ?_ | refine qB ?_ | refine qE ?_ | refine qA ?_ | refine qC ?_ | refine qT ?_ | refine qW ?_)
   (repeat first | refine qE ?_ | refine qA ?_ | refine qC ?_ | refine qB ?_ | refine qD ?_); refine qJ (fun K hK => ?_); simp (maxSteps := 2000000) (disch := omega) only [push_cast, ↓Int.cast_ofNat_Int, Nat.reduceBEq, Nat.reduceAdd, Nat.reduceLT, Nat.reduceEqDiff, reduceIte, reduceCtorEq, Nat.reduceLeDiff, Nat.reduceSub, List.reduceReplicate, Nat.reduceMul, Int.reduceToNat, Nat.reducePow]; refine hK _ ?_; clear hK K
   (repeat first | refine qK ?_ | refine qG ?_ | refine qH ?_ | refine qF rfl ?_ | refine qL ?_ | refine qB ?_ | refine qE ?_ | refine qA ?_ | refine qC ?_ | refine qT ?_ | refine qW ?_)
   exact ⟨2, by simp only [qZ, qR, qP, qQ, qN, qS, qM, qX, qU, Nat.reduceEqDiff, reduceIte, mcE]; rfl, ⟨by omega, fun _ => h0 (by omega), fun _ => he, by omega⟩, by omega⟩
  ·(repeat first | refine qE ?_ | refine qA ?_ | refine qC ?_ | refine qB ?_ | refine qD ?_); refine qJ (fun K hK => ?_); simp (maxSteps := 2000000) (disch := omega) only [push_cast, ↓Int.cast_ofNat_Int, Nat.reduceBEq, Nat.reduceAdd, Nat.reduceLT, Nat.reduceEqDiff, reduceIte, reduceCtorEq, Nat.reduceLeDiff, Nat.reduceSub, List.reduceReplicate, Nat.reduceMul, Int.reduceToNat, Nat.reducePow]; refine hK _ ?_; clear hK K
   (repeat first | refine qE ?_ | refine qA ?_ | refine qC ?_ | refine qB ?_ | refine qD ?_)
   refine zD rfl ?_
   (repeat first | refine qE ?_ | refine qA ?_ | refine qC ?_ | refine qB ?_ | refine qD ?_); refine qJ (fun K hK => ?_); simp (maxSteps := 2000000) (disch := omega) only [push_cast, ↓Int.cast_ofNat_Int, Nat.reduceBEq, Nat.reduceAdd, Nat.reduceLT, Nat.reduceEqDiff, reduceIte, reduceCtorEq, Nat.reduceLeDiff, Nat.reduceSub, List.reduceReplicate, Nat.reduceMul, Int.reduceToNat, Nat.reducePow]; refine hK _ ?_; clear hK K
   (repeat first | refine qK ?_ | refine qG ?_ | refine qH ?_ | refine qF rfl ?_ | refine qL ?_ | refine qB ?_ | refine qE ?_ | refine qA ?_ | refine qC ?_ | refine qT ?_ | refine qW ?_)
   simp only [zA, zM, zH, zE, zK, zJ, qS, qM, Nat.reduceEqDiff, reduceIte, reduceCtorEq]
   have er : mgErr x y z = textS y := by rw [mgErr, if_neg (by rw [h0 (by omega)]; simp), if_pos he]
   exact hres_vv (.inl ⟨by rw [er]; exact he, by rw [er], rfl⟩)
 ·(repeat first | refine qE ?_ | refine qA ?_ | refine qC ?_ | refine qB ?_ | refine qD ?_); refine qJ (fun K hK => ?_); simp (maxSteps := 2000000) (disch := omega) only [push_cast, ↓Int.cast_ofNat_Int, Nat.reduceBEq, Nat.reduceAdd, Nat.reduceLT, Nat.reduceEqDiff, reduceIte, reduceCtorEq, Nat.reduceLeDiff, Nat.reduceSub, List.reduceReplicate, Nat.reduceMul, Int.reduceToNat, Nat.reducePow]; refine hK _ ?_; clear hK K
  (repeat first | refine qE ?_ | refine qA ?_ | refine qC ?_ | refine qB ?_ | refine qD ?_)
  refine zD rfl ?_
  (repeat first | refine qK ?_ | refine qG ?_ | refine qH ?_ | refine qF rfl ?_ | refine qL ?_ | refine qB ?_ | refine qE ?_ | refine qA ?_ | refine qC ?_ | refine qT ?_ | refine qW ?_)
  (repeat first | refine qE ?_ | refine qA ?_ | refine qC ?_ | refine qB ?_ | refine qD ?_); refine qJ (fun K hK => ?_); simp (maxSteps := 2000000) (disch := omega) only [push_cast, ↓Int.cast_ofNat_Int, Nat.reduceBEq, Nat.reduceAdd, Nat.reduceLT, Nat.reduceEqDiff, reduceIte, reduceCtorEq, Nat.reduceLeDiff, Nat.reduceSub, List.reduceReplicate, Nat.reduceMul, Int.reduceToNat, Nat.reducePow]; (repeat refine ⟨by first | omega | decide | ((repeat' apply And.intro) <;> first | omega | decide), ?_⟩); refine hK _ ?_; clear hK K
  (repeat first | refine qE ?_ | refine qA ?_ | refine qC ?_ | refine qB ?_ | refine qD ?_); refine qJ (fun K hK => ?_); simp (maxSteps := 2000000) (disch := omega) only [push_cast, ↓Int.cast_ofNat_Int, Nat.reduceBEq, Nat.reduceAdd, Nat.reduceLT, Nat.reduceEqDiff, reduceIte, reduceCtorEq, Nat.reduceLeDiff, Nat.reduceSub, List.reduceReplicate, Nat.reduceMul, Int.reduceToNat, Nat.reducePow]
  refine hatv cl41 (text_H z hz) (.cons (.v _) .nil) ?_
  with_reducible refine hstop ?_; simp (maxSteps := 2000000) (disch := omega) only [push_cast, ↓Int.cast_ofNat_Int, Nat.reduceBEq, Nat.reduceAdd, Nat.reduceLT, Nat.reduceEqDiff, reduceIte, reduceCtorEq, Nat.reduceLeDiff, Nat.reduceSub, List.reduceReplicate, Nat.reduceMul, Int.reduceToNat, Nat.reducePow]
  refine hK _ ?_; clear hK K
  by_cases he : textS z = 0
  ·(repeat first | refine qE ?_ | refine qA ?_ | refine qC ?_ | refine qB ?_ | refine qD ?_); refine qJ (fun K hK => ?_); simp (maxSteps := 2000000) (disch := omega) only [push_cast, ↓Int.cast_ofNat_Int, Nat.reduceBEq, Nat.reduceAdd, Nat.reduceLT, Nat.reduceEqDiff, reduceIte, reduceCtorEq, Nat.reduceLeDiff, Nat.reduceSub, List.reduceReplicate, Nat.reduceMul, Int.reduceToNat, Nat.reducePow, he]; refine hK _ ?_; clear hK K
   (repeat first | refine qE ?_ | refine qA ?_ | refine qC ?_ | refine qB ?_ | refine qD ?_)
   refine zC rfl ?_
   (repeat first | refine qK ?_ | refine qG ?_ | refine qH ?_ | refine qF rfl ?_ | refine qL ?_ | refine qB ?_ | refine qE ?_ | refine qA ?_ | refine qC ?_ | refine qT ?_ | refine qW ?_)
   (repeat first | refine qE ?_ | refine qA ?_ | refine qC ?_ | refine qB ?_ | refine qD ?_); refine qJ (fun K hK => ?_); simp (maxSteps := 2000000) (disch := omega) only [push_cast, ↓Int.cast_ofNat_Int, Nat.reduceBEq, Nat.reduceAdd, Nat.reduceLT, Nat.reduceEqDiff, reduceIte, reduceCtorEq, Nat.reduceLeDiff, Nat.reduceSub, List.reduceReplicate, Nat.reduceMul, Int.reduceToNat, Nat.reducePow]; refine hK _ ?_; clear hK K
   (repeat first | refine qK ?_ | refine qG ?_ | refine qH ?_ | refine qF rfl ?_ | refine qL ?_ | refine qB ?_ | refine qE ?_ | refine qA ?_ | refine qC ?_ | refine qT ?_ | refine qW ?_)
   exact ⟨3, by simp only [qZ, qR, qP, qQ, qN, qS, qM, qX, qU, Nat.reduceEqDiff, reduceIte, mcE]; rfl, ⟨by omega, fun _ => h0 (by omega), fun _ => h1 (by omega), fun _ => he⟩, by omega⟩
  ·(repeat first | refine qE ?_ | refine qA ?_ | refine qC ?_ | refine qB ?_ | refine qD ?_); refine qJ (fun K hK => ?_); simp (maxSteps := 2000000) (disch := omega) only [push_cast, ↓Int.cast_ofNat_Int, Nat.reduceBEq, Nat.reduceAdd, Nat.reduceLT, Nat.reduceEqDiff, reduceIte, reduceCtorEq, Nat.reduceLeDiff, Nat.reduceSub, List.reduceReplicate, Nat.reduceMul, Int.reduceToNat, Nat.reducePow]; refine hK _ ?_; clear hK K
   (repeat first | refine qE ?_ | refine qA ?_ | refine qC ?_ | refine qB ?_ | refine qD ?_)
   refine zD rfl ?_
   (repeat first | refine qE ?_ | refine qA ?_ | refine qC ?_ | refine qB ?_ | refine qD ?_); refine qJ (fun K hK => ?_); simp (maxSteps := 2000000) (disch := omega) only [push_cast, ↓Int.cast_ofNat_Int, Nat.reduceBEq, Nat.reduceAdd, Nat.reduceLT, Nat.reduceEqDiff, reduceIte, reduceCtorEq, Nat.reduceLeDiff, Nat.reduceSub, List.reduceReplicate, Nat.reduceMul, Int.reduceToNat, Nat.reducePow]; refine hK _ ?_; clear hK K
   (repeat first | refine qK ?_ | refine qG ?_ | refine qH ?_ | refine qF rfl ?_ | refine qL ?_ | refine qB ?_ | refine qE ?_ | refine qA ?_ | refine qC ?_ | refine qT ?_ | refine qW ?_)
   simp only [zA, zM, zH, zE, zK, zJ, qS, qM, Nat.reduceEqDiff, reduceIte, reduceCtorEq]
   have er : mgErr x y z = textS z := by rw [mgErr, if_neg (by rw [h0 (by omega)]; simp), if_neg (by rw [h1 (by omega)]; simp)]
   exact hres_vv (.inl ⟨by rw [er]; exact he, by rw [er], rfl⟩)
 ·(repeat first | refine qE ?_ | refine qA ?_ | refine qC ?_ | refine qB ?_ | refine qD ?_); refine qJ (fun K hK => ?_); simp (maxSteps := 2000000) (disch := omega) only [push_cast, ↓Int.cast_ofNat_Int, Nat.reduceBEq, Nat.reduceAdd, Nat.reduceLT, Nat.reduceEqDiff, reduceIte, reduceCtorEq, Nat.reduceLeDiff, Nat.reduceSub, List.reduceReplicate, Nat.reduceMul, Int.reduceToNat, Nat.reducePow]; refine hK _ ?_; clear hK K
  (repeat first | refine qE ?_ | refine qA ?_ | refine qC ?_ | refine qB ?_ | refine qD ?_)
  refine zC rfl ?_
  (repeat first | refine qK ?_ | refine qG ?_ | refine qH ?_ | refine qF rfl ?_ | refine qL ?_ | refine qB ?_ | refine qE ?_ | refine qA ?_ | refine qC ?_ | refine qT ?_ | refine qW ?_)
  have t0 := h0 (by omega)
  have t1 := h1 (by omega)
  have t2 := h2 (by omega)
  have l0 := textS_zero t0
  have l1 := textS_zero t1
  have l2 := textS_zero t2
  refine zB [0, 1, 2] [] (by simp only [qZ, qR, qP, qQ, qN, qS, qM, qX, qU, Nat.reduceEqDiff, reduceIte]; exact rfl) ?_
  (repeat first | refine qE ?_ | refine qA ?_ | refine qC ?_ | refine qB ?_ | refine qD ?_); refine qJ (fun K hK => ?_); simp (maxSteps := 2000000) (disch := omega) only [push_cast, ↓Int.cast_ofNat_Int, Nat.reduceBEq, Nat.reduceAdd, Nat.reduceLT, Nat.reduceEqDiff, reduceIte, reduceCtorEq, Nat.reduceLeDiff, Nat.reduceSub, List.reduceReplicate, Nat.reduceMul, Int.reduceToNat, Nat.reducePow]
  refine hat 264 cl37 (split_H x hx) (.cons (.v _) .nil) ?_
  rintro _ _ ⟨rfl, rfl⟩
  with_reducible refine hstop ?_; simp (maxSteps := 2000000) (disch := omega) only [push_cast, ↓Int.cast_ofNat_Int, Nat.reduceBEq, Nat.reduceAdd, Nat.reduceLT, Nat.reduceEqDiff, reduceIte, reduceCtorEq, Nat.reduceLeDiff, Nat.reduceSub, List.reduceReplicate, Nat.reduceMul, Int.reduceToNat, Nat.reducePow]
  refine hat 280 cl37 (split_H y hy) (.cons (.v _) .nil) ?_
  rintro _ _ ⟨rfl, rfl⟩
  with_reducible refine hstop ?_; simp (maxSteps := 2000000) (disch := omega) only [push_cast, ↓Int.cast_ofNat_Int, Nat.reduceBEq, Nat.reduceAdd, Nat.reduceLT, Nat.reduceEqDiff, reduceIte, reduceCtorEq, Nat.reduceLeDiff, Nat.reduceSub, List.reduceReplicate, Nat.reduceMul, Int.reduceToNat, Nat.reducePow]
  refine hat 296 cl37 (split_H z hz) (.cons (.v _) .nil) ?_
  rintro _ _ ⟨rfl, rfl⟩
  with_reducible refine hstop ?_; simp (maxSteps := 2000000) (disch := omega) only [push_cast, ↓Int.cast_ofNat_Int, Nat.reduceBEq, Nat.reduceAdd, Nat.reduceLT, Nat.reduceEqDiff, reduceIte, reduceCtorEq, Nat.reduceLeDiff, Nat.reduceSub, List.reduceReplicate, Nat.reduceMul, Int.reduceToNat, Nat.reducePow]
  refine hK _ ?_; clear hK K
  refine zB [11, 12, 13] [264, 280, 296] (by simp only [qZ, qR, qP, qQ, qN, qS, qM, qX, qU, Nat.reduceEqDiff, reduceIte]; exact rfl) ?_
  refine HW_restS 264 rfl (by simp only [rest_eq, esub_nil, esub_cons, ssub_nil, ssub_cons, hsub_v, hsub_lst, hsub_elt, hsub_junk, hsub_own, hsub_ptr, hsub_vw, hsub_agg, hsub_tup, rsub_sl, rsub_hl, rsub_bx, Nat.reduceEqDiff, reduceIte, List.map_cons, List.map_nil, List.map_append]; exact rfl) ?_
  refine HW_restS 280 rfl (by simp only [rest_eq, esub_nil, esub_cons, ssub_nil, ssub_cons, hsub_v, hsub_lst, hsub_elt, hsub_junk, hsub_own, hsub_ptr, hsub_vw, hsub_agg, hsub_tup, rsub_sl, rsub_hl, rsub_bx, Nat.reduceEqDiff, reduceIte, List.map_cons, List.map_nil, List.map_append]; exact rfl) ?_
  refine HW_restS 296 rfl (by simp only [rest_eq, esub_nil, esub_cons, ssub_nil, ssub_cons, hsub_v, hsub_lst, hsub_elt, hsub_junk, hsub_own, hsub_ptr, hsub_vw, hsub_agg, hsub_tup, rsub_sl, rsub_hl, rsub_bx, Nat.reduceEqDiff, reduceIte, List.map_cons, List.map_nil, List.map_append]; exact rfl) ?_
  have hch : chunksS x y z = chunks (splS x) (splS y) (splS z) := rfl
  rw [hch]
  clear hch h0 h1 h2 hx hy hz
  generalize hO : splS x = o at *
  generalize hA : splS y = a at *
  generalize hB : splS z = b at *
  (repeat first | refine qE ?_ | refine qA ?_ | refine qC ?_ | refine qB ?_ | refine qD ?_); refine qJ (fun K hK => ?_); simp (maxSteps := 2000000) (disch := omega) only [push_cast, ↓Int.cast_ofNat_Int, Nat.reduceBEq, Nat.reduceAdd, Nat.reduceLT, Nat.reduceEqDiff, reduceIte, reduceCtorEq, Nat.reduceLeDiff, Nat.reduceSub, List.reduceReplicate, Nat.reduceMul, Int.reduceToNat, Nat.reducePow]
  refine hat 328 cl68 (places_H o a l0 l1) (.cons (lendL (strs_old _)) (.cons (lendL (strs_old _)) .nil)) ?_
  rintro _ _ ⟨rfl, rfl⟩
  with_reducible refine hstop ?_; simp (maxSteps := 2000000) (disch := omega) only [push_cast, ↓Int.cast_ofNat_Int, Nat.reduceBEq, Nat.reduceAdd, Nat.reduceLT, Nat.reduceEqDiff, reduceIte, reduceCtorEq, Nat.reduceLeDiff, Nat.reduceSub, List.reduceReplicate, Nat.reduceMul, Int.reduceToNat, Nat.reducePow]
  refine hK _ ?_; clear hK K
  (repeat first | refine qE ?_ | refine qA ?_ | refine qC ?_ | refine qB ?_ | refine qD ?_); refine qJ (fun K hK => ?_); simp (maxSteps := 2000000) (disch := omega) only [push_cast, ↓Int.cast_ofNat_Int, Nat.reduceBEq, Nat.reduceAdd, Nat.reduceLT, Nat.reduceEqDiff, reduceIte, reduceCtorEq, Nat.reduceLeDiff, Nat.reduceSub, List.reduceReplicate, Nat.reduceMul, Int.reduceToNat, Nat.reducePow]; refine hK _ ?_; clear hK K
  (repeat first | refine qE ?_ | refine qA ?_ | refine qC ?_ | refine qB ?_ | refine qD ?_)
  refine zC rfl ?_
  (repeat first | refine qK ?_ | refine qG ?_ | refine qH ?_ | refine qF rfl ?_ | refine qL ?_ | refine qB ?_ | refine qE ?_ | refine qA ?_ | refine qC ?_ | refine qT ?_ | refine qW ?_)
  refine zB [11, 12, 13, 14] [328] (by simp only [qZ, qR, qP, qQ, qN, qS, qM, qX, qU, Nat.reduceEqDiff, reduceIte]; exact rfl) ?_
  (repeat first | refine qE ?_ | refine qA ?_ | refine qC ?_ | refine qB ?_ | refine qD ?_); refine qJ (fun K hK => ?_); simp (maxSteps := 2000000) (disch := omega) only [push_cast, ↓Int.cast_ofNat_Int, Nat.reduceBEq, Nat.reduceAdd, Nat.reduceLT, Nat.reduceEqDiff, reduceIte, reduceCtorEq, Nat.reduceLeDiff, Nat.reduceSub, List.reduceReplicate, Nat.reduceMul, Int.reduceToNat, Nat.reducePow]
  refine hat 400 cl68 (places_H o b l0 l2) (.cons (lendL (strs_old _)) (.cons (lendL (strs_old _)) .nil)) ?_
  rintro _ _ ⟨rfl, rfl⟩
  with_reducible refine hstop ?_; simp (maxSteps := 2000000) (disch := omega) only [push_cast, ↓Int.cast_ofNat_Int, Nat.reduceBEq, Nat.reduceAdd, Nat.reduceLT, Nat.reduceEqDiff, reduceIte, reduceCtorEq, Nat.reduceLeDiff, Nat.reduceSub, List.reduceReplicate, Nat.reduceMul, Int.reduceToNat, Nat.reducePow]
  refine hK _ ?_; clear hK K
  (repeat first | refine qE ?_ | refine qA ?_ | refine qC ?_ | refine qB ?_ | refine qD ?_); refine qJ (fun K hK => ?_); simp (maxSteps := 2000000) (disch := omega) only [push_cast, ↓Int.cast_ofNat_Int, Nat.reduceBEq, Nat.reduceAdd, Nat.reduceLT, Nat.reduceEqDiff, reduceIte, reduceCtorEq, Nat.reduceLeDiff, Nat.reduceSub, List.reduceReplicate, Nat.reduceMul, Int.reduceToNat, Nat.reducePow]; refine hK _ ?_; clear hK K
  (repeat first | refine qE ?_ | refine qA ?_ | refine qC ?_ | refine qB ?_ | refine qD ?_)
  refine zC rfl ?_
  (repeat first | refine qK ?_ | refine qG ?_ | refine qH ?_ | refine qF rfl ?_ | refine qL ?_ | refine qB ?_ | refine qE ?_ | refine qA ?_ | refine qC ?_ | refine qT ?_ | refine qW ?_)
  refine zB [11, 12, 13, 14, 16] [328, 400] (by simp only [qZ, qR, qP, qQ, qN, qS, qM, qX, qU, Nat.reduceEqDiff, reduceIte]; exact rfl) ?_
  (repeat first | refine qE ?_ | refine qA ?_ | refine qC ?_ | refine qB ?_ | refine qD ?_); refine qJ (fun K hK => ?_); simp (maxSteps := 2000000) (disch := omega) only [push_cast, ↓Int.cast_ofNat_Int, Nat.reduceBEq, Nat.reduceAdd, Nat.reduceLT, Nat.reduceEqDiff, reduceIte, reduceCtorEq, Nat.reduceLeDiff, Nat.reduceSub, List.reduceReplicate, Nat.reduceMul, Int.reduceToNat, Nat.reducePow]; refine hK _ ?_; clear hK K
  refine zB [11, 12, 13, 14, 16, 17] [136, 328, 400] (by simp only [qZ, qR, qP, qQ, qN, qS, qM, qX, qU, Nat.reduceEqDiff, reduceIte]; exact rfl) ?_
  refine HW_ownB 136 6 9000 77 4 (by decide) rfl rfl (by simp only [push_cast, List.map_cons, List.map_nil, List.set_cons_succ, List.set_cons_zero, Nat.reduceEqDiff, reduceIte, Nat.reduceBEq, cond_false, cond_true]; exact rfl) ?_
  (repeat first | refine qE ?_ | refine qA ?_ | refine qC ?_ | refine qB ?_ | refine qD ?_); refine qJ (fun K hK => ?_); simp (maxSteps := 2000000) (disch := omega) only [push_cast, ↓Int.cast_ofNat_Int, Nat.reduceBEq, Nat.reduceAdd, Nat.reduceLT, Nat.reduceEqDiff, reduceIte, reduceCtorEq, Nat.reduceLeDiff, Nat.reduceSub, List.reduceReplicate, Nat.reduceMul, Int.reduceToNat, Nat.reducePow, strs_len]; refine hK _ ?_; clear hK K
  (repeat first | refine qE ?_ | refine qA ?_ | refine qC ?_ | refine qB ?_ | refine qD ?_)
  refine HW_loop (cuE o a b) (fun p => CuI o a b p.1 p.2) (fun p => o.length - p.1) [11, 12, 13, 14, 16, 17, 61, 62] [136, 328, 400, 9000, 1000002, 1000003, 1000004] (0, none) (by simp only [qZ, qR, qP, qQ, qN, qS, qM, qX, qU, Nat.reduceEqDiff, reduceIte, cuE, cuRows]; try rfl) (cuI_zero o a b) ?_
  have px : ∀ n, n < o.length → ∀ d, (ints (place o a)).getD n d = [.v (.int .i64 (lookI (kn o a) n))] := fun n hn d => by rw [ints_get (by rw [place_len]; exact hn)]; unfold place; rw [plc_at o a n hn]
  have py : ∀ n, n < o.length → ∀ d, (ints (place o b)).getD n d = [.v (.int .i64 (lookI (kn o b) n))] := fun n hn d => by rw [ints_get (by rw [place_len]; exact hn)]; unfold place; rw [plc_at o b n hn]
  have lx : (ints (place o a)).length = o.length := by rw [ints_len, place_len]
  have ly : (ints (place o b)).length = o.length := by rw [ints_len, place_len]
  rintro ⟨n, p⟩ I
  simp only at I
  by_cases hn : n < o.length
  ·cases e1 : DiffM.look (kn o a) n with
   | none =>
    have v1 : lookI (kn o a) n = -1 := by rw [lookI, e1]
    have I' := I.skip hn (.inl e1)
    rcases p with _ | s
    all_goals
     simp only [cuE, cuRows]
     (repeat first | refine qE ?_ | refine qA ?_ | refine qC ?_ | refine qB ?_ | refine qD ?_); refine qJ (fun K hK => ?_); simp (maxSteps := 2000000) (disch := omega) only [push_cast, ↓Int.cast_ofNat_Int, Nat.reduceBEq, Nat.reduceAdd, Nat.reduceLT, Nat.reduceEqDiff, reduceIte, reduceCtorEq, Nat.reduceLeDiff, Nat.reduceSub, List.reduceReplicate, Nat.reduceMul, Int.reduceToNat, Nat.reducePow]; refine hK _ ?_; clear hK K
     (repeat first | refine qE ?_ | refine qA ?_ | refine qC ?_ | refine qB ?_ | refine qD ?_)
     refine zD rfl ?_
     (repeat first | refine qK ?_ | refine qG ?_ | refine qH ?_ | refine qF rfl ?_ | refine qL ?_ | refine qB ?_ | refine qE ?_ | refine qA ?_ | refine qC ?_ | refine qT ?_ | refine qW ?_)
     (repeat first | refine qE ?_ | refine qA ?_ | refine qC ?_ | refine qB ?_ | refine qD ?_); refine qJ (fun K hK => ?_); simp (maxSteps := 2000000) (disch := omega) only [push_cast, ↓Int.cast_ofNat_Int, Nat.reduceBEq, Nat.reduceAdd, Nat.reduceLT, Nat.reduceEqDiff, reduceIte, reduceCtorEq, Nat.reduceLeDiff, Nat.reduceSub, List.reduceReplicate, Nat.reduceMul, Int.reduceToNat, Nat.reducePow]; refine hK _ ?_; clear hK K
     (repeat first | refine qE ?_ | refine qA ?_ | refine qC ?_ | refine qB ?_ | refine qD ?_); refine qJ (fun K hK => ?_); simp (maxSteps := 2000000) (disch := omega) only [push_cast, ↓Int.cast_ofNat_Int, Nat.reduceBEq, Nat.reduceAdd, Nat.reduceLT, Nat.reduceEqDiff, reduceIte, reduceCtorEq, Nat.reduceLeDiff, Nat.reduceSub, List.reduceReplicate, Nat.reduceMul, Int.reduceToNat, Nat.reducePow, lx, px n hn, v1]; refine hK _ ?_; clear hK K
     (repeat first | refine qE ?_ | refine qA ?_ | refine qC ?_ | refine qB ?_ | refine qD ?_)
     refine zC rfl ?_
     (repeat first | refine qK ?_ | refine qG ?_ | refine qH ?_ | refine qF rfl ?_ | refine qL ?_ | refine qB ?_ | refine qE ?_ | refine qA ?_ | refine qC ?_ | refine qT ?_ | refine qW ?_)
     (repeat first | refine qE ?_ | refine qA ?_ | refine qC ?_ | refine qB ?_ | refine qD ?_); refine qJ (fun K hK => ?_); simp (maxSteps := 2000000) (disch := omega) only [push_cast, ↓Int.cast_ofNat_Int, Nat.reduceBEq, Nat.reduceAdd, Nat.reduceLT, Nat.reduceEqDiff, reduceIte, reduceCtorEq, Nat.reduceLeDiff, Nat.reduceSub, List.reduceReplicate, Nat.reduceMul, Int.reduceToNat, Nat.reducePow]; refine hK _ ?_; clear hK K
     (repeat first | refine qK ?_ | refine qG ?_ | refine qH ?_ | refine qF rfl ?_ | refine qL ?_ | refine qB ?_ | refine qE ?_ | refine qA ?_ | refine qC ?_ | refine qT ?_ | refine qW ?_)
    ·exact ⟨(n + 1, none), by simp only [qZ, qR, qP, qQ, qN, qS, qM, qX, qU, Nat.reduceEqDiff, reduceIte, cuE, cuRows]; try rfl, I', by dsimp only; omega⟩
    ·exact ⟨(n + 1, some s), by simp only [qZ, qR, qP, qQ, qN, qS, qM, qX, qU, Nat.reduceEqDiff, reduceIte, cuE, cuRows]; try rfl, I', by dsimp only; omega⟩
   | some q =>
    have v1 : lookI (kn o a) n = (q : Int) := by rw [lookI, e1]
    cases e2 : DiffM.look (kn o b) n with
    | none =>
     have v2 : lookI (kn o b) n = -1 := by rw [lookI, e2]
     have I' := I.skip hn (.inr e2)
     rcases p with _ | s
     all_goals
      simp only [cuE, cuRows]
      (repeat first | refine qE ?_ | refine qA ?_ | refine qC ?_ | refine qB ?_ | refine qD ?_); refine qJ (fun K hK => ?_); simp (maxSteps := 2000000) (disch := omega) only [push_cast, ↓Int.cast_ofNat_Int, Nat.reduceBEq, Nat.reduceAdd, Nat.reduceLT, Nat.reduceEqDiff, reduceIte, reduceCtorEq, Nat.reduceLeDiff, Nat.reduceSub, List.reduceReplicate, Nat.reduceMul, Int.reduceToNat, Nat.reducePow]; refine hK _ ?_; clear hK K
      (repeat first | refine qE ?_ | refine qA ?_ | refine qC ?_ | refine qB ?_ | refine qD ?_)
      refine zD rfl ?_
      (repeat first | refine qK ?_ | refine qG ?_ | refine qH ?_ | refine qF rfl ?_ | refine qL ?_ | refine qB ?_ | refine qE ?_ | refine qA ?_ | refine qC ?_ | refine qT ?_ | refine qW ?_)
      (repeat first | refine qE ?_ | refine qA ?_ | refine qC ?_ | refine qB ?_ | refine qD ?_); refine qJ (fun K hK => ?_); simp (maxSteps := 2000000) (disch := omega) only [push_cast, ↓Int.cast_ofNat_Int, Nat.reduceBEq, Nat.reduceAdd, Nat.reduceLT, Nat.reduceEqDiff, reduceIte, reduceCtorEq, Nat.reduceLeDiff, Nat.reduceSub, List.reduceReplicate, Nat.reduceMul, Int.reduceToNat, Nat.reducePow]; refine hK _ ?_; clear hK K
      (repeat first | refine qE ?_ | refine qA ?_ | refine qC ?_ | refine qB ?_ | refine qD ?_); refine qJ (fun K hK => ?_); simp (maxSteps := 2000000) (disch := omega) only [push_cast, ↓Int.cast_ofNat_Int, Nat.reduceBEq, Nat.reduceAdd, Nat.reduceLT, Nat.reduceEqDiff, reduceIte, reduceCtorEq, Nat.reduceLeDiff, Nat.reduceSub, List.reduceReplicate, Nat.reduceMul, Int.reduceToNat, Nat.reducePow, lx, px n hn, v1, ly, py n hn, v2]; refine hK _ ?_; clear hK K
      (repeat first | refine qE ?_ | refine qA ?_ | refine qC ?_ | refine qB ?_ | refine qD ?_)
      refine zC rfl ?_
      (repeat first | refine qK ?_ | refine qG ?_ | refine qH ?_ | refine qF rfl ?_ | refine qL ?_ | refine qB ?_ | refine qE ?_ | refine qA ?_ | refine qC ?_ | refine qT ?_ | refine qW ?_)
      (repeat first | refine qE ?_ | refine qA ?_ | refine qC ?_ | refine qB ?_ | refine qD ?_); refine qJ (fun K hK => ?_); simp (maxSteps := 2000000) (disch := omega) only [push_cast, ↓Int.cast_ofNat_Int, Nat.reduceBEq, Nat.reduceAdd, Nat.reduceLT, Nat.reduceEqDiff, reduceIte, reduceCtorEq, Nat.reduceLeDiff, Nat.reduceSub, List.reduceReplicate, Nat.reduceMul, Int.reduceToNat, Nat.reducePow]; refine hK _ ?_; clear hK K
      (repeat first | refine qK ?_ | refine qG ?_ | refine qH ?_ | refine qF rfl ?_ | refine qL ?_ | refine qB ?_ | refine qE ?_ | refine qA ?_ | refine qC ?_ | refine qT ?_ | refine qW ?_)
     ·exact ⟨(n + 1, none), by simp only [qZ, qR, qP, qQ, qN, qS, qM, qX, qU, Nat.reduceEqDiff, reduceIte, cuE, cuRows]; try rfl, I', by dsimp only; omega⟩
     ·exact ⟨(n + 1, some s), by simp only [qZ, qR, qP, qQ, qN, qS, qM, qX, qU, Nat.reduceEqDiff, reduceIte, cuE, cuRows]; try rfl, I', by dsimp only; omega⟩
    | some r =>
     have v2 : lookI (kn o b) n = (r : Int) := by rw [lookI, e2]
     have hq := I.j.lt n q e1
     have hr := I.k.lt n r e2
     have hqj := I.j.low n q (Nat.le_refl _) e1
     have hrk := I.k.low n r (Nat.le_refl _) e2
     have hIi := I.i
     have hIl := I.len
     have hsg : o.getD n default = o[n] := by simp [List.getD_eq_getElem?_getD, hn]
     rcases p with _ | s
     ·simp only [cuE, cuRows]
      simp only [cuU] at hqj hrk hIi hIl
      have hout : (btO o a b 0 0 0 n q r []).length ≤ 1 ∧ ∀ c, (btO o a b 0 0 0 n q r []).getLast? = some c → c.st = false := by
       unfold btO betw
       dsimp only
       split
       ·exact ⟨by simp, fun c hc => by simp at hc; subst hc; rfl⟩
       ·exact ⟨by simp, fun c hc => by simp at hc⟩
      have C := between_S o a b 0 0 0 n q r [] (by omega) (by omega) (by omega) (by omega) (by omega) (by omega) (by simp)
      have C2 := stable_S o a b n q r n (btO o a b 0 0 0 n q r []) hout.2 hn (by omega) (by omega) (by omega) (by omega) (by have := hout.1; omega)
      (repeat first | refine qE ?_ | refine qA ?_ | refine qC ?_ | refine qB ?_ | refine qD ?_); refine qJ (fun K hK => ?_); simp (maxSteps := 2000000) (disch := omega) only [push_cast, ↓Int.cast_ofNat_Int, Nat.reduceBEq, Nat.reduceAdd, Nat.reduceLT, Nat.reduceEqDiff, reduceIte, reduceCtorEq, Nat.reduceLeDiff, Nat.reduceSub, List.reduceReplicate, Nat.reduceMul, Int.reduceToNat, Nat.reducePow]; refine hK _ ?_; clear hK K
      (repeat first | refine qE ?_ | refine qA ?_ | refine qC ?_ | refine qB ?_ | refine qD ?_)
      refine zD rfl ?_
      (repeat first | refine qK ?_ | refine qG ?_ | refine qH ?_ | refine qF rfl ?_ | refine qL ?_ | refine qB ?_ | refine qE ?_ | refine qA ?_ | refine qC ?_ | refine qT ?_ | refine qW ?_)
      (repeat first | refine qE ?_ | refine qA ?_ | refine qC ?_ | refine qB ?_ | refine qD ?_); refine qJ (fun K hK => ?_); simp (maxSteps := 2000000) (disch := omega) only [push_cast, ↓Int.cast_ofNat_Int, Nat.reduceBEq, Nat.reduceAdd, Nat.reduceLT, Nat.reduceEqDiff, reduceIte, reduceCtorEq, Nat.reduceLeDiff, Nat.reduceSub, List.reduceReplicate, Nat.reduceMul, Int.reduceToNat, Nat.reducePow]; refine hK _ ?_; clear hK K
      (repeat first | refine qE ?_ | refine qA ?_ | refine qC ?_ | refine qB ?_ | refine qD ?_); refine qJ (fun K hK => ?_); simp (maxSteps := 2000000) (disch := omega) only [push_cast, ↓Int.cast_ofNat_Int, Nat.reduceBEq, Nat.reduceAdd, Nat.reduceLT, Nat.reduceEqDiff, reduceIte, reduceCtorEq, Nat.reduceLeDiff, Nat.reduceSub, List.reduceReplicate, Nat.reduceMul, Int.reduceToNat, Nat.reducePow, lx, px n hn, v1, ly, py n hn, v2]; refine hK _ ?_; clear hK K
      (repeat first | refine qE ?_ | refine qA ?_ | refine qC ?_ | refine qB ?_ | refine qD ?_)
      refine zD rfl ?_
      refine zB [11, 12, 13, 14, 16, 17, 18, 61, 62] [136, 328, 400, 9000] (by simp only [qZ, qR, qP, qQ, qN, qS, qM, qX, qU, Nat.reduceEqDiff, reduceIte]; exact rfl) ?_
      (repeat first | refine qE ?_ | refine qA ?_ | refine qC ?_ | refine qB ?_ | refine qD ?_); refine HW_drw 9 mixed (by kernel_rfl) (fun K hK => ?_); simp (maxSteps := 2000000) (disch := omega) only [push_cast, ↓Int.cast_ofNat_Int, Nat.reduceBEq, Nat.reduceAdd, Nat.reduceLT, Nat.reduceEqDiff, reduceIte, reduceCtorEq, Nat.reduceLeDiff, Nat.reduceSub, List.reduceReplicate, Nat.reduceMul, Int.reduceToNat, Nat.reducePow, lx, px n hn, v1, ly, py n hn, v2, ints_wid]
      with_reducible refine hstop ?_; simp (maxSteps := 2000000) (disch := omega) only [push_cast, ↓Int.cast_ofNat_Int, Nat.reduceBEq, Nat.reduceAdd, Nat.reduceLT, Nat.reduceEqDiff, reduceIte, reduceCtorEq, Nat.reduceLeDiff, Nat.reduceSub, List.reduceReplicate, Nat.reduceMul, Int.reduceToNat, Nat.reducePow]
      refine hatS 688 [136, 9000] cl69 (C) rfl (by decide) (by decide) (by simp only [push_cast, pos_nil, zF, Option.getD_some, Bool.or_true, Bool.or_false, Bool.and_true, Bool.and_false, Option.map_some, Option.map_none, Nat.zero_add, Nat.reduceBEq, Nat.reduceAdd, Nat.reduceLT, Nat.reduceEqDiff, reduceIte, reduceCtorEq, Nat.reduceLeDiff, Nat.reduceSub, List.reduceReplicate, Nat.reduceMul, Int.reduceToNat, Int.toNat_natCast, Nat.reducePow]; try rfl) (by simp only [push_cast, pos_nil, zF, Option.getD_some, Bool.or_true, Bool.or_false, Bool.and_true, Bool.and_false, Option.map_some, Option.map_none, Nat.zero_add, Nat.reduceBEq, Nat.reduceAdd, Nat.reduceLT, Nat.reduceEqDiff, reduceIte, reduceCtorEq, Nat.reduceLeDiff, Nat.reduceSub, List.reduceReplicate, Nat.reduceMul, Int.reduceToNat, Int.toNat_natCast, Nat.reducePow]; try rfl) ?_
      rintro _ _ ⟨rfl, rfl⟩
      refine hstop ?_; simp (maxSteps := 2000000) (disch := omega) only [push_cast, ↓Int.cast_ofNat_Int, Nat.reduceBEq, Nat.reduceAdd, Nat.reduceLT, Nat.reduceEqDiff, reduceIte, reduceCtorEq, Nat.reduceLeDiff, Nat.reduceSub, List.reduceReplicate, Nat.reduceMul, Int.reduceToNat, Nat.reducePow, Option.getD_some, Bool.or_true, Bool.or_false, Bool.and_true, Bool.and_false, Nat.zero_add, pos_nil, zF, Option.map_some, Option.map_none]
      refine hK _ ?_; clear hK K
      refine zB [11, 12, 13, 14, 16, 17, 18, 61, 62] [136, 328, 400, 9000] (by simp only [qZ, qR, qP, qQ, qN, qS, qM, qX, qU, Nat.reduceEqDiff, reduceIte]; exact rfl) ?_
      (repeat first | refine qE ?_ | refine qA ?_ | refine qC ?_ | refine qB ?_ | refine qD ?_); refine qJ (fun K hK => ?_); simp (maxSteps := 2000000) (disch := omega) only [push_cast, ↓Int.cast_ofNat_Int, Nat.reduceBEq, Nat.reduceAdd, Nat.reduceLT, Nat.reduceEqDiff, reduceIte, reduceCtorEq, Nat.reduceLeDiff, Nat.reduceSub, List.reduceReplicate, Nat.reduceMul, Int.reduceToNat, Nat.reducePow]
      refine hatS 704 [136, 9000] cl70 (C2) rfl (by decide) (by decide) (by simp only [push_cast, pos_nil, zF, Option.getD_some, Bool.or_true, Bool.or_false, Bool.and_true, Bool.and_false, Option.map_some, Option.map_none, Nat.zero_add, Nat.reduceBEq, Nat.reduceAdd, Nat.reduceLT, Nat.reduceEqDiff, reduceIte, reduceCtorEq, Nat.reduceLeDiff, Nat.reduceSub, List.reduceReplicate, Nat.reduceMul, Int.reduceToNat, Int.toNat_natCast, Nat.reducePow]; try rfl) (by simp only [push_cast, pos_nil, zF, Option.getD_some, Bool.or_true, Bool.or_false, Bool.and_true, Bool.and_false, Option.map_some, Option.map_none, Nat.zero_add, Nat.reduceBEq, Nat.reduceAdd, Nat.reduceLT, Nat.reduceEqDiff, reduceIte, reduceCtorEq, Nat.reduceLeDiff, Nat.reduceSub, List.reduceReplicate, Nat.reduceMul, Int.reduceToNat, Int.toNat_natCast, Nat.reducePow]; try rfl) ?_
      rintro _ _ ⟨rfl, rfl⟩
      refine hstop ?_; simp (maxSteps := 2000000) (disch := omega) only [push_cast, ↓Int.cast_ofNat_Int, Nat.reduceBEq, Nat.reduceAdd, Nat.reduceLT, Nat.reduceEqDiff, reduceIte, reduceCtorEq, Nat.reduceLeDiff, Nat.reduceSub, List.reduceReplicate, Nat.reduceMul, Int.reduceToNat, Nat.reducePow, ckH_ren, List.map_append, Option.getD_some, Bool.or_true, Bool.or_false, Bool.and_true, Bool.and_false, Nat.zero_add, pos_nil, zF, Option.map_some, Option.map_none]
      refine hK _ ?_; clear hK K
      (repeat first | refine qK ?_ | refine qG ?_ | refine qH ?_ | refine qF rfl ?_ | refine qL ?_ | refine qB ?_ | refine qE ?_ | refine qA ?_ | refine qC ?_ | refine qT ?_ | refine qW ?_)
      refine zB [11, 12, 13, 14, 16, 17, 61, 62] [136, 328, 400, 9000, 706, 707, 708] (by simp only [qZ, qR, qP, qQ, qN, qS, qM, qX, qU, Nat.reduceEqDiff, reduceIte]; exact rfl) ?_
      refine HW_name 706 1000002 (by decide) rfl rfl (by simp only [name_eq, nm_eq, eren_nil, eren_cons, sren_nil, sren_cons, hren_v, hren_lst, hren_own, hren_ptr, hren_vw, hren_agg, hren_tup, hren_junk, rren_sl, rren_bx, rren_hl, Nat.reduceMul, Nat.reduceAdd, Nat.reduceEqDiff, reduceIte, List.map_cons, List.map_nil, List.map_append, ckH_ren]; exact rfl) ?_
      refine HW_name 707 1000003 (by decide) rfl rfl (by simp only [name_eq, nm_eq, eren_nil, eren_cons, sren_nil, sren_cons, hren_v, hren_lst, hren_own, hren_ptr, hren_vw, hren_agg, hren_tup, hren_junk, rren_sl, rren_bx, rren_hl, Nat.reduceMul, Nat.reduceAdd, Nat.reduceEqDiff, reduceIte, List.map_cons, List.map_nil, List.map_append, ckH_ren]; exact rfl) ?_
      refine HW_name 708 1000004 (by decide) rfl rfl (by simp only [name_eq, nm_eq, eren_nil, eren_cons, sren_nil, sren_cons, hren_v, hren_lst, hren_own, hren_ptr, hren_vw, hren_agg, hren_tup, hren_junk, rren_sl, rren_bx, rren_hl, Nat.reduceMul, Nat.reduceAdd, Nat.reduceEqDiff, reduceIte, List.map_cons, List.map_nil, List.map_append, ckH_ren]; exact rfl) ?_
      (repeat first | refine qE ?_ | refine qA ?_ | refine qC ?_ | refine qB ?_ | refine qD ?_); refine qJ (fun K hK => ?_); simp (maxSteps := 2000000) (disch := omega) only [push_cast, ↓Int.cast_ofNat_Int, Nat.reduceBEq, Nat.reduceAdd, Nat.reduceLT, Nat.reduceEqDiff, reduceIte, reduceCtorEq, Nat.reduceLeDiff, Nat.reduceSub, List.reduceReplicate, Nat.reduceMul, Int.reduceToNat, Nat.reducePow]; refine hK _ ?_; clear hK K
      (repeat first | refine qK ?_ | refine qG ?_ | refine qH ?_ | refine qF rfl ?_ | refine qL ?_ | refine qB ?_ | refine qE ?_ | refine qA ?_ | refine qC ?_ | refine qT ?_ | refine qW ?_)
      refine ⟨(n + 1, some ⟨n + 1, q + 1, r + 1, btO o a b 0 0 0 n q r [], ⟨true, [o[n]], [o[n]], [o[n]]⟩⟩), by simp only [qZ, qR, qP, qQ, qN, qS, qM, qX, qU, Nat.reduceEqDiff, reduceIte, cuE, cuRows]; try rfl, I.step hn e1 e2 _ rfl rfl rfl rfl (by simp) (by simp) (by simp) ?_ ?_, by dsimp only; omega⟩
      ·have := hout.1; dsimp only; omega
      ·show btO o a b 0 0 0 n q r [] ++ [_] = cadd (btO o a b 0 0 0 n q r []) o[n]
       exact (cadd_new hout.2 _).symm
     ·obtain ⟨i, j, k, pre, c⟩ := s
      simp only [cuE, cuRows]
      simp only [cuU] at hqj hrk hIi hIl
      obtain ⟨hc, cb, cl, cr⟩ := I.st _ rfl
      dsimp only at hc cb cl cr
      have hpl : pre.length + 1 ≤ 2 * n := by simpa using hIl
      have C := between_T o a b i j k n q r pre c hc (by omega) (by omega) (by omega) (by omega) (by omega) (by omega) (by simp; omega)
      (repeat first | refine qE ?_ | refine qA ?_ | refine qC ?_ | refine qB ?_ | refine qD ?_); refine qJ (fun K hK => ?_); simp (maxSteps := 2000000) (disch := omega) only [push_cast, ↓Int.cast_ofNat_Int, Nat.reduceBEq, Nat.reduceAdd, Nat.reduceLT, Nat.reduceEqDiff, reduceIte, reduceCtorEq, Nat.reduceLeDiff, Nat.reduceSub, List.reduceReplicate, Nat.reduceMul, Int.reduceToNat, Nat.reducePow]; refine hK _ ?_; clear hK K
      (repeat first | refine qE ?_ | refine qA ?_ | refine qC ?_ | refine qB ?_ | refine qD ?_)
      refine zD rfl ?_
      (repeat first | refine qK ?_ | refine qG ?_ | refine qH ?_ | refine qF rfl ?_ | refine qL ?_ | refine qB ?_ | refine qE ?_ | refine qA ?_ | refine qC ?_ | refine qT ?_ | refine qW ?_)
      (repeat first | refine qE ?_ | refine qA ?_ | refine qC ?_ | refine qB ?_ | refine qD ?_); refine qJ (fun K hK => ?_); simp (maxSteps := 2000000) (disch := omega) only [push_cast, ↓Int.cast_ofNat_Int, Nat.reduceBEq, Nat.reduceAdd, Nat.reduceLT, Nat.reduceEqDiff, reduceIte, reduceCtorEq, Nat.reduceLeDiff, Nat.reduceSub, List.reduceReplicate, Nat.reduceMul, Int.reduceToNat, Nat.reducePow]; refine hK _ ?_; clear hK K
      (repeat first | refine qE ?_ | refine qA ?_ | refine qC ?_ | refine qB ?_ | refine qD ?_); refine qJ (fun K hK => ?_); simp (maxSteps := 2000000) (disch := omega) only [push_cast, ↓Int.cast_ofNat_Int, Nat.reduceBEq, Nat.reduceAdd, Nat.reduceLT, Nat.reduceEqDiff, reduceIte, reduceCtorEq, Nat.reduceLeDiff, Nat.reduceSub, List.reduceReplicate, Nat.reduceMul, Int.reduceToNat, Nat.reducePow, lx, px n hn, v1, ly, py n hn, v2]; refine hK _ ?_; clear hK K
      (repeat first | refine qE ?_ | refine qA ?_ | refine qC ?_ | refine qB ?_ | refine qD ?_)
      refine zD rfl ?_
      refine zB [11, 12, 13, 14, 16, 17, 18, 61, 62] [136, 328, 400, 9000, 1000002, 1000003, 1000004] (by simp only [qZ, qR, qP, qQ, qN, qS, qM, qX, qU, Nat.reduceEqDiff, reduceIte]; exact rfl) ?_
      (repeat first | refine qE ?_ | refine qA ?_ | refine qC ?_ | refine qB ?_ | refine qD ?_); refine HW_drw 9 mixed (by kernel_rfl) (fun K hK => ?_); simp (maxSteps := 2000000) (disch := omega) only [push_cast, ↓Int.cast_ofNat_Int, Nat.reduceBEq, Nat.reduceAdd, Nat.reduceLT, Nat.reduceEqDiff, reduceIte, reduceCtorEq, Nat.reduceLeDiff, Nat.reduceSub, List.reduceReplicate, Nat.reduceMul, Int.reduceToNat, Nat.reducePow, lx, px n hn, v1, ly, py n hn, v2, ints_wid]
      with_reducible refine hstop ?_; simp (maxSteps := 2000000) (disch := omega) only [push_cast, ↓Int.cast_ofNat_Int, Nat.reduceBEq, Nat.reduceAdd, Nat.reduceLT, Nat.reduceEqDiff, reduceIte, reduceCtorEq, Nat.reduceLeDiff, Nat.reduceSub, List.reduceReplicate, Nat.reduceMul, Int.reduceToNat, Nat.reducePow]
      refine hatS 688 [136, 9000, 1000002, 1000003, 1000004] cl69 (C) rfl (by decide) (by decide) (by simp only [push_cast, pos_nil, zF, Option.getD_some, Bool.or_true, Bool.or_false, Bool.and_true, Bool.and_false, Option.map_some, Option.map_none, Nat.zero_add, List.map_append, ckH_ren, Nat.reduceBEq, Nat.reduceAdd, Nat.reduceLT, Nat.reduceEqDiff, reduceIte, reduceCtorEq, Nat.reduceLeDiff, Nat.reduceSub, List.reduceReplicate, Nat.reduceMul, Int.reduceToNat, Int.toNat_natCast, Nat.reducePow]; try rfl) (by simp only [push_cast, pos_nil, zF, Option.getD_some, Bool.or_true, Bool.or_false, Bool.and_true, Bool.and_false, Option.map_some, Option.map_none, Nat.zero_add, List.map_append, ckH_ren, Nat.reduceBEq, Nat.reduceAdd, Nat.reduceLT, Nat.reduceEqDiff, reduceIte, reduceCtorEq, Nat.reduceLeDiff, Nat.reduceSub, List.reduceReplicate, Nat.reduceMul, Int.reduceToNat, Int.toNat_natCast, Nat.reducePow]; try rfl) ?_
      rintro _ _ ⟨rfl, ⟨hps, rfl⟩ | ⟨hst, rfl⟩⟩
      ·have hbo : btO o a b i j k n q r (pre ++ [c]) = (pre ++ [c]) ++ [⟨false, (o.take n).drop i, (a.take q).drop j, (b.take r).drop k⟩] := by rw [btO, betw, if_pos hps]
       have hlast : ∀ c', (btO o a b i j k n q r (pre ++ [c])).getLast? = some c' → c'.st = false := fun c' hc' => by rw [hbo] at hc'; simp at hc'; subst hc'; rfl
       have hol : (btO o a b i j k n q r (pre ++ [c])).length ≤ 2 * n + 1 := by rw [hbo]; simp; omega
       have C2 := stable_S o a b n q r n (btO o a b i j k n q r (pre ++ [c])) hlast hn (by omega) (by omega) (by omega) (by omega) (by omega)
       refine hstop ?_; simp (maxSteps := 2000000) (disch := omega) only [push_cast, ↓Int.cast_ofNat_Int, Nat.reduceBEq, Nat.reduceAdd, Nat.reduceLT, Nat.reduceEqDiff, reduceIte, reduceCtorEq, Nat.reduceLeDiff, Nat.reduceSub, List.reduceReplicate, Nat.reduceMul, Int.reduceToNat, Nat.reducePow, ckH_ren, ckH_kill, List.map_append, Option.getD_some, Bool.or_true, Bool.or_false, Bool.and_true, Bool.and_false, Nat.zero_add, pos_nil, zF, Option.map_some, Option.map_none]
       refine hK _ ?_; clear hK K
       refine zB [11, 12, 13, 14, 16, 17, 18, 61, 62] [136, 328, 400, 9000] (by simp only [qZ, qR, qP, qQ, qN, qS, qM, qX, qU, Nat.reduceEqDiff, reduceIte]; exact rfl) ?_
       (repeat first | refine qE ?_ | refine qA ?_ | refine qC ?_ | refine qB ?_ | refine qD ?_); refine qJ (fun K hK => ?_); simp (maxSteps := 2000000) (disch := omega) only [push_cast, ↓Int.cast_ofNat_Int, Nat.reduceBEq, Nat.reduceAdd, Nat.reduceLT, Nat.reduceEqDiff, reduceIte, reduceCtorEq, Nat.reduceLeDiff, Nat.reduceSub, List.reduceReplicate, Nat.reduceMul, Int.reduceToNat, Nat.reducePow]
       refine hatS 704 [136, 9000] cl70 (C2) rfl (by decide) (by decide) (by simp only [push_cast, pos_nil, zF, Option.getD_some, Bool.or_true, Bool.or_false, Bool.and_true, Bool.and_false, Option.map_some, Option.map_none, Nat.zero_add, Nat.reduceBEq, Nat.reduceAdd, Nat.reduceLT, Nat.reduceEqDiff, reduceIte, reduceCtorEq, Nat.reduceLeDiff, Nat.reduceSub, List.reduceReplicate, Nat.reduceMul, Int.reduceToNat, Int.toNat_natCast, Nat.reducePow]; try rfl) (by simp only [push_cast, pos_nil, zF, Option.getD_some, Bool.or_true, Bool.or_false, Bool.and_true, Bool.and_false, Option.map_some, Option.map_none, Nat.zero_add, Nat.reduceBEq, Nat.reduceAdd, Nat.reduceLT, Nat.reduceEqDiff, reduceIte, reduceCtorEq, Nat.reduceLeDiff, Nat.reduceSub, List.reduceReplicate, Nat.reduceMul, Int.reduceToNat, Int.toNat_natCast, Nat.reducePow]; try rfl) ?_
       rintro _ _ ⟨rfl, rfl⟩
       refine hstop ?_; simp (maxSteps := 2000000) (disch := omega) only [push_cast, ↓Int.cast_ofNat_Int, Nat.reduceBEq, Nat.reduceAdd, Nat.reduceLT, Nat.reduceEqDiff, reduceIte, reduceCtorEq, Nat.reduceLeDiff, Nat.reduceSub, List.reduceReplicate, Nat.reduceMul, Int.reduceToNat, Nat.reducePow, ckH_ren, List.map_append, Option.getD_some, Bool.or_true, Bool.or_false, Bool.and_true, Bool.and_false, Nat.zero_add, pos_nil, zF, Option.map_some, Option.map_none]
       refine hK _ ?_; clear hK K
       (repeat first | refine qK ?_ | refine qG ?_ | refine qH ?_ | refine qF rfl ?_ | refine qL ?_ | refine qB ?_ | refine qE ?_ | refine qA ?_ | refine qC ?_ | refine qT ?_ | refine qW ?_)
       refine zB [11, 12, 13, 14, 16, 17, 61, 62] [136, 328, 400, 9000, 706, 707, 708] (by simp only [qZ, qR, qP, qQ, qN, qS, qM, qX, qU, Nat.reduceEqDiff, reduceIte]; exact rfl) ?_
       refine HW_name 706 1000002 (by decide) rfl rfl (by simp only [name_eq, nm_eq, eren_nil, eren_cons, sren_nil, sren_cons, hren_v, hren_lst, hren_own, hren_ptr, hren_vw, hren_agg, hren_tup, hren_junk, rren_sl, rren_bx, rren_hl, Nat.reduceMul, Nat.reduceAdd, Nat.reduceEqDiff, reduceIte, List.map_cons, List.map_nil, List.map_append, ckH_ren]; exact rfl) ?_
       refine HW_name 707 1000003 (by decide) rfl rfl (by simp only [name_eq, nm_eq, eren_nil, eren_cons, sren_nil, sren_cons, hren_v, hren_lst, hren_own, hren_ptr, hren_vw, hren_agg, hren_tup, hren_junk, rren_sl, rren_bx, rren_hl, Nat.reduceMul, Nat.reduceAdd, Nat.reduceEqDiff, reduceIte, List.map_cons, List.map_nil, List.map_append, ckH_ren]; exact rfl) ?_
       refine HW_name 708 1000004 (by decide) rfl rfl (by simp only [name_eq, nm_eq, eren_nil, eren_cons, sren_nil, sren_cons, hren_v, hren_lst, hren_own, hren_ptr, hren_vw, hren_agg, hren_tup, hren_junk, rren_sl, rren_bx, rren_hl, Nat.reduceMul, Nat.reduceAdd, Nat.reduceEqDiff, reduceIte, List.map_cons, List.map_nil, List.map_append, ckH_ren]; exact rfl) ?_
       (repeat first | refine qE ?_ | refine qA ?_ | refine qC ?_ | refine qB ?_ | refine qD ?_); refine qJ (fun K hK => ?_); simp (maxSteps := 2000000) (disch := omega) only [push_cast, ↓Int.cast_ofNat_Int, Nat.reduceBEq, Nat.reduceAdd, Nat.reduceLT, Nat.reduceEqDiff, reduceIte, reduceCtorEq, Nat.reduceLeDiff, Nat.reduceSub, List.reduceReplicate, Nat.reduceMul, Int.reduceToNat, Nat.reducePow]; refine hK _ ?_; clear hK K
       (repeat first | refine qK ?_ | refine qG ?_ | refine qH ?_ | refine qF rfl ?_ | refine qL ?_ | refine qB ?_ | refine qE ?_ | refine qA ?_ | refine qC ?_ | refine qT ?_ | refine qW ?_)
       refine ⟨(n + 1, some ⟨n + 1, q + 1, r + 1, btO o a b i j k n q r (pre ++ [c]), ⟨true, [o[n]], [o[n]], [o[n]]⟩⟩), by simp only [qZ, qR, qP, qQ, qN, qS, qM, qX, qU, Nat.reduceEqDiff, reduceIte, cuE, cuRows]; try rfl, I.step hn e1 e2 _ rfl rfl rfl rfl (by simp) (by simp) (by simp) ?_ ?_, by dsimp only; omega⟩
       ·dsimp only; omega
       ·show btO o a b i j k n q r (pre ++ [c]) ++ [_] = cadd (btO o a b i j k n q r (pre ++ [c])) o[n]
        exact (cadd_new hlast _).symm
      ·have C2 := stable_T o a b n q r n pre c hn (by omega) (by omega) (by omega) (by omega) (by omega) (by omega) (by omega) (by omega)
       refine hstop ?_; simp (maxSteps := 2000000) (disch := omega) only [push_cast, ↓Int.cast_ofNat_Int, Nat.reduceBEq, Nat.reduceAdd, Nat.reduceLT, Nat.reduceEqDiff, reduceIte, reduceCtorEq, Nat.reduceLeDiff, Nat.reduceSub, List.reduceReplicate, Nat.reduceMul, Int.reduceToNat, Nat.reducePow, ckH_ren, ckH_kill, List.map_append, Option.getD_some, Bool.or_true, Bool.or_false, Bool.and_true, Bool.and_false, Nat.zero_add, pos_nil, zF, Option.map_some, Option.map_none]
       refine hK _ ?_; clear hK K
       refine zB [11, 12, 13, 14, 16, 17, 18, 61, 62] [136, 328, 400, 9000, 1000002, 1000003, 1000004] (by simp only [qZ, qR, qP, qQ, qN, qS, qM, qX, qU, Nat.reduceEqDiff, reduceIte]; exact rfl) ?_
       (repeat first | refine qE ?_ | refine qA ?_ | refine qC ?_ | refine qB ?_ | refine qD ?_); refine qJ (fun K hK => ?_); simp (maxSteps := 2000000) (disch := omega) only [push_cast, ↓Int.cast_ofNat_Int, Nat.reduceBEq, Nat.reduceAdd, Nat.reduceLT, Nat.reduceEqDiff, reduceIte, reduceCtorEq, Nat.reduceLeDiff, Nat.reduceSub, List.reduceReplicate, Nat.reduceMul, Int.reduceToNat, Nat.reducePow]
       refine hatS 704 [136, 9000, 1000002, 1000003, 1000004] cl70 (C2) rfl (by decide) (by decide) (by simp only [push_cast, pos_nil, zF, Option.getD_some, Bool.or_true, Bool.or_false, Bool.and_true, Bool.and_false, Option.map_some, Option.map_none, Nat.zero_add, List.map_append, ckH_ren, Nat.reduceBEq, Nat.reduceAdd, Nat.reduceLT, Nat.reduceEqDiff, reduceIte, reduceCtorEq, Nat.reduceLeDiff, Nat.reduceSub, List.reduceReplicate, Nat.reduceMul, Int.reduceToNat, Int.toNat_natCast, Nat.reducePow]; try rfl) (by simp only [push_cast, pos_nil, zF, Option.getD_some, Bool.or_true, Bool.or_false, Bool.and_true, Bool.and_false, Option.map_some, Option.map_none, Nat.zero_add, List.map_append, ckH_ren, Nat.reduceBEq, Nat.reduceAdd, Nat.reduceLT, Nat.reduceEqDiff, reduceIte, reduceCtorEq, Nat.reduceLeDiff, Nat.reduceSub, List.reduceReplicate, Nat.reduceMul, Int.reduceToNat, Int.toNat_natCast, Nat.reducePow]; try rfl) ?_
       rintro _ _ ⟨rfl, rfl⟩
       refine hstop ?_; simp (maxSteps := 2000000) (disch := omega) only [push_cast, ↓Int.cast_ofNat_Int, Nat.reduceBEq, Nat.reduceAdd, Nat.reduceLT, Nat.reduceEqDiff, reduceIte, reduceCtorEq, Nat.reduceLeDiff, Nat.reduceSub, List.reduceReplicate, Nat.reduceMul, Int.reduceToNat, Nat.reducePow, ckH_ren, ckH_kill, List.map_append, Option.getD_some, Bool.or_true, Bool.or_false, Bool.and_true, Bool.and_false, Nat.zero_add, pos_nil, zF, Option.map_some, Option.map_none]
       refine hK _ ?_; clear hK K
       (repeat first | refine qK ?_ | refine qG ?_ | refine qH ?_ | refine qF rfl ?_ | refine qL ?_ | refine qB ?_ | refine qE ?_ | refine qA ?_ | refine qC ?_ | refine qT ?_ | refine qW ?_)
       (repeat first | refine qE ?_ | refine qA ?_ | refine qC ?_ | refine qB ?_ | refine qD ?_); refine qJ (fun K hK => ?_); simp (maxSteps := 2000000) (disch := omega) only [push_cast, ↓Int.cast_ofNat_Int, Nat.reduceBEq, Nat.reduceAdd, Nat.reduceLT, Nat.reduceEqDiff, reduceIte, reduceCtorEq, Nat.reduceLeDiff, Nat.reduceSub, List.reduceReplicate, Nat.reduceMul, Int.reduceToNat, Nat.reducePow]; refine hK _ ?_; clear hK K
       (repeat first | refine qK ?_ | refine qG ?_ | refine qH ?_ | refine qF rfl ?_ | refine qL ?_ | refine qB ?_ | refine qE ?_ | refine qA ?_ | refine qC ?_ | refine qT ?_ | refine qW ?_)
       refine ⟨(n + 1, some ⟨n + 1, q + 1, r + 1, pre, ⟨true, c.b ++ [o[n]], c.l ++ [o[n]], c.r ++ [o[n]]⟩⟩), by simp only [qZ, qR, qP, qQ, qN, qS, qM, qX, qU, Nat.reduceEqDiff, reduceIte, cuE, cuRows]; try rfl, I.step hn e1 e2 _ rfl rfl rfl rfl (by simp; omega) (by simp; omega) (by simp; omega) (by dsimp only; omega) ?_, by dsimp only; omega⟩
       show pre ++ [_] = cadd (betw o a b ⟨i, j, k, pre ++ [c]⟩ n q r).out o[n]
       rw [betw, if_neg hst]
       exact (cadd_on hc _).symm
  ·have hne : n = o.length := by have := I.le; omega
   subst hne
   have hF : chunks o a b = (betw o a b (cuU p) o.length a.length b.length).out := by
    have := I.rest
    rw [Nat.sub_self, chI] at this
    rw [chunks, ← this]
   have hIi := I.i
   have hIj := I.j.le
   have hIk := I.k.le
   have hIl := I.len
   rcases p with _ | s
   ·simp only [cuE, cuRows]
    have C := between_S o a b 0 0 0 o.length a.length b.length [] (by omega) (by omega) (by omega) (by omega) (by omega) (by omega) (by simp)
    (repeat first | refine qE ?_ | refine qA ?_ | refine qC ?_ | refine qB ?_ | refine qD ?_); refine qJ (fun K hK => ?_); simp (maxSteps := 2000000) (disch := omega) only [push_cast, ↓Int.cast_ofNat_Int, Nat.reduceBEq, Nat.reduceAdd, Nat.reduceLT, Nat.reduceEqDiff, reduceIte, reduceCtorEq, Nat.reduceLeDiff, Nat.reduceSub, List.reduceReplicate, Nat.reduceMul, Int.reduceToNat, Nat.reducePow]; refine hK _ ?_; clear hK K
    (repeat first | refine qE ?_ | refine qA ?_ | refine qC ?_ | refine qB ?_ | refine qD ?_)
    refine zC rfl ?_
    (repeat first | refine qK ?_ | refine qG ?_ | refine qH ?_ | refine qF rfl ?_ | refine qL ?_ | refine qB ?_ | refine qE ?_ | refine qA ?_ | refine qC ?_ | refine qT ?_ | refine qW ?_)
    refine zB [11, 12, 13, 17] [136, 9000] (by simp only [qZ, qR, qP, qQ, qN, qS, qM, qX, qU, Nat.reduceEqDiff, reduceIte]; exact rfl) ?_
    (repeat first | refine qE ?_ | refine qA ?_ | refine qC ?_ | refine qB ?_ | refine qD ?_); refine qJ (fun K hK => ?_); simp (maxSteps := 2000000) (disch := omega) only [push_cast, ↓Int.cast_ofNat_Int, Nat.reduceBEq, Nat.reduceAdd, Nat.reduceLT, Nat.reduceEqDiff, reduceIte, reduceCtorEq, Nat.reduceLeDiff, Nat.reduceSub, List.reduceReplicate, Nat.reduceMul, Int.reduceToNat, Nat.reducePow, strs_len]
    refine hatS 768 [136, 9000] cl69 (C) rfl (by decide) (by decide) (by simp only [push_cast, pos_nil, zF, Option.getD_some, Bool.or_true, Bool.or_false, Bool.and_true, Bool.and_false, Option.map_some, Option.map_none, Nat.zero_add, Nat.reduceBEq, Nat.reduceAdd, Nat.reduceLT, Nat.reduceEqDiff, reduceIte, reduceCtorEq, Nat.reduceLeDiff, Nat.reduceSub, List.reduceReplicate, Nat.reduceMul, Int.reduceToNat, Int.toNat_natCast, Nat.reducePow]; try rfl) (by simp only [push_cast, pos_nil, zF, Option.getD_some, Bool.or_true, Bool.or_false, Bool.and_true, Bool.and_false, Option.map_some, Option.map_none, Nat.zero_add, Nat.reduceBEq, Nat.reduceAdd, Nat.reduceLT, Nat.reduceEqDiff, reduceIte, reduceCtorEq, Nat.reduceLeDiff, Nat.reduceSub, List.reduceReplicate, Nat.reduceMul, Int.reduceToNat, Int.toNat_natCast, Nat.reducePow]; try rfl) ?_
    rintro _ _ ⟨rfl, rfl⟩
    refine hstop ?_; simp (maxSteps := 2000000) (disch := omega) only [push_cast, ↓Int.cast_ofNat_Int, Nat.reduceBEq, Nat.reduceAdd, Nat.reduceLT, Nat.reduceEqDiff, reduceIte, reduceCtorEq, Nat.reduceLeDiff, Nat.reduceSub, List.reduceReplicate, Nat.reduceMul, Int.reduceToNat, Nat.reducePow, Option.getD_some, Bool.or_true, Bool.or_false, Bool.and_true, Bool.and_false, Nat.zero_add, pos_nil, zF, Option.map_some, Option.map_none]
    refine hK _ ?_; clear hK K
    refine zB [17] [136, 9000] (by simp only [qZ, qR, qP, qQ, qN, qS, qM, qX, qU, Nat.reduceEqDiff, reduceIte]; exact rfl) ?_
    (repeat first | refine qE ?_ | refine qA ?_ | refine qC ?_ | refine qB ?_ | refine qD ?_); refine qJ (fun K hK => ?_); simp (maxSteps := 2000000) (disch := omega) only [push_cast, ↓Int.cast_ofNat_Int, Nat.reduceBEq, Nat.reduceAdd, Nat.reduceLT, Nat.reduceEqDiff, reduceIte, reduceCtorEq, Nat.reduceLeDiff, Nat.reduceSub, List.reduceReplicate, Nat.reduceMul, Int.reduceToNat, Nat.reducePow]; refine hK _ ?_; clear hK K
    (repeat first | refine qK ?_ | refine qG ?_ | refine qH ?_ | refine qF rfl ?_ | refine qL ?_ | refine qB ?_ | refine qE ?_ | refine qA ?_ | refine qC ?_ | refine qT ?_ | refine qW ?_)
    simp only [zA, zM, zH, zE, zK, zJ, qS, qM, Nat.reduceEqDiff, reduceIte, reduceCtorEq]
    exact hres_ov rfl (cks_fresh _) (.inr ⟨t0, t1, t2, rfl, by rw [hF]; rfl⟩)
   ·obtain ⟨i, j, k, pre, c⟩ := s
    simp only [cuU] at hIi hIj hIk hIl
    obtain ⟨hc, -, -, -⟩ := I.st _ rfl
    dsimp only at hc
    have hpl : pre.length + 1 ≤ 2 * o.length := by simpa using hIl
    have C := between_T o a b i j k o.length a.length b.length pre c hc (by omega) (by omega) (by omega) (by omega) (by omega) (by omega) (by simp; omega)
    simp only [cuE, cuRows]
    (repeat first | refine qE ?_ | refine qA ?_ | refine qC ?_ | refine qB ?_ | refine qD ?_); refine qJ (fun K hK => ?_); simp (maxSteps := 2000000) (disch := omega) only [push_cast, ↓Int.cast_ofNat_Int, Nat.reduceBEq, Nat.reduceAdd, Nat.reduceLT, Nat.reduceEqDiff, reduceIte, reduceCtorEq, Nat.reduceLeDiff, Nat.reduceSub, List.reduceReplicate, Nat.reduceMul, Int.reduceToNat, Nat.reducePow]; refine hK _ ?_; clear hK K
    (repeat first | refine qE ?_ | refine qA ?_ | refine qC ?_ | refine qB ?_ | refine qD ?_)
    refine zC rfl ?_
    (repeat first | refine qK ?_ | refine qG ?_ | refine qH ?_ | refine qF rfl ?_ | refine qL ?_ | refine qB ?_ | refine qE ?_ | refine qA ?_ | refine qC ?_ | refine qT ?_ | refine qW ?_)
    refine zB [11, 12, 13, 17] [136, 9000, 1000002, 1000003, 1000004] (by simp only [qZ, qR, qP, qQ, qN, qS, qM, qX, qU, Nat.reduceEqDiff, reduceIte]; exact rfl) ?_
    (repeat first | refine qE ?_ | refine qA ?_ | refine qC ?_ | refine qB ?_ | refine qD ?_); refine qJ (fun K hK => ?_); simp (maxSteps := 2000000) (disch := omega) only [push_cast, ↓Int.cast_ofNat_Int, Nat.reduceBEq, Nat.reduceAdd, Nat.reduceLT, Nat.reduceEqDiff, reduceIte, reduceCtorEq, Nat.reduceLeDiff, Nat.reduceSub, List.reduceReplicate, Nat.reduceMul, Int.reduceToNat, Nat.reducePow, strs_len]
    refine hatS 768 [136, 9000, 1000002, 1000003, 1000004] cl69 (C) rfl (by decide) (by decide) (by simp only [push_cast, pos_nil, zF, Option.getD_some, Bool.or_true, Bool.or_false, Bool.and_true, Bool.and_false, Option.map_some, Option.map_none, Nat.zero_add, List.map_append, ckH_ren, Nat.reduceBEq, Nat.reduceAdd, Nat.reduceLT, Nat.reduceEqDiff, reduceIte, reduceCtorEq, Nat.reduceLeDiff, Nat.reduceSub, List.reduceReplicate, Nat.reduceMul, Int.reduceToNat, Int.toNat_natCast, Nat.reducePow]; try rfl) (by simp only [push_cast, pos_nil, zF, Option.getD_some, Bool.or_true, Bool.or_false, Bool.and_true, Bool.and_false, Option.map_some, Option.map_none, Nat.zero_add, List.map_append, ckH_ren, Nat.reduceBEq, Nat.reduceAdd, Nat.reduceLT, Nat.reduceEqDiff, reduceIte, reduceCtorEq, Nat.reduceLeDiff, Nat.reduceSub, List.reduceReplicate, Nat.reduceMul, Int.reduceToNat, Int.toNat_natCast, Nat.reducePow]; try rfl) ?_
    rintro _ _ ⟨rfl, ⟨hps, rfl⟩ | ⟨hst, rfl⟩⟩
    ·refine hstop ?_; simp (maxSteps := 2000000) (disch := omega) only [push_cast, ↓Int.cast_ofNat_Int, Nat.reduceBEq, Nat.reduceAdd, Nat.reduceLT, Nat.reduceEqDiff, reduceIte, reduceCtorEq, Nat.reduceLeDiff, Nat.reduceSub, List.reduceReplicate, Nat.reduceMul, Int.reduceToNat, Nat.reducePow, ckH_ren, ckH_kill, List.map_append, Option.getD_some, Bool.or_true, Bool.or_false, Bool.and_true, Bool.and_false, Nat.zero_add, pos_nil, zF, Option.map_some, Option.map_none]
     refine hK _ ?_; clear hK K
     refine zB [17] [136, 9000] (by simp only [qZ, qR, qP, qQ, qN, qS, qM, qX, qU, Nat.reduceEqDiff, reduceIte]; exact rfl) ?_
     (repeat first | refine qE ?_ | refine qA ?_ | refine qC ?_ | refine qB ?_ | refine qD ?_); refine qJ (fun K hK => ?_); simp (maxSteps := 2000000) (disch := omega) only [push_cast, ↓Int.cast_ofNat_Int, Nat.reduceBEq, Nat.reduceAdd, Nat.reduceLT, Nat.reduceEqDiff, reduceIte, reduceCtorEq, Nat.reduceLeDiff, Nat.reduceSub, List.reduceReplicate, Nat.reduceMul, Int.reduceToNat, Nat.reducePow]; refine hK _ ?_; clear hK K
     (repeat first | refine qK ?_ | refine qG ?_ | refine qH ?_ | refine qF rfl ?_ | refine qL ?_ | refine qB ?_ | refine qE ?_ | refine qA ?_ | refine qC ?_ | refine qT ?_ | refine qW ?_)
     simp only [zA, zM, zH, zE, zK, zJ, qS, qM, Nat.reduceEqDiff, reduceIte, reduceCtorEq]
     exact hres_ov rfl (cks_fresh _) (.inr ⟨t0, t1, t2, rfl, by rw [hF]; rfl⟩)
    ·refine hstop ?_; simp (maxSteps := 2000000) (disch := omega) only [push_cast, ↓Int.cast_ofNat_Int, Nat.reduceBEq, Nat.reduceAdd, Nat.reduceLT, Nat.reduceEqDiff, reduceIte, reduceCtorEq, Nat.reduceLeDiff, Nat.reduceSub, List.reduceReplicate, Nat.reduceMul, Int.reduceToNat, Nat.reducePow, ckH_ren, ckH_kill, List.map_append, Option.getD_some, Bool.or_true, Bool.or_false, Bool.and_true, Bool.and_false, Nat.zero_add, pos_nil, zF, Option.map_some, Option.map_none]
     refine hK _ ?_; clear hK K
     refine zB [17] [136, 9000, 1000002, 1000003, 1000004] (by simp only [qZ, qR, qP, qQ, qN, qS, qM, qX, qU, Nat.reduceEqDiff, reduceIte]; exact rfl) ?_
     have e1 : ckH pre ++ [[.v (.bool true), .lst true (strs c.b), .lst true (strs c.l), .lst true (strs c.r)]] = (cks (pre ++ [c])).map (List.map FV.h) := by
      rw [ckH_snoc]; cases c; simp only at hc; subst hc; rfl
     refine HW_restS 1000002 rfl (by simp only [rest_eq, esub_nil, esub_cons, ssub_nil, ssub_cons, hsub_v, hsub_lst, hsub_elt, hsub_junk, hsub_own, hsub_ptr, hsub_vw, hsub_agg, hsub_tup, rsub_sl, rsub_hl, rsub_bx, Nat.reduceEqDiff, reduceIte, List.map_cons, List.map_nil, List.map_append, ckH_sub]; exact rfl) ?_
     refine HW_restS 1000003 rfl (by simp only [rest_eq, esub_nil, esub_cons, ssub_nil, ssub_cons, hsub_v, hsub_lst, hsub_elt, hsub_junk, hsub_own, hsub_ptr, hsub_vw, hsub_agg, hsub_tup, rsub_sl, rsub_hl, rsub_bx, Nat.reduceEqDiff, reduceIte, List.map_cons, List.map_nil, List.map_append, ckH_sub]; exact rfl) ?_
     refine HW_restS 1000004 rfl (by simp only [rest_eq, esub_nil, esub_cons, ssub_nil, ssub_cons, hsub_v, hsub_lst, hsub_elt, hsub_junk, hsub_own, hsub_ptr, hsub_vw, hsub_agg, hsub_tup, rsub_sl, rsub_hl, rsub_bx, Nat.reduceEqDiff, reduceIte, List.map_cons, List.map_nil, List.map_append, ckH_sub]; exact rfl) ?_
     refine HW_sl 9000 (cks (pre ++ [c])) e1 rfl (by simp only [sset_nil, sset_cons, Nat.reduceEqDiff, reduceIte]; exact rfl) ?_
     (repeat first | refine qE ?_ | refine qA ?_ | refine qC ?_ | refine qB ?_ | refine qD ?_); refine qJ (fun K hK => ?_); simp (maxSteps := 2000000) (disch := omega) only [push_cast, ↓Int.cast_ofNat_Int, Nat.reduceBEq, Nat.reduceAdd, Nat.reduceLT, Nat.reduceEqDiff, reduceIte, reduceCtorEq, Nat.reduceLeDiff, Nat.reduceSub, List.reduceReplicate, Nat.reduceMul, Int.reduceToNat, Nat.reducePow]; refine hK _ ?_; clear hK K
     (repeat first | refine qK ?_ | refine qG ?_ | refine qH ?_ | refine qF rfl ?_ | refine qL ?_ | refine qB ?_ | refine qE ?_ | refine qA ?_ | refine qC ?_ | refine qT ?_ | refine qW ?_)
     simp only [zA, zM, zH, zE, zK, zJ, qS, qM, Nat.reduceEqDiff, reduceIte, reduceCtorEq]
     refine hres_ov rfl (cks_fresh _) (.inr ⟨t0, t1, t2, rfl, ?_⟩)
     rw [hF]
     show [(0, Row.sl true 77 4 (cks (pre ++ [c])))] = [(0, Row.sl true 77 4 (cks (betw o a b ⟨i, j, k, pre ++ [c]⟩ o.length a.length b.length).out))]
     rw [betw, if_neg hst]
end Go.Proofs.Ytlfenddhppoflaa
