/-
  strings.Join without a separator; wire.Join.
-/
import Derived.Test.YtdfjeokjmigkaaaGreatMgC
import Derived.Test.YtdfjeokjmigkaaaGreatTrD
import Derived.Test.YtdfjeokjmigkaaaGreatGc
import Derived.Test.YtdfjeokjmigkaaaGreatTyZ
section
set_option linter.unusedSimpArgs false
set_option linter.unusedVariables false
set_option maxRecDepth 20000
namespace Go.Proofs.YtdfjeokjmigkaaaGreat
open Go Go.Eng Go.RowKit Go.DiffM


theorem qTu (l : List (Ck ByteArray)) (x : List HV) : (ckH l ++ [x]).length = l.length + 1 := by simp [qCt]
theorem qHn (l : List (Ck ByteArray)) (x d : List HV) : (ckH l ++ [x]).getD l.length d = x := by
 rw [List.getD_eq_getElem?_getD, List.getElem?_append_right (by rw [qCt]; exact Nat.le_refl _), qCt, Nat.sub_self]; rfl
theorem qZ4 (l : List (Ck ByteArray)) (x y : List HV) : (ckH l ++ [x]).set l.length y = ckH l ++ [y] := by
 rw [List.set_append_right _ _ (by rw [qCt]; exact Nat.le_refl _), qCt, Nat.sub_self]; rfl
abbrev ckJ (pre : List (Ck ByteArray)) (x y z : HV) : Row := .hl true 77 4 (ckH pre ++ [[.v (.bool true), x, y, z]])
abbrev nD (l : List ByteArray) : Row := .sl true 9 1 (aR l)
set_option maxHeartbeats 4000000 in
theorem zE2 (o a b : List ByteArray) (i j k m : Nat) (pre : List (Ck ByteArray)) (c : Ck ByteArray) (hm : m < o.length) (ho : o.length ≤ 1000) (hi : i ≤ 1000) (hj : j ≤ 1000) (hk : k ≤ 1000) (hn : pre.length ≤ 10000) (hB : c.b.length ≤ 10000) (hL : c.l.length ≤ 10000) (hR : c.r.length ≤ 10000) :
  HFunS Tryz.prog 67 [.ptr 0 7 0 0, .v (.int .i64 m)] (cuT o a b i j k pre c) (fun h st => h = .tup [] ∧ st = cuT o a b (i + 1) (j + 1) (k + 1) pre ⟨true, c.b ++ [o[m]], c.l ++ [o[m]], c.r ++ [o[m]]⟩) := by
 refine qJ6 (N := 105) Tryz.func67 rfl Tryz.ntmps67 Tryz.results67 (by simp) ?_
 have e0 : (pre.length : Int) + 1 - 1 = (pre.length : Int) := by omega
 refine zE ?_; refine zJ (fun K hK => ?_); simp (disch := omega) only [push_cast, ↓Int.cast_ofNat_Int, simprocAttr, aN, fX, oM hm]; refine hK _ ?_; clear hK K
 refine zE ?_; refine zE ?_; refine zJ (fun K hK => ?_); simp (disch := omega) only [push_cast, ↓Int.cast_ofNat_Int, simprocAttr, qTu, e0]; refine hK _ ?_; clear hK K
 refine yB [0, 4, 5] [0, 1, 2, 3, 4] (by simp only [zZ, zR, zP, zQ, zN, zS, zM, zX, zU, Nat.reduceEqDiff, reduceIte]; exact rfl) ?_
 refine zE ?_; refine zJ (fun K hK => ?_); simp (disch := omega) only [push_cast, ↓Int.cast_ofNat_Int, simprocAttr, qTu, qHn]; refine hK _ ?_; clear hK K
 refine zA ?_
 refine yD rfl ?_
 refine yB [0, 4, 5] [0, 1, 2, 3, 4] (by simp only [zZ, zR, zP, zQ, zN, zS, zM, zX, zU, Nat.reduceEqDiff, reduceIte]; exact rfl) ?_
 refine zE ?_; refine zJ (fun K hK => ?_); simp (disch := omega) only [push_cast, ↓Int.cast_ofNat_Int, simprocAttr, qTu, qHn]; refine hK _ ?_; clear hK K
 refine yB [0, 4, 6] [0, 1, 2, 3, 4] (by simp only [zZ, zR, zP, zQ, zN, zS, zM, zX, zU, Nat.reduceEqDiff, reduceIte]; exact rfl) ?_
 refine qQr 30 [(9, some 2), (16, some 3), (23, some 4), (26, none), (29, none)] [cuT o a b i j k pre c, [(2, nD (c.b ++ [o[m]])), (0, cuR o a b i j k), (1, ckJ pre .junk (.own 3) (.own 4)), (3, nD c.l), (4, nD c.r)], [(3, nD (c.l ++ [o[m]])), (2, nD (c.b ++ [o[m]])), (0, cuR o a b i j k), (1, ckJ pre .junk .junk (.own 4)), (4, nD c.r)], [(4, nD (c.r ++ [o[m]])), (3, nD (c.l ++ [o[m]])), (2, nD (c.b ++ [o[m]])), (0, cuR o a b i j k), (1, ckJ pre .junk .junk .junk)], [(4, nD (c.r ++ [o[m]])), (3, nD (c.l ++ [o[m]])), (2, nD (c.b ++ [o[m]])), (0, cuR o a b i j k), (1, ckJ pre (.own 2) .junk .junk)], [(4, nD (c.r ++ [o[m]])), (3, nD (c.l ++ [o[m]])), (2, nD (c.b ++ [o[m]])), (0, cuR o a b i j k), (1, ckJ pre (.own 2) (.own 3) .junk)]] [(6, 0, 0), (13, 0, 1), (20, 0, 2)] mixed (by kernel_rfl) (by kernel_rfl) rfl (fun K hK K1 hK1 => ?_); simp (disch := omega) only [push_cast, ↓Int.cast_ofNat_Int, simprocAttr, fE, dP, gR, fD, jS, uY, eY, dL, bW, cD, cS, bX, bY, jU, fG, fP, gY, gX, dQ, cE, cU, jX, jW, jV, fH, fJ, fN, fM, jY, eB, fL, gV, List.tail_cons, List.take_nil, List.drop_nil, qTu, qHn, qZ4, rM, List.map_append, aN, uK, fX]
 have w1 : Wid 1 [[FV.v (.string o[m])]] := by intro x hx; simp at hx; subst hx; rfl
 refine ⟨w1, w1, w1, ?_⟩
 refine hK1 _ ?_; (try clear hK1 K1); with_reducible refine aC ?_; simp (disch := omega) only [push_cast, ↓Int.cast_ofNat_Int, simprocAttr, qTu, qHn, qZ4]
 refine hK _ ?_; clear hK K
 refine zE ?_
 refine yB [0] [0, 1, 2, 3, 4] (by simp only [zZ, zR, zP, zQ, zN, zS, zM, zX, zU, Nat.reduceEqDiff, reduceIte]; exact rfl) ?_
 refine zJ (fun K hK => ?_); simp (disch := omega) only [push_cast, ↓Int.cast_ofNat_Int, simprocAttr]; refine hK _ ?_; clear hK K
 refine zE ?_; refine zJ (fun K hK => ?_); simp (disch := omega) only [push_cast, ↓Int.cast_ofNat_Int, simprocAttr]; refine hK _ ?_; clear hK K
 refine zA ?_; refine zJ (fun K hK => ?_); simp (disch := omega) only [push_cast, ↓Int.cast_ofNat_Int, simprocAttr]; refine hK _ ?_; clear hK K
 simp only [aP, bS, yH, yE, yK, yJ, cM, zS, zM, Nat.reduceEqDiff, reduceIte, reduceCtorEq]
 refine kQ [0, 1, 2, 3, 4] (by decide) (by decide) (by simp only [push_cast, simprocAttr, List.map_append, bL]) (by simp only [push_cast, simprocAttr, List.map_append, bL]) (by simp only [push_cast, simprocAttr, List.map_append, bL]; rfl) (by simp only [push_cast, simprocAttr, List.map_append, bL]; rfl) ?_
 exact ⟨rfl, rfl⟩
abbrev zKt (l : List (Ck ByteArray)) : Row := .hl true 77 4 (ckH l ++ [ckL 1000002 1000003 1000004])
set_option maxHeartbeats 4000000 in
theorem qQ1 (o a b : List ByteArray) (i j k : Nat) (s : ByteArray) (out : List (Ck ByteArray)) (Q : eW) (hn : out.length ≤ 10000)
  (hQ : ∀ E R, vC [0] E = [(0, .ptr 0 7 0 0)] → qAe [0, 1, 1000002, 1000003, 1000004] R = [(0, cuR o a b i j k), (1, zKt out), (1000002, nD [s]), (1000003, nD [s]), (1000004, nD [s])] → Q .normal ⟨E, R⟩) :
  HW Tryz.prog 105 (cAt [1, 0, 1, 1, 3] (Tryz.f67.body.getD .skip)) Q ⟨[(0, .ptr 0 7 0 0), (4, .v (.string s))], cuS o a b i j k out⟩ := by
 unfold Tryz.f67
 dsimp only [Option.getD_some, cAt]
 have e0 : (cks out).map (List.map FV.h) = ckH out := rfl
 have e1 : [[FV.v (.string s)]] = aR [s] := rfl
 refine zTu 1 rfl (by simp only [uL, qC, List.map_cons, List.map_nil, zTd, zJh, Nat.reduceEqDiff, reduceIte, e0]; exact rfl) ?_
 refine zNl (fun K hK => ?_)
 refine zKa 11 [0, 68, 72, 74, 76, 78, 79, 80, 81, 82, 83] [0, 1, 592, 608, 624] ?_; simp (disch := omega) only [push_cast, ↓Int.cast_ofNat_Int, simprocAttr, e1]
 refine aC ?_; simp only [zZ, zR, zP, zQ, zN, zS, zM, zX, zU, Nat.reduceEqDiff, reduceIte, List.drop_succ_cons, List.drop_zero]
 refine qF7 592 1000002 (by decide) rfl rfl (by simp only [pQ, qEa, mU, kC, mD, jR, rC, jG, jF, kR, jZ, jH, jE, iS, mF, mH, mG, Nat.reduceMul, Nat.reduceAdd, Nat.reduceEqDiff, reduceIte, List.map_cons, List.map_nil]; exact rfl) ?_
 refine qF7 608 1000003 (by decide) rfl rfl (by simp only [pQ, qEa, mU, kC, mD, jR, rC, jG, jF, kR, jZ, jH, jE, iS, mF, mH, mG, Nat.reduceMul, Nat.reduceAdd, Nat.reduceEqDiff, reduceIte, List.map_cons, List.map_nil]; exact rfl) ?_
 refine qF7 624 1000004 (by decide) rfl rfl (by simp only [pQ, qEa, mU, kC, mD, jR, rC, jG, jF, kR, jZ, jH, jE, iS, mF, mH, mG, Nat.reduceMul, Nat.reduceAdd, Nat.reduceEqDiff, reduceIte, List.map_cons, List.map_nil]; exact rfl) ?_
 refine zJ9 ?_; simp (disch := omega) only [push_cast, ↓Int.cast_ofNat_Int, simprocAttr, qCt, rM, bL, List.map_append]
 refine hK _ ?_; clear hK K
 exact hQ _ _ (by simp only [zZ, zR, zP, zQ, zN, zS, zM, zX, zU, Nat.reduceEqDiff, reduceIte]) (by simp only [zZ, zR, zP, zQ, zN, zS, zM, zX, zU, Nat.reduceEqDiff, reduceIte])
theorem qZ3 {l : List (Ck ByteArray)} {i : Nat} {d : List FV} (h : i < l.length) : (cks l).getD i d = ckE l[i] := by unfold cks; rw [oT h]
set_option maxHeartbeats 4000000 in
theorem qQ0 (o a b : List ByteArray) (i j k m : Nat) (out : List (Ck ByteArray)) (hs : ∀ c, out.getLast? = some c → c.st = false) (hm : m < o.length) (ho : o.length ≤ 1000) (hi : i ≤ 1000) (hj : j ≤ 1000) (hk : k ≤ 1000) (hn : out.length ≤ 10000) :
  HFunS Tryz.prog 67 [.ptr 0 7 0 0, .v (.int .i64 m)] (cuS o a b i j k out) (fun h st => h = .tup [] ∧ st = cuT o a b (i + 1) (j + 1) (k + 1) out ⟨true, [o[m]], [o[m]], [o[m]]⟩) := by
 refine qJ6 (N := 105) Tryz.func67 rfl Tryz.ntmps67 Tryz.results67 (by simp) ?_
 refine zE ?_; refine zJ (fun K hK => ?_); simp (disch := omega) only [push_cast, ↓Int.cast_ofNat_Int, simprocAttr, aN, fX, oM hm]; refine hK _ ?_; clear hK K
 refine zE ?_; refine zE ?_; refine zJ (fun K hK => ?_); simp (disch := omega) only [push_cast, ↓Int.cast_ofNat_Int, simprocAttr, xY]; refine hK _ ?_; clear hK K
 refine yB [0, 4, 5] [0, 1] (by simp only [zZ, zR, zP, zQ, zN, zS, zM, zX, zU, Nat.reduceEqDiff, reduceIte]; exact rfl) ?_
 rcases List.eq_nil_or_concat out with rfl | ⟨q, c, rfl⟩
 ·refine zE ?_; refine zJ (fun K hK => ?_); simp (disch := omega) only [push_cast, ↓Int.cast_ofNat_Int, simprocAttr]; refine hK _ ?_; clear hK K
  refine zA ?_
  refine yC rfl ?_
  refine yB [0, 4] [0, 1] (by simp only [zZ, zR, zP, zQ, zN, zS, zM, zX, zU, Nat.reduceEqDiff, reduceIte]; exact rfl) ?_
  refine qQ1 o a b i j k o[m] [] _ hn (fun E R hE hR => ?_)
  refine zE ?_
  refine yB (S' := ⟨[(0, .ptr 0 7 0 0)], [(0, cuR o a b i j k), (1, zKt []), (1000002, nD [o[m]]), (1000003, nD [o[m]]), (1000004, nD [o[m]])]⟩) [0] [0, 1, 1000002, 1000003, 1000004] (by simp only [HS.keep]; rw [hE, hR]) ?_
  refine zJ (fun K hK => ?_); simp (disch := omega) only [push_cast, ↓Int.cast_ofNat_Int, simprocAttr]; refine hK _ ?_; clear hK K
  refine zE ?_; refine zJ (fun K hK => ?_); simp (disch := omega) only [push_cast, ↓Int.cast_ofNat_Int, simprocAttr]; refine hK _ ?_; clear hK K
  refine zA ?_; refine zJ (fun K hK => ?_); simp (disch := omega) only [push_cast, ↓Int.cast_ofNat_Int, simprocAttr]; refine hK _ ?_; clear hK K
  simp only [aP, bS, yH, yE, yK, yJ, cM, zS, zM, Nat.reduceEqDiff, reduceIte, reduceCtorEq]
  refine kQ [0, 1, 1000002, 1000003, 1000004] (by decide) (by decide) (by simp only [push_cast, simprocAttr, List.map_append, bL]) (by simp only [push_cast, simprocAttr, List.map_append, bL]) (by simp only [push_cast, simprocAttr, List.map_append, bL]; rfl) (by simp only [push_cast, simprocAttr, List.map_append, bL]; rfl) ?_
  exact ⟨rfl, rfl⟩
 ·rw [List.concat_eq_append] at hs hn ⊢
  have hc : c.st = false := hs c (by simp)
  have e0 : ((q ++ [c]).length : Int) - 1 = (q.length : Int) := by simp
  have hl : (cks (q ++ [c])).length = q.length + 1 := by rw [xY]; simp
  have hg : ∀ d, (cks (q ++ [c])).getD q.length d = [.v (.bool false), .lst true (aR c.b), .lst true (aR c.l), .lst true (aR c.r)] := fun d => by
   rw [qZ3 (by simp)]; simp [ckE, hc]
  rw [e0]
  refine zE ?_; refine zJ (fun K hK => ?_); simp (disch := omega) only [push_cast, ↓Int.cast_ofNat_Int, simprocAttr, hl, hg, qQk]; refine hK _ ?_; clear hK K
  refine zA ?_
  refine yC rfl ?_
  refine yB [0, 4] [0, 1] (by simp only [zZ, zR, zP, zQ, zN, zS, zM, zX, zU, Nat.reduceEqDiff, reduceIte]; exact rfl) ?_
  refine qQ1 o a b i j k o[m] (q ++ [c]) _ hn (fun E R hE hR => ?_)
  refine zE ?_
  refine yB (S' := ⟨[(0, .ptr 0 7 0 0)], [(0, cuR o a b i j k), (1, zKt (q ++ [c])), (1000002, nD [o[m]]), (1000003, nD [o[m]]), (1000004, nD [o[m]])]⟩) [0] [0, 1, 1000002, 1000003, 1000004] (by simp only [HS.keep]; rw [hE, hR]) ?_
  refine zJ (fun K hK => ?_); simp (disch := omega) only [push_cast, ↓Int.cast_ofNat_Int, simprocAttr]; refine hK _ ?_; clear hK K
  refine zE ?_; refine zJ (fun K hK => ?_); simp (disch := omega) only [push_cast, ↓Int.cast_ofNat_Int, simprocAttr]; refine hK _ ?_; clear hK K
  refine zA ?_; refine zJ (fun K hK => ?_); simp (disch := omega) only [push_cast, ↓Int.cast_ofNat_Int, simprocAttr]; refine hK _ ?_; clear hK K
  simp only [aP, bS, yH, yE, yK, yJ, cM, zS, zM, Nat.reduceEqDiff, reduceIte, reduceCtorEq]
  refine kQ [0, 1, 1000002, 1000003, 1000004] (by decide) (by decide) (by simp only [push_cast, simprocAttr, List.map_append, bL]) (by simp only [push_cast, simprocAttr, List.map_append, bL]) (by simp only [push_cast, simprocAttr, List.map_append, bL]; rfl) (by simp only [push_cast, simprocAttr, List.map_append, bL]; rfl) ?_
  exact ⟨rfl, rfl⟩
end Go.Proofs.YtdfjeokjmigkaaaGreat
end
section
set_option linter.unusedSimpArgs false
set_option linter.unusedVariables false
set_option maxRecDepth 20000
namespace Go.Proofs.YtdfjeokjmigkaaaGreat
open Go Go.Eng Go.RowKit

def cat (l : List ByteArray) : ByteArray := ⟨(l.map (·.data.toList)).flatten.toArray⟩
theorem qTw (a : ByteArray) (l : List ByteArray) : cat (a :: l) = a ++ cat l := by
 apply ByteArray.ext; apply Array.toList_inj.1; simp [cat]
theorem tR (a b : List ByteArray) : cat (a ++ b) = cat a ++ cat b := by
 apply ByteArray.ext; apply Array.toList_inj.1; simp [cat]
theorem qQm (a : ByteArray) : cat [a] = a := by
 apply ByteArray.ext; apply Array.toList_inj.1; simp [cat]
theorem qSf (l : List (List UInt8)) : Lib.join l [] = l.flatten := by
 cases l with
 | nil => exact Lib.join_nil []
 | cons x r => rw [Lib.join_cons]; simp [Lib.joinTail]
set_option maxHeartbeats 1000000 in
theorem zKr (l : List ByteArray) (hl : l.length ≤ 140737488355328) (hs : (cat l).size ≤ 140737488355328) : HFun Tryz.prog 68 [.lst false (aR l), .v (.string ⟨#[]⟩)] (fun h st => h = .v (.string (cat l)) ∧ st = []) := by
 refine vD fun w vs R => ?_
 obtain ⟨r1, r2⟩ := R
 match vs, r1 with
 | [a, b], _ =>
 have ha := r2 0 (by simp) (by simp)
 have hb := r2 1 (by simp) (by simp)
 simp only [List.getElem_cons_zero, List.getElem_cons_succ] at ha hb
 have := aX hb
 subst this
 cases ha with
 | lst hF =>
 cases hF with
 | lst sz vals hn hc hm hnil hsz hadd h1 hr =>
 rename_i ad n cap _
 have hn' : l.length = n := by rw [← hn, aN]
 subst hn'
 by_cases h0 : l.length = 0
 ·have : l = [] := List.eq_nil_of_length_eq_zero h0
  subst this
  refine (Tryz.strings_Join_none ad cap ⟨#[]⟩ w).mono ?_
  rintro e w' ⟨rfl, rfl⟩
  exact oY ⟨rfl, Below.refl _ _⟩
 ·obtain ⟨bk, off, rfl, -, hbk, -, hcell⟩ := hadd (by omega)
  have hszz : sz = 1 := by
   have := hsz ((aR l)[0]'(by rw [aN]; omega)) (List.getElem_mem _)
   rw [← this]; simp [aR, qAi]
  subst hszz
  refine (Tryz.strings_Join bk off cap l ⟨#[]⟩ w (fun j x hx => ?_) hbk hl hc ?_).mono ?_
  ·have hj : j < l.length := (List.getElem?_eq_some_iff.1 hx).1
   have h3 := hcell j 0 hj (by omega)
   rw [show off + (j * 1 + 0) = off + j by omega] at h3
   rw [h3]
   have h4 := hr j 0 (by rw [aN]; exact hj) (by simp [aR, qAi])
   simp only [aR, qAi, List.getElem_map, List.getElem_cons_zero] at h4
   generalize vals j 0 = u at h4
   cases h4
   have := (List.getElem?_eq_some_iff.1 hx).2
   rw [this]
  ·show (Lib.join (l.map (·.data.toList)) []).length ≤ _
   rw [qSf]
   have : (l.map (·.data.toList)).flatten.length = (cat l).size := by
    show _ = Array.size _
    rw [List.size_toArray]
   omega
  ·rintro e w' ⟨rfl, B⟩
   refine oY ⟨?_, B⟩
   show Value.string ⟨(Lib.join (l.map (·.data.toList)) []).toArray⟩ = _
   rw [qSf]; rfl
set_option maxHeartbeats 1000000 in
theorem qFx (l : List ByteArray) (hl : l.length ≤ 140737488355328) (hs : (cat l).size ≤ 140737488355328) : HFun Tryz.prog 46 [.lst false (aR l)] (fun h st => h = .v (.string (cat l))) := by
 refine eM (N := 5) Tryz.func46 rfl Tryz.ntmps46 Tryz.results46 (by simp) ?_
 refine zE ?_; refine zJ (fun K hK => ?_); simp (disch := omega) only [push_cast, ↓Int.cast_ofNat_Int, simprocAttr]; refine hK _ ?_; clear hK K
 refine zE ?_; refine zJ (fun K hK => ?_); simp (disch := omega) only [push_cast, ↓Int.cast_ofNat_Int, simprocAttr]
 refine aY zVg ((zKr l hl hs).mono fun h st q => q.1) (.cons (aK (bU l)) (.cons (.v _) .nil)) ?_
 with_reducible refine aC ?_; simp (disch := omega) only [push_cast, ↓Int.cast_ofNat_Int, simprocAttr]
 refine hK _ ?_; clear hK K
 refine zA ?_; refine zW ?_
 simp only [yA, yM, yH, yE, aA, aD, yK, yJ, zS, zM, Nat.reduceEqDiff, reduceIte, reduceCtorEq]
 exact aM rfl
end Go.Proofs.YtdfjeokjmigkaaaGreat
end
