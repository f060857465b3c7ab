/-
  A row whose elements name no rows, ay such; which operations store. Of no program.
-/
import Derived.Test.YtdfjeokjmigkaaaGreatTrE
import Derived.Test.YtdfjeokjmigkaaaGreatTrJ
import Derived.Test.YtdfjeokjmigkaaaGreatGd
section
set_option linter.unusedSimpArgs false
set_option linter.unusedVariables false
set_option maxRecDepth 20000
namespace Go.Proofs.YtdfjeokjmigkaaaGreat
open Go Go.Eng Go.RowKit Go.Tr
theorem i3 : (sizeOf 3).run Tryz.prog = fun w => .ok 1 w := by funext w; kernel_rfl
theorem i9 : (sizeOf 9).run Tryz.prog = fun w => .ok 1 w := by funext w; kernel_rfl
theorem i24 : (sizeOf 33).run Tryz.prog = fun w => .ok 2 w := by funext w; kernel_rfl
theorem qZz (d : Nat) (x y : Int) (w : World) : (Op.equalIn (d + 1) 3 (.int .i64 x) (.int .i64 y)).run Tryz.prog w = .ok (decide (x = y)) w := by
 simp [Op.equalIn, run_underlying Tryz.underlying3]
 by_cases h : x = y <;> simp [h]
theorem zUk : Tryz.prog.stoodInHeld 33 = false := by kernel_rfl
theorem zUi : Tryz.prog.stoodInHeld 50 = false := by kernel_rfl
theorem qTi (d : Nat) (x y : ByteArray) (w : World) : (Op.equalIn (d + 1) 9 (.string x) (.string y)).run Tryz.prog w = .ok (decide (x = y)) w := by
 unfold Op.equalIn
 simp [run_underlying Tryz.underlying9]
 obtain ⟨a⟩ := x
 obtain ⟨b⟩ := y
 show (a == b) = _
 by_cases h : a = b <;> simp [h]
theorem zJi (d : Nat) (x y : Int) (s t : ByteArray) (w : World) : (Op.equalIn (d + 2) 33 (.agg #[.int .i64 x, .string s]) (.agg #[.int .i64 y, .string t])).run Tryz.prog w = .ok (decide (x = y ∧ s = t)) w := by
 unfold Op.equalIn
 simp [run_underlying Tryz.underlying33, zUk, i3, i9, part, bD kt3, bD kt9, qZz, qTi, Sem.run_bind]
 have hr : List.range' 0 2 = [0, 1] := rfl
 try rw [hr]
 try simp [bD kt3, bD kt9, qZz, qTi, Sem.run_bind]
 by_cases h1 : x = y <;> by_cases h2 : s = t <;> simp [h1, h2]
theorem eqN (x y : Int) (s t : ByteArray) : EqR Tryz.prog 33 [.int .i64 x, .string s].toArray [.int .i64 y, .string t].toArray (decide (x = y ∧ s = t)) := ⟨by kernel_rfl, fun w => zJi _ x y s t w⟩
theorem eqE (p q : ByteArray) (x y : Int) (s t : ByteArray) : EqR Tryz.prog 50 [.string p, .int .i64 x, .string s].toArray [.string q, .int .i64 y, .string t].toArray (decide ((p, x, s) = (q, y, t))) := by
 refine ⟨by kernel_rfl, fun w => ?_⟩
 unfold Op.equal Op.maxDepth Op.equalIn
 simp [run_underlying Tryz.underlying50, zUi, i9, i24, part, bD kt9, oD zSz, qTi, zJi, Sem.run_bind]
 by_cases h0 : p = q <;> by_cases h1 : x = y <;> by_cases h2 : s = t <;> simp [h0, h1, h2]
end Go.Proofs.YtdfjeokjmigkaaaGreat
end
section
set_option linter.unusedSimpArgs false
set_option linter.unusedVariables false
set_option maxRecDepth 20000
namespace Go.Tr
open Go
def lK (n : Int × ByteArray) : Bool := if n.1 = 2 then decide (n.2.size ≤ 4096) else (decide (n.1 = 0) || decide (n.1 = 1)) && decide (n.2.size = 0)
end Go.Tr
namespace Go.Proofs.YtdfjeokjmigkaaaGreat
open Go Go.Eng Go.RowKit Go.Tr
set_option maxHeartbeats 2000000 in
theorem zFa (n : Int × ByteArray) : HFun Tryz.prog 16 [iL n] (fun h st => h = .v (.bool (lK n))) := by
 obtain ⟨k, d⟩ := n
 refine eM (N := 24) Tryz.func16 rfl Tryz.ntmps16 Tryz.results16 (by simp) ?_
 unfold lK
 dsimp only
 refine zE ?_; refine zJ (fun K hK => ?_); simp (disch := omega) only [push_cast, ↓Int.cast_ofNat_Int, simprocAttr]; refine hK _ ?_; clear hK K
 have e : decide ((d.size : Int) = 0) = decide (d.size = 0) := by rw [decide_eq_decide]; omega
 by_cases h2 : k = 2
 ·subst h2
  rw [if_pos rfl]
  refine zE ?_; refine zE ?_; refine zJ (fun K hK => ?_); simp (disch := omega) only [push_cast, ↓Int.cast_ofNat_Int, simprocAttr]; refine hK _ ?_; clear hK K
  refine yD rfl ?_
  refine zE ?_; refine zJ (fun K hK => ?_); simp (disch := omega) only [push_cast, ↓Int.cast_ofNat_Int, simprocAttr]; refine hK _ ?_; clear hK K
  refine zA ?_; refine zW ?_; refine zK ?_
  simp only [yA, yM, yH, yE, aA, aD, yK, yJ, zS, zM, Nat.reduceEqDiff, reduceIte, reduceCtorEq]
  exact aM (by first | (simp; done) | (simp; omega))
 rw [if_neg h2]
 refine zE ?_; refine zE ?_; refine zJ (fun K hK => ?_); simp (disch := omega) only [push_cast, ↓Int.cast_ofNat_Int, simprocAttr]; refine hK _ ?_; clear hK K
 refine yC rfl ?_
 refine zC ?_; refine zE ?_
 by_cases h0 : k = 0
 ·subst h0
  refine zJ (fun K hK => ?_); simp (disch := omega) only [push_cast, ↓Int.cast_ofNat_Int, simprocAttr, e]; refine hK _ ?_; clear hK K
  refine zA ?_; refine zW ?_
  simp only [yA, yM, yH, yE, aA, aD, yK, yJ, zS, zM, Nat.reduceEqDiff, reduceIte, reduceCtorEq]
  exact aM (by first | (simp; done) | (simp; omega))
 by_cases h1 : k = 1
 ·subst h1
  refine zJ (fun K hK => ?_); simp (disch := omega) only [push_cast, ↓Int.cast_ofNat_Int, simprocAttr, e]; refine hK _ ?_; clear hK K
  refine zA ?_; refine zW ?_
  simp only [yA, yM, yH, yE, aA, aD, yK, yJ, zS, zM, Nat.reduceEqDiff, reduceIte, reduceCtorEq]
  exact aM (by first | (simp; done) | (simp; omega))
 ·refine zJ (fun K hK => ?_); simp (disch := omega) only [push_cast, ↓Int.cast_ofNat_Int, simprocAttr]; refine hK _ ?_; clear hK K
  refine zA ?_; refine zW ?_
  simp only [yA, yM, yH, yE, aA, aD, yK, yJ, zS, zM, Nat.reduceEqDiff, reduceIte, reduceCtorEq]
  exact aM (by simp [h0, h1])
set_option maxHeartbeats 2000000 in
theorem qU5 (t : List Ent) (p : ByteArray) (hl : t.length ≤ 140737488355328) : HFun Tryz.prog 26 [.lst false (aS t), .v (.string p)] (fun h st => h = iL (eF t p) ∧ st = []) := by
 refine eM (N := 25) Tryz.func26 rfl Tryz.ntmps26 Tryz.results26 (by simp) ?_
 refine zE ?_; refine zJ (fun K hK => ?_); simp (disch := omega) only [push_cast, ↓Int.cast_ofNat_Int, simprocAttr]; refine hK _ ?_; clear hK K
 refine zE ?_; refine zE ?_; refine zJ (fun K hK => ?_); simp (disch := omega) only [push_cast, ↓Int.cast_ofNat_Int, simprocAttr]; refine hK _ ?_; clear hK K
 refine zA ?_; refine zD ?_
 refine cQ (fun i : Nat => ⟨[(0, .lst false (aS t)), (1, .v (.string p)), (4, .ptr 32 2 0 0), (5, .v (.int .i64 i))], [(32, .bx true 33 [.v (.int .i64 0), .v (.string ByteArray.empty)])]⟩) (fun i => i ≤ t.length ∧ eF t p = eF (t.drop i) p) (fun i => t.length - i) [0, 1, 4, 5] [32] 0 rfl ⟨Nat.zero_le _, rfl⟩ ?_
 rintro i ⟨hi, hg⟩
 by_cases hlt : i < t.length
 ·rw [List.drop_eq_getElem_cons hlt] at hg
  refine zE ?_; refine zE ?_; refine zJ (fun K hK => ?_); simp (disch := omega) only [push_cast, ↓Int.cast_ofNat_Int, simprocAttr, yV]; refine hK _ ?_; clear hK K
  refine zA ?_
  refine yD rfl ?_
  refine zC ?_; refine zE ?_
  by_cases he : t[i].1 = p
  ·have hd : decide (t[i].1 = p) = true := decide_eq_true he
   have hg2 : eF t p = t[i].2 := by rw [hg, eF, List.find?_cons, hd]; rfl
   rw [hg2]
   refine zD ?_; refine zE ?_; refine zJ (fun K hK => ?_); simp (disch := omega) only [push_cast, ↓Int.cast_ofNat_Int, simprocAttr, yV, yU, yW hlt, hd]; refine hK _ ?_; clear hK K
   refine yD rfl ?_
   refine zE ?_; refine zJ (fun K hK => ?_); simp (disch := omega) only [push_cast, ↓Int.cast_ofNat_Int, simprocAttr, yV, yU, yW hlt]; refine hK _ ?_; clear hK K
   refine zA ?_; refine zW ?_; refine zL ?_; refine zK ?_; refine zK ?_; refine zL ?_; refine zK ?_
   simp (disch := omega) only [yA, yM, yH, yE, aA, aD, yK, yJ, push_cast, ↓Int.cast_ofNat_Int, Nat.reduceBEq, Nat.reduceAdd, Nat.reduceLT, Nat.reduceEqDiff, reduceIte, reduceCtorEq, Nat.reduceLeDiff, Nat.reduceSub, List.reduceReplicate, Nat.reduceMul, Int.reduceToNat, Int.toNat_natCast, Nat.reducePow, reduceIte]
   exact qCf (n := t[i].2) ⟨rfl, rfl⟩
  ·have hd : decide (t[i].1 = p) = false := decide_eq_false he
   have hg2 : eF t p = eF (t.drop (i + 1)) p := by rw [hg, eF, List.find?_cons, hd]; rfl
   refine zD ?_; refine zE ?_; refine zJ (fun K hK => ?_); simp (disch := omega) only [push_cast, ↓Int.cast_ofNat_Int, simprocAttr, yV, yU, yW hlt, hd]; refine hK _ ?_; clear hK K
   refine yC rfl ?_
   refine zC ?_; refine zB ?_; refine zA ?_
   refine zJ (fun K hK => ?_); simp (disch := omega) only [push_cast, ↓Int.cast_ofNat_Int, simprocAttr]; refine hK _ ?_; clear hK K
   refine zA ?_
   exact ⟨i + 1, rfl, ⟨hlt, hg2⟩, by omega⟩
 ·rw [List.drop_of_length_le (by omega)] at hg
  have hg2 : eF t p = qPs := hg
  rw [hg2]
  refine zE ?_; refine zE ?_; refine zJ (fun K hK => ?_); simp (disch := omega) only [push_cast, ↓Int.cast_ofNat_Int, simprocAttr, yV]; refine hK _ ?_; clear hK K
  refine zA ?_
  refine yC rfl ?_
  refine zT ?_; refine zG ?_; refine zG ?_; refine zH ?_; refine zE ?_
  refine zJ (fun K hK => ?_); simp (disch := omega) only [push_cast, ↓Int.cast_ofNat_Int, simprocAttr]; refine hK _ ?_; clear hK K
  refine zA ?_; refine zW ?_
  simp (disch := omega) only [yA, yM, yH, yE, aA, aD, yK, yJ, push_cast, ↓Int.cast_ofNat_Int, Nat.reduceBEq, Nat.reduceAdd, Nat.reduceLT, Nat.reduceEqDiff, reduceIte, reduceCtorEq, Nat.reduceLeDiff, Nat.reduceSub, List.reduceReplicate, Nat.reduceMul, Int.reduceToNat, Int.toNat_natCast, Nat.reducePow, reduceIte]
  exact qCf (n := qPs) ⟨rfl, rfl⟩
theorem qFj {α : Type} {a b : List α} {i : Nat} (h : a.take i = b.take i) (h1 : i < a.length) (h2 : i < b.length) (he : a[i] = b[i]) : a.take (i + 1) = b.take (i + 1) := by
 rw [List.take_succ_eq_append_getElem h1, List.take_succ_eq_append_getElem h2, h, he]
set_option maxHeartbeats 2000000 in
theorem qN9 (a b : List Ent) (ha : a.length ≤ 140737488355328) : HFun Tryz.prog 24 [.lst false (aS a), .lst false (aS b)] (fun h st => h = .v (.bool (decide (a = b)))) := by
 refine eM (N := 26) Tryz.func24 rfl Tryz.ntmps24 Tryz.results24 (by simp) ?_
 refine zE ?_; refine zJ (fun K hK => ?_); simp (disch := omega) only [push_cast, ↓Int.cast_ofNat_Int, simprocAttr]; refine hK _ ?_; clear hK K
 by_cases hl : a.length = b.length
 ·refine zE ?_; refine zE ?_; refine zJ (fun K hK => ?_); simp (disch := omega) only [push_cast, ↓Int.cast_ofNat_Int, simprocAttr, yV]; refine hK _ ?_; clear hK K
  refine zA ?_
  refine yC rfl ?_
  refine zC ?_; refine zE ?_; refine zE ?_; refine zJ (fun K hK => ?_); simp (disch := omega) only [push_cast, ↓Int.cast_ofNat_Int, simprocAttr]; refine hK _ ?_; clear hK K
  refine zA ?_; refine zD ?_
  refine cQ (fun i : Nat => ⟨[(0, .lst false (aS a)), (1, .lst false (aS b)), (5, .v (.int .i64 i))], []⟩) (fun i => i ≤ a.length ∧ a.take i = b.take i) (fun i => a.length - i) [0, 1, 5] [] 0 rfl ⟨Nat.zero_le _, rfl⟩ ?_
  rintro i ⟨hi, hp⟩
  by_cases hia : i < a.length
  ·have hib : i < b.length := by omega
   refine zE ?_; refine zE ?_; refine zJ (fun K hK => ?_); simp (disch := omega) only [push_cast, ↓Int.cast_ofNat_Int, simprocAttr, yV]; refine hK _ ?_; clear hK K
   refine zA ?_
   refine yD rfl ?_
   refine zC ?_; refine zE ?_
   by_cases he : a[i] = b[i]
   ·have he' : decide ((a[i].1, a[i].2.1, a[i].2.2) = (b[i].1, b[i].2.1, b[i].2.2)) = true := by rw [he]; simp
    refine zD ?_; refine zE ?_; refine HW_drw 9 mixed (by kernel_rfl) (fun K hK => ?_); simp (disch := omega) only [push_cast, ↓Int.cast_ofNat_Int, simprocAttr, yV, yU, yW hia, yW hib, he']
    refine ⟨_, eqE _ _ _ _ _ _, ?_⟩
    with_reducible refine aC ?_; simp (disch := omega) only [push_cast, ↓Int.cast_ofNat_Int, simprocAttr, he']
    with_reducible refine aC ?_; simp (disch := omega) only [push_cast, ↓Int.cast_ofNat_Int, simprocAttr]
    refine hK _ ?_; clear hK K
    refine yC rfl ?_
    refine zC ?_; refine zB ?_; refine zA ?_
    refine zJ (fun K hK => ?_); simp (disch := omega) only [push_cast, ↓Int.cast_ofNat_Int, simprocAttr]; refine hK _ ?_; clear hK K
    refine zA ?_
    exact ⟨i + 1, rfl, ⟨hia, qFj hp hia hib he⟩, by omega⟩
   ·have he' : decide ((a[i].1, a[i].2.1, a[i].2.2) = (b[i].1, b[i].2.1, b[i].2.2)) = false := decide_eq_false he
    refine zD ?_; refine zE ?_; refine HW_drw 9 mixed (by kernel_rfl) (fun K hK => ?_); simp (disch := omega) only [push_cast, ↓Int.cast_ofNat_Int, simprocAttr, yV, yU, yW hia, yW hib, he']
    refine ⟨_, eqE _ _ _ _ _ _, ?_⟩
    with_reducible refine aC ?_; simp (disch := omega) only [push_cast, ↓Int.cast_ofNat_Int, simprocAttr, he']
    with_reducible refine aC ?_; simp (disch := omega) only [push_cast, ↓Int.cast_ofNat_Int, simprocAttr]
    refine hK _ ?_; clear hK K
    refine yD rfl ?_
    refine zE ?_; refine zJ (fun K hK => ?_); simp (disch := omega) only [push_cast, ↓Int.cast_ofNat_Int, simprocAttr]; refine hK _ ?_; clear hK K
    refine zA ?_; refine zW ?_; refine zL ?_; refine zK ?_; refine zK ?_; refine zL ?_; refine zK ?_
    simp only [yA, yM, yH, yE, aA, aD, yK, yJ, zS, zM, Nat.reduceEqDiff, reduceIte, reduceCtorEq]
    refine aM ?_
    rw [decide_eq_false (fun e => he (by subst e; rfl))]
  ·refine zE ?_; refine zE ?_; refine zJ (fun K hK => ?_); simp (disch := omega) only [push_cast, ↓Int.cast_ofNat_Int, simprocAttr, yV]; refine hK _ ?_; clear hK K
   refine zA ?_
   refine yC rfl ?_
   refine zT ?_; refine zG ?_; refine zG ?_; refine zH ?_; refine zE ?_
   refine zJ (fun K hK => ?_); simp (disch := omega) only [push_cast, ↓Int.cast_ofNat_Int, simprocAttr]; refine hK _ ?_; clear hK K
   refine zA ?_; refine zW ?_
   simp only [yA, yM, yH, yE, aA, aD, yK, yJ, zS, zM, Nat.reduceEqDiff, reduceIte, reduceCtorEq]
   refine aM ?_
   rw [List.take_of_length_le (by omega), List.take_of_length_le (by omega)] at hp
   rw [decide_eq_true hp]
 ·refine zE ?_; refine zE ?_; refine zJ (fun K hK => ?_); simp (disch := omega) only [push_cast, ↓Int.cast_ofNat_Int, simprocAttr, yV]; refine hK _ ?_; clear hK K
  refine zA ?_
  refine yD rfl ?_
  refine zE ?_; refine zJ (fun K hK => ?_); simp (disch := omega) only [push_cast, ↓Int.cast_ofNat_Int, simprocAttr]; refine hK _ ?_; clear hK K
  refine zA ?_; refine zW ?_; refine zK ?_
  simp only [yA, yM, yH, yE, aA, aD, yK, yJ, zS, zM, Nat.reduceEqDiff, reduceIte, reduceCtorEq]
  refine aM ?_
  rw [decide_eq_false (fun e => hl (by rw [e]))]
end Go.Proofs.YtdfjeokjmigkaaaGreat
end
section
set_option linter.unusedSimpArgs false
set_option linter.unusedVariables false
namespace Go.Eng
open Go Go.RowKit
section
variable {P : Program} {N : Nat} {x : Code} {Q : eW} {c : Ctx} {S S' : HS} {look : Nat → Option Value} {w : World}
theorem zAb (id : Nat) {ty sz : Nat} {nw : Bool} {els : List (List HV)} (ys : List (List FV)) (he : els = ys.map (List.map FV.h)) (hr : rlk S.st id = some (.hl nw ty sz els)) (hs : (⟨S.env, hU id (.sl nw ty sz ys) S.st⟩ : HS) = S') (h : HW P N x Q S') : HW P N x Q S := fun c l w I => by
 subst hs he
 refine h c l w ?_
 obtain ⟨ρ, xs, G⟩ := I
 have hl := iK id (.sl nw ty sz ys) S.st _ hr
 have hA : ∀ b, c.A ρ (hU id (.sl nw ty sz ys) S.st) b → c.A ρ S.st b := by
  rintro b (h0 | ⟨i, s, hi, hb⟩)
  ·exact .inl h0
  ·rw [hl] at hi
   by_cases e : i = id
   ·subst e; exact .inr ⟨_, _, hr, hb⟩
   ·rw [if_neg e] at hi; exact .inr ⟨i, s, hi, hb⟩
 have back : ∀ i r, rlk (hU id (.sl nw ty sz ys) S.st) i = some r → ∃ r0, rlk S.st i = some r0 := by
  intro i r hi
  rw [hl] at hi
  by_cases e : i = id
  ·subst e; exact ⟨_, hr⟩
  ·rw [if_neg e] at hi; exact ⟨r, hi⟩
 refine ⟨ρ, xs, fun i r hi => ?_, fun i j r s b hne hi hj => ?_, fun k y hk => ?_, G.kept, G.a0⟩
 ·dsimp only at hi
  rw [hl] at hi
  by_cases e : i = id
  ·subst e
   rw [if_pos rfl] at hi
   simp only [Option.some.injEq] at hi
   subst hi
   have R := G.rows i _ hr
   refine ⟨by simpa [Row.ty, Row.sz, Row.len] using R.own, ⟨fun y hy => ?_, fun p k hp hk => ?_⟩, R.new⟩
   ·have := R.rep.1 _ (List.mem_map.2 ⟨y, hy, rfl⟩)
    rwa [List.length_map] at this
   ·obtain ⟨u, u1, u2, u3⟩ := R.rep.2 p k (by rw [List.length_map]; exact hp) (by rw [List.getElem_map, List.length_map]; exact hk)
    simp only [List.getElem_map] at u3
    exact ⟨u, u1, u2, (qU8 u3).up (Nat.le_refl _) (fun _ _ _ => rfl) (fun b _ => hA b) (Nat.le_refl _)⟩
  ·rw [if_neg e] at hi
   exact (G.rows i r hi).up (Nat.le_refl _) (fun _ _ _ => rfl) (fun b _ => hA b) (fun _ _ => rfl)
 ·obtain ⟨r0, h1⟩ := back i r hi
  obtain ⟨s0, h2⟩ := back j s hj
  exact G.apart i j r0 s0 b hne h1 h2
 ·obtain ⟨v, h1, h2⟩ := G.env k y hk
  exact ⟨v, h1, h2.up (Nat.le_refl _) (fun _ _ _ => rfl) (fun b _ => hA b) (Nat.le_refl _)⟩
theorem zJ3 {id : Nat} {ops : List Oper} (n : Nat) (hm : P.follows .mixedOrders = true) (hok : uN (aT S.env) ops n = true)
  (h : ∀ K : HS → Prop, (∀ S', Q .normal S' → K S') → ∀ K1 : HS → Prop, (∀ S', kZ (HV2 P N (bQ ops) K (ops.drop n)) S' → K1 S') → HVr P N (bQ ops) K1 (ops.take n) S) : HW P N (.region id ops.toArray true) Q S :=
 zNm n hm hok fun K hK => h K hK _ fun _ h => h
theorem zAd {id : Nat} {ops : List Oper} (n : Nat) (hm : P.follows .mixedOrders = true) (hok : uN (aT S.env) ops n = true)
  (h : ∀ K : HS → Prop, (∀ S', Q .normal S' → K S') → ∀ K1 : HS → Prop, (∀ S', kZ (HV2 P N (bQ ops) K (ops.drop n)) S' → K1 S') → HVq P N (bQ ops) K1 (ops.take n) S) : HW P N (.region id ops.toArray true) Q S :=
 HW_drw n hm hok fun K hK => h K hK _ fun _ h => h
end
end Go.Eng
end
