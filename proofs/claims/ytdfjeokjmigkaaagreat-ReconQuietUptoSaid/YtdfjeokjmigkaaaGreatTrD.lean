/-
  Entries as values; strings.Compare, the search in a tree, tree.Get.
-/
import Derived.Test.YtdfjeokjmigkaaaGreatTrC
import Derived.Test.YtdfjeokjmigkaaaGreatGc
import Derived.Test.YtdfjeokjmigkaaaGreatTyZ
import Derived.Test.YtdfjeokjmigkaaaGreatShpZ
set_option linter.unusedSimpArgs false
set_option linter.unusedVariables false
set_option maxRecDepth 20000
namespace Go.Tr
open Go Go.Eng Go.RowKit
def entF (e : Ent) : List FV := [.v (.string e.1), .v (.int .i64 e.2.1), .v (.string e.2.2)]
def ents (t : List Ent) : List (List FV) := t.map entF
abbrev nodeH (n : Int × ByteArray) : HV := .agg [.v (.int .i64 n.1), .v (.string n.2)]
abbrev entH (e : Ent) : HV := .agg [.v (.string e.1), .v (.int .i64 e.2.1), .v (.string e.2.2)]
theorem yV (t : List Ent) : (ents t).length = t.length := by simp [ents]
theorem yU (t : List Ent) : Wid 3 (ents t) = True := eq_true (wid_map t fun _ => rfl)
theorem yW {t : List Ent} {i : Nat} {d : List FV} (h : i < t.length) : (ents t).getD i d = [.v (.string t[i].1), .v (.int .i64 t[i].2.1), .v (.string t[i].2.2)] := by unfold ents; rw [getD_map h]; rfl
theorem yT (t : List Ent) : olds (ents t) = ents t := by
 unfold olds ents; rw [List.map_map]; apply List.map_congr_left; intro s _; simp [entF, FV.old]
theorem ents_fresh (t : List Ent) : ∀ x ∈ ents t, ∀ f ∈ x, FreshF f := fun x hx f hf => by
 obtain ⟨s, -, rfl⟩ := List.mem_map.1 hx; simp [entF] at hf; rcases hf with rfl | rfl | rfl <;> exact .v _
theorem ents_snoc (t : List Ent) (p : ByteArray) (k : Int) (d : ByteArray) : ents t ++ [[.v (.string p), .v (.int .i64 k), .v (.string d)]] = ents (t ++ [(p, k, d)]) := by simp [ents, entF]
theorem lend_node {st : Store} (n : Int × ByteArray) : Lend st (nodeH n) (nodeH n) := .agg rfl fun j h1 h2 => by
 match j, h1 with
 | 0, _ => exact .v _
 | 1, _ => exact .v _
theorem lend_ent {st : Store} (e : Ent) : Lend st (entH e) (entH e) := .agg rfl fun j h1 h2 => by
 match j, h1 with
 | 0, _ => exact .v _
 | 1, _ => exact .v _
 | 2, _ => exact .v _
theorem hres_node {S : HS} {n : Int × ByteArray} {Q : HV → Store → Prop} (q : Q (nodeH n) []) : HRes S (nodeH n) Q :=
 ⟨[], by simp, rfl, .agg fun x hx => by simp at hx; rcases hx with rfl | rfl <;> exact .v _, fun id h => by simp at h, by rw [HV.ren]; simp only [List.map_cons, List.map_nil, HV.ren]; exact q⟩
end Go.Tr
namespace Go.Proofs.YtdfjeokjmigkaaaGreat
open Go Go.Eng Go.RowKit Go.Tr
theorem compare_H (a b : ByteArray) : HFun Tryz.prog 107 [.v (.string a), .v (.string b)] (fun h st => h = .v (.int .i64 (bcmp a b))) := by
 refine (hfun_low fun w vs R => ?_).mono fun h st q => q.1
 obtain ⟨r1, r2⟩ := R
 match vs, r1 with
 | [x, y], _ =>
 have ha := repH_v (r2 0 (by simp) (by simp))
 have hb := repH_v (r2 1 (by simp) (by simp))
 simp only [List.getElem_cons_zero, List.getElem_cons_succ] at ha hb
 subst ha; subst hb
 refine (Tryz.strings_Compare a b w).mono ?_
 rintro e w' ⟨rfl, rfl⟩
 exact ret_of ⟨rfl, Below.refl _ _⟩
set_option maxHeartbeats 1000000 in
theorem cmpEnt_H (e : Ent) (p : ByteArray) : HFun Tryz.prog 106 [entH e, .v (.string p)] (fun h st => h = .v (.int .i64 (bcmp e.1 p))) := by
 obtain ⟨q, k, d⟩ := e
 refine hfun (N := 9) Tryz.func106 rfl Tryz.ntmps106 Tryz.results106 (by simp) ?_
 (repeat first | refine zE ?_ | refine zA ?_ | refine zC ?_ | refine zB ?_ | refine zD ?_); refine zJ (fun K hK => ?_); simp (maxSteps := 2000000) (disch := omega) only [push_cast, ↓Int.cast_ofNat_Int, Nat.reduceBEq, Nat.reduceAdd, Nat.reduceLT, Nat.reduceEqDiff, reduceIte, reduceCtorEq, Nat.reduceLeDiff, Nat.reduceSub, List.reduceReplicate, Nat.reduceMul, Int.reduceToNat, Int.toNat_natCast, Nat.reducePow, reduceIte]; refine hK _ ?_; clear hK K
 (repeat first | refine zE ?_ | refine zA ?_ | refine zC ?_ | refine zB ?_ | refine zD ?_); refine zJ (fun K hK => ?_); simp (maxSteps := 2000000) (disch := omega) only [push_cast, ↓Int.cast_ofNat_Int, Nat.reduceBEq, Nat.reduceAdd, Nat.reduceLT, Nat.reduceEqDiff, reduceIte, reduceCtorEq, Nat.reduceLeDiff, Nat.reduceSub, List.reduceReplicate, Nat.reduceMul, Int.reduceToNat, Int.toNat_natCast, Nat.reducePow, reduceIte]
 refine hatv cl107 (compare_H q p) (.cons (.v _) (.cons (.v _) .nil)) ?_
 with_reducible refine hstop ?_; simp (maxSteps := 2000000) (disch := omega) only [push_cast, ↓Int.cast_ofNat_Int, Nat.reduceBEq, Nat.reduceAdd, Nat.reduceLT, Nat.reduceEqDiff, reduceIte, reduceCtorEq, Nat.reduceLeDiff, Nat.reduceSub, List.reduceReplicate, Nat.reduceMul, Int.reduceToNat, Int.toNat_natCast, Nat.reducePow, reduceIte]
 refine hK _ ?_; clear hK K
 (repeat first | refine zK ?_ | refine zG ?_ | refine zH ?_ | refine zF rfl ?_ | refine zL ?_ | refine zB ?_ | refine zE ?_ | refine zA ?_ | refine zC ?_ | refine zT ?_ | refine zW ?_)
 simp only [yA, yM, yH, yE, resH_cell, resC_go, yK, yJ, zS, zM, Nat.reduceEqDiff, reduceIte, reduceCtorEq]
 exact hres_v rfl
end Go.Proofs.YtdfjeokjmigkaaaGreat
