/-
  Entries as values; strings.Compare, the search in a tree, tree.Get.
-/
import Derived.Shelf.Small.Strs
import Derived.Shelf.Strings.Search1
import Derived.Shelf.Strings.Count
import Derived.Test.YtkonlklieacjoaaDoorProg
import Derived.Test.YtkonlklieacjoaaDoorTrC
import Derived.Test.YtkonlklieacjoaaDoorGc
import Derived.Test.YtkonlklieacjoaaDoorTyT
section
namespace Go.Proofs.YtkonlklieacjoaaDoor
open Go.Shelf
open Go.RowKit in
def Tryd.lays106_ren : Go.Shelf.Ren := ⟨fun | 106 => 69 | 213 => 93 | 265 => 118 | n => n, fun | 9 => 9 | 3 => 3 | n => n, fun | n => n⟩
theorem Tryd.lays106 : Go.Proofs.Lays.n106 Tryd.prog Tryd.lays106_ren := {
 mixed := by kernel_rfl
 f106 := Tryd.func69.trans (congrArg some (by kernel_rfl))
 f213 := Tryd.func93.trans (congrArg some (by kernel_rfl))
 f265 := Tryd.func118.trans (congrArg some (by kernel_rfl))
 t3 := Tryd.underlying3
 a3 := Tryd.isAgg3
 z3 := Tryd.sizeOf3
 v3 := Tryd.zeroValue3
 t9 := Tryd.underlying9
 a9 := Tryd.isAgg9
 z9 := Tryd.sizeOf9
 v9 := Tryd.zeroValue9 }
open Go.RowKit in
theorem Tryd.strings_Compare (a b : ByteArray) (w : World) :
  Calls Tryd.prog 69 #[.string a, .string b] w fun e w' => e = .returned (.int .i64 (Lib.compareBytes a.data.toList b.data.toList)) ∧ w' = w := Any.strings_Compare Tryd.lays106 a b w
def Tryd.lays217_ren : Go.Shelf.Ren := ⟨fun | 217 => 156 | 266 => 160 | n => n, fun | 9 => 9 | 5 => 5 | 3 => 3 | n => n, fun | n => n⟩
theorem Tryd.lays217 : Go.Proofs.Lays.n217 Tryd.prog Tryd.lays217_ren := {
 mixed := by kernel_rfl
 f217 := Tryd.func156.trans (congrArg some (by kernel_rfl))
 f266 := Tryd.func160.trans (congrArg some (by kernel_rfl))
 t3 := Tryd.underlying3
 a3 := Tryd.isAgg3
 z3 := Tryd.sizeOf3
 v3 := Tryd.zeroValue3
 t5 := Tryd.underlying5
 a5 := Tryd.isAgg5
 z5 := Tryd.sizeOf5
 v5 := Tryd.zeroValue5
 t9 := Tryd.underlying9
 a9 := Tryd.isAgg9
 z9 := Tryd.sizeOf9
 v9 := Tryd.zeroValue9 }
open Go.RowKit Go.Lib in
theorem Tryd.stringslite_IndexByte (s : ByteArray) (c : Int) (w : World) :
  Calls Tryd.prog 156 #[.string s, .int .u8 c] w fun e w' => e = .returned (.int .i64 (Lib.indexByte s.data.toList c.toNat.toUInt8)) ∧ w' = w := Any.stringslite_IndexByte Tryd.lays217 s c w
def Tryd.lays138_ren : Go.Shelf.Ren := ⟨fun | 138 => 129 | 195 => 147 | 218 => 149 | 143 => 130 | 219 => 150 | 217 => 156 | 225 => 157 | 224 => 158 | 267 => 159 | 266 => 160 | 314 => 161 | n => n, fun | 9 => 9 | 3 => 3 | 4 => 4 | 5 => 5 | 0 => 0 | 46 => 115 | 146 => 175 | 51 => 139 | n => n, fun | 1 => 0 | n => n⟩
theorem Tryd.lays138 : Go.Proofs.Lays.n138 Tryd.prog Tryd.lays138_ren := {
 mixed := by kernel_rfl
 f138 := Tryd.func129.trans (congrArg some (by kernel_rfl))
 f143 := Tryd.func130.trans (congrArg some (by kernel_rfl))
 f195 := Tryd.func147.trans (congrArg some (by kernel_rfl))
 f217 := Tryd.func156.trans (congrArg some (by kernel_rfl))
 f218 := Tryd.func149.trans (congrArg some (by kernel_rfl))
 f219 := Tryd.func150.trans (congrArg some (by kernel_rfl))
 f224 := Tryd.func158.trans (congrArg some (by kernel_rfl))
 f225 := Tryd.func157.trans (congrArg some (by kernel_rfl))
 f266 := Tryd.func160.trans (congrArg some (by kernel_rfl))
 f267 := Tryd.func159.trans (congrArg some (by kernel_rfl))
 f314 := Tryd.func161.trans (congrArg some (by kernel_rfl))
 t0 := Tryd.underlying0
 a0 := Tryd.isAgg0
 z0 := Tryd.sizeOf0
 v0 := Tryd.zeroValue0
 t3 := Tryd.underlying3
 a3 := Tryd.isAgg3
 z3 := Tryd.sizeOf3
 v3 := Tryd.zeroValue3
 t4 := Tryd.underlying4
 a4 := Tryd.isAgg4
 z4 := Tryd.sizeOf4
 v4 := Tryd.zeroValue4
 t5 := Tryd.underlying5
 a5 := Tryd.isAgg5
 z5 := Tryd.sizeOf5
 v5 := Tryd.zeroValue5
 t9 := Tryd.underlying9
 a9 := Tryd.isAgg9
 z9 := Tryd.sizeOf9
 v9 := Tryd.zeroValue9
 t46 := Tryd.underlying115
 a46 := Tryd.isAgg115
 z46 := Tryd.sizeOf115
 v46 := Tryd.zeroValue115
 t51 := Tryd.underlying139
 a51 := Tryd.isAgg139
 z51 := Tryd.sizeOf139
 v51 := Tryd.zeroValue139
 t146 := Tryd.underlying175
 a146 := Tryd.isAgg175
 z146 := Tryd.sizeOf175
 v146 := Tryd.zeroValue175
 g1 := by kernel_rfl }
open Go.RowKit Go.Lib in
theorem Tryd.strings_Count_one (s : ByteArray) (c : UInt8) (w : World) :
  Calls Tryd.prog 129 #[.string s, .string ⟨#[c]⟩] w fun e w' => e = .returned (.int .i64 (Lib.countByte s.data.toList c)) ∧ w' = w := Any.strings_Count_one Tryd.lays138 s c w
end Go.Proofs.YtkonlklieacjoaaDoor
end
section
set_option linter.unusedSimpArgs false
set_option linter.unusedVariables false
set_option maxRecDepth 20000
namespace Go.Tr
open Go Go.Eng Go.RowKit
def entF (e : Ent) : List FV := [.v (.string e.1), .v (.int .i64 e.2.1), .v (.string e.2.2)]
def ents (t : List Ent) : List (List FV) := t.map entF
abbrev nodeH (n : Int × ByteArray) : HV := .agg [.v (.int .i64 n.1), .v (.string n.2)]
abbrev entH (e : Ent) : HV := .agg [.v (.string e.1), .v (.int .i64 e.2.1), .v (.string e.2.2)]
theorem yV (t : List Ent) : (ents t).length = t.length := by simp [ents]
theorem yU (t : List Ent) : Wid 3 (ents t) = True := eq_true (wid_map t fun _ => rfl)
theorem yW {t : List Ent} {i : Nat} {d : List FV} (h : i < t.length) : (ents t).getD i d = [.v (.string t[i].1), .v (.int .i64 t[i].2.1), .v (.string t[i].2.2)] := by unfold ents; rw [getD_map h]; rfl
theorem yT (t : List Ent) : olds (ents t) = ents t := by
 unfold olds ents; rw [List.map_map]; apply List.map_congr_left; intro s _; simp [entF, FV.old]
theorem ents_fresh (t : List Ent) : ∀ x ∈ ents t, ∀ f ∈ x, FreshF f := fun x hx f hf => by
 obtain ⟨s, -, rfl⟩ := List.mem_map.1 hx; simp [entF] at hf; rcases hf with rfl | rfl | rfl <;> exact .v _
theorem ents_snoc (t : List Ent) (p : ByteArray) (k : Int) (d : ByteArray) : ents t ++ [[.v (.string p), .v (.int .i64 k), .v (.string d)]] = ents (t ++ [(p, k, d)]) := by simp [ents, entF]
theorem ents_app (s t : List Ent) : ents s ++ ents t = ents (s ++ t) := by simp [ents]
theorem ents_take (t : List Ent) (n : Nat) : (ents t).take n = ents (t.take n) := by simp [ents, List.map_take]
theorem ents_drop (t : List Ent) (n : Nat) : (ents t).drop n = ents (t.drop n) := by simp [ents, List.map_drop]
theorem ents_one (p : ByteArray) (k : Int) (d : ByteArray) : [[FV.v (.string p), .v (.int .i64 k), .v (.string d)]] = ents [(p, k, d)] := rfl
theorem lend_node {st : Store} (n : Int × ByteArray) : Lend st (nodeH n) (nodeH n) := .agg rfl fun j h1 h2 => by
 match j, h1 with
 | 0, _ => exact .v _
 | 1, _ => exact .v _
theorem lend_ent {st : Store} (e : Ent) : Lend st (entH e) (entH e) := .agg rfl fun j h1 h2 => by
 match j, h1 with
 | 0, _ => exact .v _
 | 1, _ => exact .v _
 | 2, _ => exact .v _
theorem hres_node {S : HS} {n : Int × ByteArray} {Q : HV → Store → Prop} (q : Q (nodeH n) []) : HRes S (nodeH n) Q :=
 ⟨[], by simp, rfl, .agg fun x hx => by simp at hx; rcases hx with rfl | rfl <;> exact .v _, fun id h => by simp at h, by rw [HV.ren]; simp only [List.map_cons, List.map_nil, HV.ren]; exact q⟩
end Go.Tr
namespace Go.Proofs.YtkonlklieacjoaaDoor
open Go Go.Eng Go.RowKit Go.Tr
theorem compare_H (a b : ByteArray) : HFun Tryd.prog 69 [.v (.string a), .v (.string b)] (fun h st => h = .v (.int .i64 (bcmp a b))) := by
 refine (hfun_low fun w vs R => ?_).mono fun h st q => q.1
 obtain ⟨r1, r2⟩ := R
 match vs, r1 with
 | [x, y], _ =>
 have ha := repH_v (r2 0 (by simp) (by simp))
 have hb := repH_v (r2 1 (by simp) (by simp))
 simp only [List.getElem_cons_zero, List.getElem_cons_succ] at ha hb
 subst ha; subst hb
 refine (Tryd.strings_Compare a b w).mono ?_
 rintro e w' ⟨rfl, rfl⟩
 exact ret_of ⟨rfl, Below.refl _ _⟩
set_option maxHeartbeats 1000000 in
theorem cmpEnt_H (e : Ent) (p : ByteArray) : HFun Tryd.prog 81 [entH e, .v (.string p)] (fun h st => h = .v (.int .i64 (bcmp e.1 p))) := by
 obtain ⟨q, k, d⟩ := e
 refine hfun (N := 9) Tryd.func81 rfl Tryd.ntmps81 Tryd.results81 (by simp) ?_
 (repeat first | refine zE ?_ | refine zA ?_ | refine zC ?_ | refine zB ?_ | refine zD ?_); refine zJ (fun K hK => ?_); simp (maxSteps := 2000000) (disch := omega) only [push_cast, ↓Int.cast_ofNat_Int, simprocAttr, Int.toNat_natCast]; refine hK _ ?_; clear hK K
 (repeat first | refine zE ?_ | refine zA ?_ | refine zC ?_ | refine zB ?_ | refine zD ?_); refine zJ (fun K hK => ?_); simp (maxSteps := 2000000) (disch := omega) only [push_cast, ↓Int.cast_ofNat_Int, simprocAttr, Int.toNat_natCast]
 refine hatv cl69 (compare_H q p) (.cons (.v _) (.cons (.v _) .nil)) ?_
 with_reducible refine hstop ?_; simp (maxSteps := 2000000) (disch := omega) only [push_cast, ↓Int.cast_ofNat_Int, simprocAttr, Int.toNat_natCast]
 refine hK _ ?_; clear hK K
 (repeat first | refine zK ?_ | refine zG ?_ | refine zH ?_ | refine zF rfl ?_ | refine zL ?_ | refine zB ?_ | refine zE ?_ | refine zA ?_ | refine zC ?_ | refine zT ?_ | refine zW ?_)
 simp only [yA, yM, yH, yE, resH_cell, resC_go, yK, yJ, zS, zM, Nat.reduceEqDiff, reduceIte, reduceCtorEq]
 exact hres_v rfl
end Go.Proofs.YtkonlklieacjoaaDoor
end
