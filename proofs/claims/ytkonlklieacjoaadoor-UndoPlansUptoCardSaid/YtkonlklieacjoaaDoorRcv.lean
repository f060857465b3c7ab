/-
  A function that is handed a variable by pointer, with plain values in it: its body.
-/
import Derived.Shelf.Small.Strs
import Derived.Shelf.Strings.Search1
import Derived.Shelf.Strings.Count
import Derived.Test.YtkonlklieacjoaaDoorProg
import Derived.Test.YtkonlklieacjoaaDoorTrC
import Derived.Test.YtkonlklieacjoaaDoorGc
import Derived.Test.YtkonlklieacjoaaDoorTyT
import Derived.Test.YtkonlklieacjoaaDoorTrB
import Derived.Test.YtkonlklieacjoaaDoorGd
section
namespace Go.Proofs.YtkonlklieacjoaaDoor
open Go.Shelf
open Go.RowKit in
def Tryd.lays106_ren : Go.Shelf.Ren := ⟨fun | 106 => 69 | 213 => 93 | 265 => 118 | n => n, fun | 9 => 9 | 3 => 3 | n => n, fun | n => n⟩
theorem Tryd.lays106 : Go.Proofs.Lays.n106 Tryd.prog Tryd.lays106_ren := {
 mixed := by kernel_rfl
 f106 := Tryd.func69.trans (congrArg some (by kernel_rfl))
 f213 := Tryd.func93.trans (congrArg some (by kernel_rfl))
 f265 := Tryd.func118.trans (congrArg some (by kernel_rfl))
 t3 := Tryd.underlying3
 a3 := Tryd.isAgg3
 z3 := Tryd.sizeOf3
 v3 := Tryd.zeroValue3
 t9 := Tryd.underlying9
 a9 := Tryd.isAgg9
 z9 := Tryd.sizeOf9
 v9 := Tryd.zeroValue9 }
open Go.RowKit in
theorem Tryd.strings_Compare (a b : ByteArray) (w : World) :
  Calls Tryd.prog 69 #[.string a, .string b] w fun e w' => e = .returned (.int .i64 (Lib.compareBytes a.data.toList b.data.toList)) ∧ w' = w := Any.strings_Compare Tryd.lays106 a b w
def Tryd.lays217_ren : Go.Shelf.Ren := ⟨fun | 217 => 156 | 266 => 160 | n => n, fun | 9 => 9 | 5 => 5 | 3 => 3 | n => n, fun | n => n⟩
theorem Tryd.lays217 : Go.Proofs.Lays.n217 Tryd.prog Tryd.lays217_ren := {
 mixed := by kernel_rfl
 f217 := Tryd.func156.trans (congrArg some (by kernel_rfl))
 f266 := Tryd.func160.trans (congrArg some (by kernel_rfl))
 t3 := Tryd.underlying3
 a3 := Tryd.isAgg3
 z3 := Tryd.sizeOf3
 v3 := Tryd.zeroValue3
 t5 := Tryd.underlying5
 a5 := Tryd.isAgg5
 z5 := Tryd.sizeOf5
 v5 := Tryd.zeroValue5
 t9 := Tryd.underlying9
 a9 := Tryd.isAgg9
 z9 := Tryd.sizeOf9
 v9 := Tryd.zeroValue9 }
open Go.RowKit Go.Lib in
theorem Tryd.stringslite_IndexByte (s : ByteArray) (c : Int) (w : World) :
  Calls Tryd.prog 156 #[.string s, .int .u8 c] w fun e w' => e = .returned (.int .i64 (Lib.indexByte s.data.toList c.toNat.toUInt8)) ∧ w' = w := Any.stringslite_IndexByte Tryd.lays217 s c w
def Tryd.lays138_ren : Go.Shelf.Ren := ⟨fun | 138 => 129 | 195 => 147 | 218 => 149 | 143 => 130 | 219 => 150 | 217 => 156 | 225 => 157 | 224 => 158 | 267 => 159 | 266 => 160 | 314 => 161 | n => n, fun | 9 => 9 | 3 => 3 | 4 => 4 | 5 => 5 | 0 => 0 | 46 => 115 | 146 => 175 | 51 => 139 | n => n, fun | 1 => 0 | n => n⟩
theorem Tryd.lays138 : Go.Proofs.Lays.n138 Tryd.prog Tryd.lays138_ren := {
 mixed := by kernel_rfl
 f138 := Tryd.func129.trans (congrArg some (by kernel_rfl))
 f143 := Tryd.func130.trans (congrArg some (by kernel_rfl))
 f195 := Tryd.func147.trans (congrArg some (by kernel_rfl))
 f217 := Tryd.func156.trans (congrArg some (by kernel_rfl))
 f218 := Tryd.func149.trans (congrArg some (by kernel_rfl))
 f219 := Tryd.func150.trans (congrArg some (by kernel_rfl))
 f224 := Tryd.func158.trans (congrArg some (by kernel_rfl))
 f225 := Tryd.func157.trans (congrArg some (by kernel_rfl))
 f266 := Tryd.func160.trans (congrArg some (by kernel_rfl))
 f267 := Tryd.func159.trans (congrArg some (by kernel_rfl))
 f314 := Tryd.func161.trans (congrArg some (by kernel_rfl))
 t0 := Tryd.underlying0
 a0 := Tryd.isAgg0
 z0 := Tryd.sizeOf0
 v0 := Tryd.zeroValue0
 t3 := Tryd.underlying3
 a3 := Tryd.isAgg3
 z3 := Tryd.sizeOf3
 v3 := Tryd.zeroValue3
 t4 := Tryd.underlying4
 a4 := Tryd.isAgg4
 z4 := Tryd.sizeOf4
 v4 := Tryd.zeroValue4
 t5 := Tryd.underlying5
 a5 := Tryd.isAgg5
 z5 := Tryd.sizeOf5
 v5 := Tryd.zeroValue5
 t9 := Tryd.underlying9
 a9 := Tryd.isAgg9
 z9 := Tryd.sizeOf9
 v9 := Tryd.zeroValue9
 t46 := Tryd.underlying115
 a46 := Tryd.isAgg115
 z46 := Tryd.sizeOf115
 v46 := Tryd.zeroValue115
 t51 := Tryd.underlying139
 a51 := Tryd.isAgg139
 z51 := Tryd.sizeOf139
 v51 := Tryd.zeroValue139
 t146 := Tryd.underlying175
 a146 := Tryd.isAgg175
 z146 := Tryd.sizeOf175
 v146 := Tryd.zeroValue175
 g1 := by kernel_rfl }
open Go.RowKit Go.Lib in
theorem Tryd.strings_Count_one (s : ByteArray) (c : UInt8) (w : World) :
  Calls Tryd.prog 129 #[.string s, .string ⟨#[c]⟩] w fun e w' => e = .returned (.int .i64 (Lib.countByte s.data.toList c)) ∧ w' = w := Any.strings_Count_one Tryd.lays138 s c w
end Go.Proofs.YtkonlklieacjoaaDoor
end
section
set_option linter.unusedSimpArgs false
set_option linter.unusedVariables false
set_option maxRecDepth 20000
namespace Go.Tr
open Go Go.Eng Go.RowKit
def qNi (e : Ent) : List FV := [.v (.string e.1), .v (.int .i64 e.2.1), .v (.string e.2.2)]
def aH (t : List Ent) : List (List FV) := t.map qNi
abbrev nL (n : Int × ByteArray) : HV := .agg [.v (.int .i64 n.1), .v (.string n.2)]
abbrev zN5 (e : Ent) : HV := .agg [.v (.string e.1), .v (.int .i64 e.2.1), .v (.string e.2.2)]
theorem yV (t : List Ent) : (aH t).length = t.length := by simp [aH]
theorem yU (t : List Ent) : Wid 3 (aH t) = True := eq_true (qGe t fun _ => rfl)
theorem yW {t : List Ent} {i : Nat} {d : List FV} (h : i < t.length) : (aH t).getD i d = [.v (.string t[i].1), .v (.int .i64 t[i].2.1), .v (.string t[i].2.2)] := by unfold aH; rw [tE h]; rfl
theorem yT (t : List Ent) : mT (aH t) = aH t := by
 unfold mT aH; rw [List.map_map]; apply List.map_congr_left; intro s _; simp [qNi, FV.old]
theorem aV (t : List Ent) : ∀ x ∈ aH t, ∀ f ∈ x, FreshF f := fun x hx f hf => by
 obtain ⟨s, -, rfl⟩ := List.mem_map.1 hx; simp [qNi] at hf; rcases hf with rfl | rfl | rfl <;> exact .v _
theorem lY (t : List Ent) (p : ByteArray) (k : Int) (d : ByteArray) : aH t ++ [[.v (.string p), .v (.int .i64 k), .v (.string d)]] = aH (t ++ [(p, k, d)]) := by simp [aH, qNi]
theorem qMe (s t : List Ent) : aH s ++ aH t = aH (s ++ t) := by simp [aH]
theorem lX (t : List Ent) (n : Nat) : (aH t).take n = aH (t.take n) := by simp [aH, List.map_take]
theorem qAb (t : List Ent) (n : Nat) : (aH t).drop n = aH (t.drop n) := by simp [aH, List.map_drop]
theorem zJg (p : ByteArray) (k : Int) (d : ByteArray) : [[FV.v (.string p), .v (.int .i64 k), .v (.string d)]] = aH [(p, k, d)] := rfl
theorem bB {st : aD} (n : Int × ByteArray) : Lend st (nL n) (nL n) := .agg rfl fun j h1 h2 => by
 match j, h1 with
 | 0, _ => exact .v _
 | 1, _ => exact .v _
theorem qJ1 {st : aD} (e : Ent) : Lend st (zN5 e) (zN5 e) := .agg rfl fun j h1 h2 => by
 match j, h1 with
 | 0, _ => exact .v _
 | 1, _ => exact .v _
 | 2, _ => exact .v _
theorem yX {S : HS} {n : Int × ByteArray} {Q : HV → aD → Prop} (q : Q (nL n) []) : qAn S (nL n) Q :=
 ⟨[], by simp, rfl, .agg fun x hx => by simp at hx; rcases hx with rfl | rfl <;> exact .v _, fun id h => by simp at h, by rw [HV.ren]; simp only [List.map_cons, List.map_nil, HV.ren]; exact q⟩
end Go.Tr
namespace Go.Proofs.YtkonlklieacjoaaDoor
open Go Go.Eng Go.RowKit Go.Tr
theorem zE4 (a b : ByteArray) : HFun Tryd.prog 69 [.v (.string a), .v (.string b)] (fun h st => h = .v (.int .i64 (zFb a b))) := by
 refine (qC4 fun w vs R => ?_).mono fun h st q => q.1
 obtain ⟨r1, r2⟩ := R
 match vs, r1 with
 | [x, y], _ =>
 have ha := cC (r2 0 (by simp) (by simp))
 have hb := cC (r2 1 (by simp) (by simp))
 simp only [List.getElem_cons_zero, List.getElem_cons_succ] at ha hb
 subst ha; subst hb
 refine (Tryd.strings_Compare a b w).mono ?_
 rintro e w' ⟨rfl, rfl⟩
 exact qHp ⟨rfl, Below.refl _ _⟩
set_option maxHeartbeats 1000000 in
theorem qMl (e : Ent) (p : ByteArray) : HFun Tryd.prog 81 [zN5 e, .v (.string p)] (fun h st => h = .v (.int .i64 (zFb e.1 p))) := by
 obtain ⟨q, k, d⟩ := e
 refine eK (N := 9) Tryd.func81 rfl Tryd.ntmps81 Tryd.results81 (by simp) ?_
 refine zE ?_; refine zJ (fun K hK => ?_); simp (maxSteps := 2000000) (disch := omega) only [push_cast, ↓Int.cast_ofNat_Int, simprocAttr]; refine hK _ ?_; clear hK K
 refine zE ?_; refine zJ (fun K hK => ?_); simp (maxSteps := 2000000) (disch := omega) only [push_cast, ↓Int.cast_ofNat_Int, simprocAttr]
 refine bV zRz (zE4 q p) (.cons (.v _) (.cons (.v _) .nil)) ?_
 with_reducible refine aB ?_; simp (maxSteps := 2000000) (disch := omega) only [push_cast, ↓Int.cast_ofNat_Int, simprocAttr]
 refine hK _ ?_; clear hK K
 refine zA ?_; refine zW ?_
 simp only [yA, yM, yH, yE, aA, aC, yK, yJ, zS, zM, Nat.reduceEqDiff, reduceIte, reduceCtorEq]
 exact aK rfl
end Go.Proofs.YtkonlklieacjoaaDoor
end
section
set_option linter.unusedVariables false
set_option linter.unusedSimpArgs false
namespace Go.Proofs.YtkonlklieacjoaaDoor
open Go Go.Eng Go.RowKit Go.ChangeShapes Go.WideShapes Go.ChangeAt Go.Tr
theorem qL8 {b : Nat} {f : FV} (h : Fit (.sl b [.str, .int .i64, .str]) f) : ∃ t : List Ent, f = .lst false (aH t) ∧ True := by
 cases h with
 | sl hb hl h =>
  rename_i xs
  have : ∀ x ∈ xs, ∃ e : Ent, x = qNi e := fun x hx => by
   have h1 := hl x hx
   match x, h1 with
   | [f0, f1, f2], _ =>
   have a := h _ hx 0 (by simp) (by simp)
   have b := h _ hx 1 (by simp) (by simp)
   have c := h _ hx 2 (by simp) (by simp)
   simp only [List.getElem_cons_zero, List.getElem_cons_succ] at a b c
   cases a; cases b; cases c
   exact ⟨(_, _, _), rfl⟩
  clear hb hl h
  induction xs with
  | nil => exact ⟨[], rfl, trivial⟩
  | cons x r ih =>
   obtain ⟨e, rfl⟩ := this x (by simp)
   obtain ⟨t, ht, -⟩ := ih (fun y hy => this y (by simp [hy]))
   simp only [FV.lst.injEq, true_and] at ht
   exact ⟨e :: t, by rw [ht]; rfl, trivial⟩
theorem qTa (t : List Ent) : t.length ≤ fw (.lst false (aH t)) ∧ ∀ e ∈ t, e.1.size ≤ fw (.lst false (aH t)) ∧ e.2.2.size ≤ fw (.lst false (aH t)) := by
 rw [qY6]
 have : ∀ t : List Ent, t.length ≤ ((aH t).map fws).sum ∧ ∀ e ∈ t, e.1.size ≤ ((aH t).map fws).sum ∧ e.2.2.size ≤ ((aH t).map fws).sum := by
  intro t
  induction t with
  | nil => exact ⟨Nat.le_refl _, by simp⟩
  | cons x r ih =>
   have e1 : ((aH (x :: r)).map fws).sum = fws (qNi x) + ((aH r).map fws).sum := by simp [aH]
   have e2 : x.1.size + 1 + x.2.2.size ≤ fws (qNi x) := by simp [fws, qNi, zH1]; omega
   rw [e1]
   refine ⟨by simp only [List.length_cons]; omega, fun e he => ?_⟩
   rcases List.mem_cons.1 he with rfl | he
   ·exact ⟨by omega, by omega⟩
   ·have := ih.2 e he; exact ⟨by omega, by omega⟩
 obtain ⟨h1, h2⟩ := this t
 exact ⟨by omega, fun e he => by have := h2 e he; exact ⟨by omega, by omega⟩⟩
end Go.Proofs.YtkonlklieacjoaaDoor
end
section
set_option linter.unusedSimpArgs false
set_option linter.unusedVariables false
namespace Go.Eng
open Go Go.RowKit
inductive PlainH : HV → Prop
 | v (x : Value) : PlainH (.v x)
 | tup (xs : List Value) : PlainH (.tup (xs.map .v))
section
variable {P : Program} {N : Nat} {w w' : World} {A A' : Nat → Prop} {n0 n1 : Nat} {ρ ρ' : Nat → Value}
theorem RepH.plain {v : Value} {h : HV} (hr : RepH w A n0 ρ v h) (hp : PlainH h) : RepH w' A' n1 ρ' v h := by
 cases hp with
 | v x => have := cC hr; subst this; exact .v _
 | tup xs =>
  cases hr with
  | tup hn h =>
  refine .tup hn fun j a b => ?_
  have := h j a b
  simp only [List.getElem_map] at this ⊢
  have e := cC this
  rw [e]; exact .v _
end
end Go.Eng
end
