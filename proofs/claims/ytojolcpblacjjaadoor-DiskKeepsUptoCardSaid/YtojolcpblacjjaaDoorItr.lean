/-
  slices.Sorted(maps.Keys(m)), laid by the kit's lay-plain and lay-iter.
-/
import Derived.Shelf.SlIter.Nil
import Derived.Shelf.SortM.Plain
import Derived.Shelf.SortM.SortNone
import Derived.Ground.GgzProg
import Derived.Ground.SlgmProg
import Derived.Shelf.SlGeneric
import Derived.Test.YtojolcpblacjjaaDoorProg
set_option linter.unusedVariables false
namespace Go.Proofs.YtojolcpblacjjaaDoor
open Go Go.RowKit Go.Maps Go.Sort Go.Shelf Go.Proofs
def Tryd.keysM_ren : Go.Shelf.Ren := ⟨fun | 7 => 36 | 10 => 46 | n => n, fun | 23 => 42 | 26 => 9 | 3 => 47 | 28 => 55 | 0 => 0 | 27 => 54 | 33 => 49 | 4 => 4 | n => n, fun | n => n⟩
theorem Tryd.keysM : Go.Proofs.SlLaysZ.n7 Tryd.prog Tryd.keysM_ren := {
  mixed := by kernel_rfl
  f7 := ⟨Tryd.f36.name, by decide, Tryd.func36.trans (congrArg some (by kernel_rfl))⟩
  f10 := ⟨Tryd.f46.name, by decide, Tryd.func46.trans (congrArg some (by kernel_rfl))⟩
  t0 := Tryd.underlying0
  a0 := Tryd.isAgg0
  z0 := Tryd.sizeOf0
  v0 := Tryd.zeroValue0
  t4 := Tryd.underlying4
  a4 := Tryd.isAgg4
  z4 := Tryd.sizeOf4
  v4 := Tryd.zeroValue4
  t23 := Tryd.underlying42
  a23 := Tryd.isAgg42
  z23 := Tryd.sizeOf42
  v23 := Tryd.zeroValue42
  t26 := Tryd.underlying9
  a26 := Tryd.isAgg9
  z26 := Tryd.sizeOf9
  v26 := Tryd.zeroValue9
  t27 := Tryd.underlying54
  a27 := Tryd.isAgg54
  z27 := Tryd.sizeOf54
  v27 := Tryd.zeroValue54
  t28 := Tryd.underlying55
  a28 := Tryd.isAgg55
  z28 := Tryd.sizeOf55
  v28 := Tryd.zeroValue55
  t33 := Tryd.underlying49
  a33 := Tryd.isAgg49
  z33 := Tryd.sizeOf49
  v33 := Tryd.zeroValue49 }
def Tryd.sortedM_ren : Go.Shelf.Ren := ⟨fun | 6 => 35 | 8 => 45 | 9 => 40 | 11 => 53 | 13 => 49 | 12 => 48 | 23 => 64 | 24 => 65 | 14 => 55 | 15 => 56 | 16 => 57 | 17 => 58 | 18 => 59 | 19 => 60 | 20 => 61 | 21 => 62 | 22 => 63 | 25 => 71 | 26 => 72 | 27 => 73 | 28 => 74 | 29 => 75 | 30 => 76 | 31 => 82 | n => n, fun | 26 => 9 | 28 => 55 | 24 => 22 | 0 => 0 | 3 => 3 | 37 => 65 | 48 => 82 | 50 => 57 | 4 => 4 | 40 => 75 | 39 => 74 | 45 => 61 | 5 => 5 | 9 => 9 | 51 => 85 | 55 => 89 | 57 => 94 | 58 => 95 | 33 => 49 | n => n, fun | n => n⟩
theorem Tryd.sortedM : Go.Proofs.SlLaysZ.n6 Tryd.prog Tryd.sortedM_ren := {
  mixed := by kernel_rfl
  f6 := ⟨Tryd.f35.name, by decide, Tryd.func35.trans (congrArg some (by kernel_rfl))⟩
  f8 := ⟨Tryd.f45.name, by decide, Tryd.func45.trans (congrArg some (by kernel_rfl))⟩
  f11 := ⟨Tryd.f53.name, by decide, Tryd.func53.trans (congrArg some (by kernel_rfl))⟩
  t0 := Tryd.underlying0
  a0 := Tryd.isAgg0
  z0 := Tryd.sizeOf0
  v0 := Tryd.zeroValue0
  t24 := Tryd.underlying22
  a24 := Tryd.isAgg22
  z24 := Tryd.sizeOf22
  v24 := Tryd.zeroValue22
  t26 := Tryd.underlying9
  a26 := Tryd.isAgg9
  z26 := Tryd.sizeOf9
  v26 := Tryd.zeroValue9
  t28 := Tryd.underlying55
  a28 := Tryd.isAgg55
  z28 := Tryd.sizeOf55
  v28 := Tryd.zeroValue55
  i26 := by kernel_rfl }
def Tryd.sortM_ren : Go.Shelf.Ren := ⟨fun | 6 => 40 | 8 => 49 | 9 => 48 | 19 => 64 | 20 => 65 | 21 => 55 | 22 => 56 | 23 => 57 | 24 => 58 | 25 => 59 | 26 => 60 | 27 => 61 | 28 => 62 | 29 => 63 | 36 => 71 | 31 => 72 | 32 => 73 | 37 => 74 | 38 => 75 | 39 => 76 | 41 => 82 | n => n, fun | 27 => 22 | 29 => 9 | 3 => 3 | 32 => 65 | 26 => 22 | 0 => 0 | 44 => 82 | 46 => 57 | 4 => 4 | 36 => 75 | 35 => 74 | 41 => 61 | 5 => 5 | 9 => 9 | 53 => 85 | 57 => 89 | 63 => 94 | 64 => 95 | n => n, fun | n => n⟩
theorem Tryd.sortM : Go.Proofs.SlLaysM.n6 Tryd.prog Tryd.sortM_ren := {
  mixed := by kernel_rfl
  f6 := ⟨Tryd.f40.name, by decide, Tryd.func40.trans (congrArg some (by kernel_rfl))⟩
  f8 := Tryd.func49.trans (congrArg some (by kernel_rfl))
  f9 := ⟨Tryd.f48.name, by decide, Tryd.func48.trans (congrArg some (by kernel_rfl))⟩
  f19 := Tryd.func64.trans (congrArg some (by kernel_rfl))
  f20 := Tryd.func65.trans (congrArg some (by kernel_rfl))
  f21 := ⟨Tryd.f55.name, by decide, Tryd.func55.trans (congrArg some (by kernel_rfl))⟩
  f22 := ⟨Tryd.f56.name, by decide, Tryd.func56.trans (congrArg some (by kernel_rfl))⟩
  f23 := ⟨Tryd.f57.name, by decide, Tryd.func57.trans (congrArg some (by kernel_rfl))⟩
  f24 := ⟨Tryd.f58.name, by decide, Tryd.func58.trans (congrArg some (by kernel_rfl))⟩
  f25 := ⟨Tryd.f59.name, by decide, Tryd.func59.trans (congrArg some (by kernel_rfl))⟩
  f26 := ⟨Tryd.f60.name, by decide, Tryd.func60.trans (congrArg some (by kernel_rfl))⟩
  f27 := ⟨Tryd.f61.name, by decide, Tryd.func61.trans (congrArg some (by kernel_rfl))⟩
  f28 := ⟨Tryd.f62.name, by decide, Tryd.func62.trans (congrArg some (by kernel_rfl))⟩
  f29 := ⟨Tryd.f63.name, by decide, Tryd.func63.trans (congrArg some (by kernel_rfl))⟩
  f31 := Tryd.func72.trans (congrArg some (by kernel_rfl))
  f32 := Tryd.func73.trans (congrArg some (by kernel_rfl))
  f36 := ⟨Tryd.f71.name, by decide, Tryd.func71.trans (congrArg some (by kernel_rfl))⟩
  f37 := ⟨Tryd.f74.name, by decide, Tryd.func74.trans (congrArg some (by kernel_rfl))⟩
  f38 := ⟨Tryd.f75.name, by decide, Tryd.func75.trans (congrArg some (by kernel_rfl))⟩
  f39 := ⟨Tryd.f76.name, by decide, Tryd.func76.trans (congrArg some (by kernel_rfl))⟩
  f41 := ⟨Tryd.f82.name, by decide, Tryd.func82.trans (congrArg some (by kernel_rfl))⟩
  t0 := Tryd.underlying0
  a0 := Tryd.isAgg0
  z0 := Tryd.sizeOf0
  v0 := Tryd.zeroValue0
  t3 := Tryd.underlying3
  a3 := Tryd.isAgg3
  z3 := Tryd.sizeOf3
  v3 := Tryd.zeroValue3
  t4 := Tryd.underlying4
  a4 := Tryd.isAgg4
  z4 := Tryd.sizeOf4
  v4 := Tryd.zeroValue4
  t5 := Tryd.underlying5
  a5 := Tryd.isAgg5
  z5 := Tryd.sizeOf5
  v5 := Tryd.zeroValue5
  t9 := Tryd.underlying9
  a9 := Tryd.isAgg9
  z9 := Tryd.sizeOf9
  v9 := Tryd.zeroValue9
  t26 := Tryd.underlying22
  a26 := Tryd.isAgg22
  z26 := Tryd.sizeOf22
  v26 := Tryd.zeroValue22
  t27 := Tryd.underlying22
  a27 := Tryd.isAgg22
  z27 := Tryd.sizeOf22
  v27 := Tryd.zeroValue22
  t29 := Tryd.underlying9
  a29 := Tryd.isAgg9
  z29 := Tryd.sizeOf9
  v29 := Tryd.zeroValue9
  t32 := Tryd.underlying65
  a32 := Tryd.isAgg65
  z32 := Tryd.sizeOf65
  v32 := Tryd.zeroValue65
  t35 := Tryd.underlying74
  a35 := Tryd.isAgg74
  z35 := Tryd.sizeOf74
  v35 := Tryd.zeroValue74
  t36 := Tryd.underlying75
  a36 := Tryd.isAgg75
  z36 := Tryd.sizeOf75
  v36 := Tryd.zeroValue75
  t41 := Tryd.underlying61
  a41 := Tryd.isAgg61
  z41 := Tryd.sizeOf61
  v41 := Tryd.zeroValue61
  t44 := Tryd.underlying82
  a44 := Tryd.isAgg82
  z44 := Tryd.sizeOf82
  v44 := Tryd.zeroValue82
  t46 := Tryd.underlying57
  a46 := Tryd.isAgg57
  z46 := Tryd.sizeOf57
  v46 := Tryd.zeroValue57
  t53 := Tryd.underlying85
  a53 := Tryd.isAgg85
  z53 := Tryd.sizeOf85
  v53 := Tryd.zeroValue85
  t57 := Tryd.underlying89
  a57 := Tryd.isAgg89
  z57 := Tryd.sizeOf89
  v57 := Tryd.zeroValue89
  t63 := Tryd.underlying94
  a63 := Tryd.isAgg94
  z63 := Tryd.sizeOf94
  v63 := Tryd.zeroValue94
  t64 := Tryd.underlying95
  a64 := Tryd.isAgg95
  z64 := Tryd.sizeOf95
  v64 := Tryd.zeroValue95 }
theorem Tryd.sortsM (m : Nat) : AnyZ.SortsIn Tryd.prog Tryd.sortedM_ren Fence.wide m :=
  ⟨fun blk off cap ss W hH hblk hsz => callsIn_wide.2 (AnyM.slices_Sort_string Tryd.sortM blk off cap ss W hH hblk hsz),
   fun p cap W => callsIn_wide.2 (AnyM.slices_Sort_string_none Tryd.sortM p cap W)⟩

theorem Tryd.mapsKeys (mb : Option Nat) (W : World) : CallsIn Fence.wide 5 Tryd.prog 36 #[.map mb] W fun e w' => e = .returned (.func (.func 46) #[] #[.pointer (some ⟨W.heap.size, 0, none⟩)]) ∧ w' = W.alloc (.cells #[.map mb] 42) :=
  AnyZ.keys_in Tryd.keysM Fence.wide 5 trivial rfl mb W

set_option maxHeartbeats 1000000 in
theorem Tryd.sortedKeys {H : Type} (b nn : Nat) (D0 : DataW H) (R : Value → Option (DataW H × List MemPlace)) (w : World) (hown : w.ownsMap Tryd.prog 9 R b nn D0) (hmax : Maps.size D0 ≤ maxLen) (hbytes : Maps.size D0 * 16 ≤ 140737488355328) :
    CallsIn Fence.wide 5 Tryd.prog 35 #[.func (.func 46) #[] #[.pointer (some ⟨w.heap.size, 0, none⟩)]] (w.alloc (.cells #[.map (some b)] 42)) fun e w' => ∃ (v : Value) (ss : List (List UInt8)), e = .returned v ∧ ss.Perm (strKeys D0) ∧
      w'.ownsRow (w.alloc (.cells #[.map (some b)] 42)).heap.size 9 1 v ss.length ((ss.mergeSort (fun x y => decide (x ≤ y))).map encStr) ∧ (v = .slice none 0 0 ↔ ss = []) ∧ Below (w.alloc (.cells #[.map (some b)] 42)).heap.size (w.alloc (.cells #[.map (some b)] 42)) w' := by
  have hbl := hown.lt
  have hseq : SeqGives Fence.wide 2 Tryd.prog 46 #[.pointer (some ⟨w.heap.size, 0, none⟩)] encStr (fun ss => ss.Perm (strKeys D0)) (Maps.size D0) (w.alloc (.cells #[.map (some b)] 42)) :=
    AnyZ.keys_gives (ρ := Tryd.keysM_ren) { Tryd.keysM with } Fence.wide _ trivial rfl (by omega) w.heap.size b nn D0 _ (by simp) (by simp) (by
      obtain ⟨es, clock, hb, Ft, hs, hD⟩ := hown
      exact ⟨es, clock, (Below.heap_alloc _ _ b hbl).trans hb, Ft, hs, hD⟩)
  exact AnyZ.sorted_in Tryd.sortedM Fence.wide 5 trivial trivial trivial trivial rfl (by omega) (Tryd.sortsM _) (enters_of Tryd.func40 (by kernel_rfl) rfl) 46 #[.pointer (some ⟨w.heap.size, 0, none⟩)] trivial (enters_of Tryd.func46 (by kernel_rfl) rfl) _ _ hmax hbytes _ hseq

end Go.Proofs.YtojolcpblacjjaaDoor
