/-
  slices.Sort of texts: the row is sorted where it lies; the document's sorted.
-/
import Derived.Shelf.Sort.Plain
import Derived.Shelf.Slices.In.SortNone
import Derived.Test.YtkonlklieacjoaaDoorProg
import Derived.Test.YtkonlklieacjoaaDoorPln
import Derived.Test.YtkonlklieacjoaaDoorTrB
import Derived.Test.YtkonlklieacjoaaDoorTyT
import Derived.Sort.OwnSorted
import Derived.Sort.Walk0
section
namespace Go.Proofs.YtkonlklieacjoaaDoor
open Go.Shelf
def Tryd.sortS_ren : Go.Shelf.Ren := ⟨fun | 190 => 73 | 125 => 92 | 258 => 95 | 128 => 116 | 129 => 117 | 302 => 119 | 303 => 120 | 304 => 121 | 305 => 122 | 306 => 123 | 307 => 124 | 308 => 125 | 309 => 126 | 310 => 127 | 333 => 143 | 329 => 139 | 330 => 140 | 334 => 144 | 335 => 145 | 336 => 146 | 344 => 154 | n => n, fun | 31 => 43 | 9 => 9 | 3 => 3 | 46 => 115 | 0 => 0 | 51 => 139 | 53 => 141 | 4 => 4 | 183 => 133 | 182 => 132 | 131 => 71 | 5 => 5 | 218 => 155 | 222 => 159 | 228 => 166 | 229 => 167 | n => n, fun | n => n⟩
theorem Tryd.sortS : Go.Proofs.Lays.n190 Tryd.prog Tryd.sortS_ren := {
 mixed := by kernel_rfl
 f125 := Tryd.func92.trans (congrArg some (by kernel_rfl))
 f128 := Tryd.func116.trans (congrArg some (by kernel_rfl))
 f129 := Tryd.func117.trans (congrArg some (by kernel_rfl))
 f190 := Tryd.func73.trans (congrArg some (by kernel_rfl))
 f258 := Tryd.func95.trans (congrArg some (by kernel_rfl))
 f302 := Tryd.func119.trans (congrArg some (by kernel_rfl))
 f303 := Tryd.func120.trans (congrArg some (by kernel_rfl))
 f304 := Tryd.func121.trans (congrArg some (by kernel_rfl))
 f305 := Tryd.func122.trans (congrArg some (by kernel_rfl))
 f306 := Tryd.func123.trans (congrArg some (by kernel_rfl))
 f307 := Tryd.func124.trans (congrArg some (by kernel_rfl))
 f308 := Tryd.func125.trans (congrArg some (by kernel_rfl))
 f309 := Tryd.func126.trans (congrArg some (by kernel_rfl))
 f310 := Tryd.func127.trans (congrArg some (by kernel_rfl))
 f329 := Tryd.func139.trans (congrArg some (by kernel_rfl))
 f330 := Tryd.func140.trans (congrArg some (by kernel_rfl))
 f333 := Tryd.func143.trans (congrArg some (by kernel_rfl))
 f334 := Tryd.func144.trans (congrArg some (by kernel_rfl))
 f335 := Tryd.func145.trans (congrArg some (by kernel_rfl))
 f336 := Tryd.func146.trans (congrArg some (by kernel_rfl))
 f344 := Tryd.func154.trans (congrArg some (by kernel_rfl))
 t0 := Tryd.underlying0
 a0 := Tryd.isAgg0
 z0 := Tryd.sizeOf0
 v0 := Tryd.zeroValue0
 t3 := Tryd.underlying3
 a3 := Tryd.isAgg3
 z3 := Tryd.sizeOf3
 v3 := Tryd.zeroValue3
 t4 := Tryd.underlying4
 a4 := Tryd.isAgg4
 z4 := Tryd.sizeOf4
 v4 := Tryd.zeroValue4
 t5 := Tryd.underlying5
 a5 := Tryd.isAgg5
 z5 := Tryd.sizeOf5
 v5 := Tryd.zeroValue5
 t9 := Tryd.underlying9
 a9 := Tryd.isAgg9
 z9 := Tryd.sizeOf9
 v9 := Tryd.zeroValue9
 t31 := Tryd.underlying43
 a31 := Tryd.isAgg43
 z31 := Tryd.sizeOf43
 v31 := Tryd.zeroValue43
 t46 := Tryd.underlying115
 a46 := Tryd.isAgg115
 z46 := Tryd.sizeOf115
 v46 := Tryd.zeroValue115
 t51 := Tryd.underlying139
 a51 := Tryd.isAgg139
 z51 := Tryd.sizeOf139
 v51 := Tryd.zeroValue139
 t53 := Tryd.underlying141
 a53 := Tryd.isAgg141
 z53 := Tryd.sizeOf141
 v53 := Tryd.zeroValue141
 t131 := Tryd.underlying71
 a131 := Tryd.isAgg71
 z131 := Tryd.sizeOf71
 v131 := Tryd.zeroValue71
 t182 := Tryd.underlying132
 a182 := Tryd.isAgg132
 z182 := Tryd.sizeOf132
 v182 := Tryd.zeroValue132
 t183 := Tryd.underlying133
 a183 := Tryd.isAgg133
 z183 := Tryd.sizeOf133
 v183 := Tryd.zeroValue133
 t218 := Tryd.underlying155
 a218 := Tryd.isAgg155
 z218 := Tryd.sizeOf155
 v218 := Tryd.zeroValue155
 t222 := Tryd.underlying159
 a222 := Tryd.isAgg159
 z222 := Tryd.sizeOf159
 v222 := Tryd.zeroValue159
 t228 := Tryd.underlying166
 a228 := Tryd.isAgg166
 z228 := Tryd.sizeOf166
 v228 := Tryd.zeroValue166
 t229 := Tryd.underlying167
 a229 := Tryd.isAgg167
 z229 := Tryd.sizeOf167
 v229 := Tryd.zeroValue167 }
end Go.Proofs.YtkonlklieacjoaaDoor
end
section
set_option linter.unusedSimpArgs false
set_option linter.unusedVariables false
set_option maxRecDepth 20000
namespace Go.Tr
open Go Go.Eng Go.RowKit Go.Proofs Go.Sort
def qCv (out : List ByteArray) (s : ByteArray) : List ByteArray := out.takeWhile (fun x => !blt s x) ++ s :: out.dropWhile (fun x => !blt s x)
def nJ (l : List ByteArray) : List ByteArray := l.foldl qCv []
def wC (t : List ByteArray) : Prop := t.Pairwise fun x y => blt y x = false
theorem zD4 {a b c : ByteArray} (h1 : blt b a = false) (h2 : blt c b = false) : blt c a = false := by
 cases e : blt c a with
 | false => rfl
 | true =>
  rcases rM a b with h | h | h
  ·rw [oC e h] at h2; cases h2
  ·rw [← h, e] at h2; cases h2
  ·rw [h] at h1; cases h1
theorem qYy {s : ByteArray} : ∀ {out : List ByteArray}, wC out → wC (qCv out s) := by
 intro out h
 unfold qCv
 induction out with
 | nil => simp [wC]
 | cons x r ih =>
  obtain ⟨hx, hr⟩ := List.pairwise_cons.1 h
  cases hb : blt s x with
  | false =>
   simp only [List.takeWhile_cons, List.dropWhile_cons, hb, Bool.not_false, if_true, List.cons_append]
   refine List.pairwise_cons.2 ⟨fun y hy => ?_, ih hr⟩
   rcases List.mem_append.1 hy with hy | hy
   ·exact hx y ((List.takeWhile_sublist _).subset hy)
   ·rcases List.mem_cons.1 hy with rfl | hy
    ·exact hb
    ·exact hx y ((List.dropWhile_sublist _).subset hy)
  | true =>
   simp only [List.takeWhile_cons, List.dropWhile_cons, hb, Bool.not_true, Bool.false_eq_true, if_false, List.nil_append]
   refine List.pairwise_cons.2 ⟨fun y hy => ?_, h⟩
   rcases List.mem_cons.1 hy with rfl | hy
   ·exact mA hb
   ·exact zD4 (mA hb) (hx y hy)
theorem zEe (out : List ByteArray) (s : ByteArray) : (qCv out s).Perm (s :: out) := by
 unfold qCv
 refine List.perm_middle.trans (List.Perm.cons s ?_)
 rw [List.takeWhile_append_dropWhile]
theorem qF6 : ∀ (t out : List ByteArray), wC out → wC (t.foldl qCv out)
 | [], out, h => h
 | e :: t, out, h => by rw [List.foldl_cons]; exact qF6 t _ (qYy h)
theorem qBi : ∀ (t out : List ByteArray), (t.foldl qCv out).Perm (out ++ t)
 | [], out => by simp
 | e :: t, out => by
  rw [List.foldl_cons]
  refine (qBi t _).trans ?_
  refine (List.Perm.append_right t (zEe out e)).trans ?_
  exact (List.perm_middle (l₁ := out)).symm
theorem qT2 (t : List ByteArray) : wC (nJ t) := qF6 t [] .nil
theorem qG5 (t : List ByteArray) : (nJ t).Perm t := qBi t []
theorem qNz (t : List ByteArray) : (nJ t).length = t.length := (qG5 t).length_eq
theorem zFs {l X : List ByteArray} (h : wC X) (hp : X.Perm l) : X = nJ l := by
 refine List.Perm.eq_of_pairwise (le := fun x y : ByteArray => blt y x = false) (fun a b ha hb h1 h2 => ?_) h (qT2 l) (hp.trans (qG5 l).symm)
 rcases rM a b with h | h | h
 ·rw [h] at h2; cases h2
 ·exact h
 ·rw [h] at h1; cases h1
def byL (l : List ByteArray) : List (List UInt8) := l.map fun s => s.data.toList
theorem zJs (l : List ByteArray) : (byL l).map (fun x => (⟨x.toArray⟩ : ByteArray)) = l := by
 unfold byL
 rw [List.map_map]
 conv => rhs; rw [← List.map_id l]
 exact List.map_congr_left fun s _ => rfl
theorem qUu (l : List ByteArray) : ((byL l).mergeSort fun x y => decide (x ≤ y)).map (fun x => (⟨x.toArray⟩ : ByteArray)) = nJ l := by
 refine zFs ?_ ?_
 ·unfold wC
  rw [List.pairwise_map]
  have h := List.pairwise_mergeSort (le := fun x y : List UInt8 => decide (x ≤ y)) (fun a b c h1 h2 => by
   simp only [decide_eq_true_eq] at *; exact List.le_trans h1 h2) (fun a b => by
   simp only [Bool.or_eq_true, decide_eq_true_eq]; exact List.le_total a b) (byL l)
  refine h.imp fun {a b} hab => ?_
  simp only [decide_eq_true_eq] at hab
  rw [blt, Lib.toList_data, Lib.toList_data, bytesLess_eq, decide_eq_false_iff_not]
  exact List.not_lt.2 hab
 ·have := (List.mergeSort_perm (byL l) fun x y => decide (x ≤ y)).map (fun x => (⟨x.toArray⟩ : ByteArray))
  rwa [zJs] at this
end Go.Tr
namespace Go.Proofs.YtkonlklieacjoaaDoor
open Go Go.Eng Go.RowKit Go.Tr Go.Lib Go.Sort Go.Proofs
def qGy (l : List ByteArray) : List (List Value) := l.map fun s => [Value.string s]
theorem qTu (l : List ByteArray) : Uni 1 (qGy l) := ⟨fun x hx => by obtain ⟨s, -, rfl⟩ := List.mem_map.1 hx; rfl, fun x hx v hv => by
 obtain ⟨s, -, rfl⟩ := List.mem_map.1 hx
 simp only [List.mem_singleton] at hv
 subst hv; rfl⟩
theorem qGw (l : List ByteArray) : pln (qGy l) = dH l := by simp [pln, qGy, dH, qTv]
theorem qNq (l : List ByteArray) : (qGy l).flatten = (byL l).map encStr := by
 induction l with
 | nil => rfl
 | cons s r ih => simp only [qGy, List.map_cons, List.flatten_cons, List.singleton_append, byL] at *; rw [ih]
theorem qGx (l : List ByteArray) : (qGy l).length = l.length := by simp [qGy]
theorem qDp (l : List ByteArray) : (byL l).length = l.length := by simp [byL]
theorem zFt {S : HS} {id : Nat} {nw : Bool} {l : List ByteArray} (hl : l.length ≤ 4194304) {K : HV → HS → Prop} (hr : rlk S.st id = some (.sl nw 9 1 (dH l))) (hK : K (.v (.tuple #[])) ⟨S.env, iD id (.sl nw 9 1 (dH (nJ l))) S.st⟩) :
  HAt Tryd.prog 73 [.own id] S K :=
 ⟨zRv, fun c look w ρ xs vs G R => by
  obtain ⟨R1, R2⟩ := R
  match vs, R1 with
  | [v0], _ =>
  have r0 := R2 0 (by simp) (by simp)
  simp only [List.getElem_cons_zero] at r0
  cases r0
  by_cases h0 : l = []
  ·subst h0
   obtain ⟨o1, o2, o3⟩ := cX G hr
   obtain ⟨ad, cap, e0⟩ := pF o1
   have e0' : ρ id = .slice ad 0 cap := e0
   rw [e0']
   refine Calls.mono (Any.slices_Sort_string_none Tryd.sortS ad cap w) ?_
   rintro e w' ⟨rfl, rfl⟩
   exact qHp ⟨_, _, hK, ρ, xs, G.same hr, .v _⟩
  ·have hpos := List.length_pos_iff.2 h0
   obtain ⟨g, cap, cur, e0, b1, b2, b3, b4, b5⟩ := qZu G (qTu l) (by decide) (by rw [qGw]; exact hr) (by rw [qGx]; exact hpos)
   rw [qGx] at e0 b2 b5
   rw [qNq, Nat.mul_one] at b5
   rw [Nat.mul_one] at b4
   rw [e0]
   have hb : w.heap[g]? = some (.cells cur 9 (0, 0)) := b1
   have hH : Holds encStr w g 0 (byL l).toArray := holds_of_block hb (by rw [qDp]; exact b5)
   have hcon := Any.slices_Sort_string Tryd.sortS g 0 cap (byL l) w hH b1.lt (by rw [qDp]; omega)
   rw [qDp] at hcon
   refine Calls.mono hcon ?_
   rintro e w' ⟨rfl, n, os, rfl⟩
   have hg := grownBy_sorted (w := w) (g := g) (n := n) (os := os) ((byL l).mergeSort fun x y => decide (x ≤ y)).toArray
   have ho := ownsRow_sorted (w := w) (base := 0) (n := n) (os := os) (ss := byL l) (ts := (byL l).mergeSort fun x y => decide (x ≤ y)) (by simp) (Nat.zero_le g) hb (by rw [qDp]; exact b2) b3 (by rw [b4, Nat.mul_one])
   have hf : ((byL l).mergeSort fun x y => decide (x ≤ y)).map encStr = (qGy (nJ l)).flatten := by
    rw [← qUu, qNq]
    generalize (byL l).mergeSort (fun x y => decide (x ≤ y)) = z
    unfold byL
    rw [List.map_map, List.map_map]
    exact List.map_congr_left fun s _ => rfl
   rw [qDp, hf] at ho
   have hc : l.length = (qGy (nJ l)).length := by rw [qGx, qNz]
   have G2 := G.turn (id := id) (ty := 9) (sz := 1) (nw := nw) (cs0 := qGy l) (cs := qGy (nJ l)) (qTu _) (by rw [qGw]; exact hr) (by rw [← hc]; exact e0) (w' := grow (putRow encStr (Sort.ahead w n) g 0 ((byL l).mergeSort fun x y => decide (x ≤ y)).toArray) os) (by rw [e0, ← hc]; exact ho) hg.os hg.tape hg.output hg.size (fun b hlt hne => hg.block b hlt fun e => hne (Option.some.inj e))
   rw [qGw] at G2
   exact qHp ⟨_, _, hK, ρ, _, G2, .v _⟩⟩
end Go.Proofs.YtkonlklieacjoaaDoor
end
