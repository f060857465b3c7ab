/-
  slices.Sort of texts: the row is sorted where it lies; the document's sorted.
-/
import Derived.Test.YtojolcpblacjjaaGreatDoorDkF
import Derived.Test.YtojolcpblacjjaaGreatDoorDlC
import Derived.Test.YtojolcpblacjjaaGreatDoorRcc
import Derived.Sort.Grow
import Derived.Shelf.Sort.Plain
import Derived.Shelf.Slices.In.SortNone
import Derived.Test.YtojolcpblacjjaaGreatDoorProg
import Derived.Test.YtojolcpblacjjaaGreatDoorTrC
import Derived.Test.YtojolcpblacjjaaGreatDoorTyY
import Derived.Sort.OwnSorted
import Derived.Sort.Walk0
section
set_option linter.unusedSimpArgs false
set_option linter.unusedVariables false
set_option maxRecDepth 20000
namespace Go.Proofs.YtojolcpblacjjaaGreatDoor
open Go Go.Eng Go.RowKit Go.Tr Go.Dk
theorem zFw (d : Dk) (p : ByteArray) (r1 r2 : Nat) (hs : p.size ≤ 1048576) : HFunM Tryz.prog 13 [.ptr 0 6 0 0, .v (.string p)] [(0, .bx false 47 (d.cells r1 r2))] (d.maps kS r1 r2) (fun h st g => h = .v (.int .i64 (qQd d p)) ∧ st = [(0, .bx false 47 (d.cells r1 r2))] ∧ g = d.maps kS r1 r2) := by
 refine iU (N := 14) Tryz.func13 rfl Tryz.ntmps13 Tryz.results13 (by simp) ?_
 simp only [bG]
 rw [dB]
 refine aA ?_; refine aC (fun K hK => ?_); simp (disch := omega) only [push_cast, ↓Int.cast_ofNat_Int, simprocAttr]; refine hK _ ?_; clear hK K
 refine aA ?_; refine aA ?_; refine aC (fun K hK => ?_); simp (disch := omega) only [push_cast, ↓Int.cast_ofNat_Int, simprocAttr]; refine hK _ ?_; clear hK K
 refine aB ?_
 refine bB rfl ?_
 refine aU ?_; refine aA ?_; refine bF ?_; refine aH 5 (fun K1 hK1 => ?_); simp (disch := omega) only [push_cast, ↓Int.cast_ofNat_Int, simprocAttr]; refine hK1 _ ?_; (try clear hK1 K1)
 refine eK (i := 0) mtI rfl rfl rfl rfl rfl rfl (mx hs) ?_
 refine aH 2 (fun K1 hK1 => ?_); simp (disch := omega) only [push_cast, ↓Int.cast_ofNat_Int, simprocAttr, aF, aD, eH, eQ]; refine hK1 _ ?_; (try clear hK1 K1)
 refine aW ?_
 have hxd : (bC d.L p).getD itm0 = aQ d p := rfl
 rw [hxd]
 refine aB ?_; refine aY ?_
 simp only [aE, aL, yH, yE, yK, yJ, aG, zS, zM, Nat.reduceEqDiff, reduceIte, reduceCtorEq]
 refine bR [0] [] (by first | rfl | simp [bsL, MO.bs]) (by decide) (by decide) (by simp only [push_cast, simprocAttr]) (by simp only [push_cast, simprocAttr]) (by simp only [push_cast, simprocAttr]; rfl) (by simp only [push_cast, simprocAttr]; rfl) ?_
 exact ⟨rfl, rfl, rfl⟩
end Go.Proofs.YtojolcpblacjjaaGreatDoor
end
section
set_option linter.unusedSimpArgs false
set_option linter.unusedVariables false
namespace Go.Eng
open Go Go.RowKit
def pln (cs : List (List Value)) : List (List FV) := cs.map (List.map FV.v)
structure Uni (sz : Nat) (cs : List (List Value)) : Prop where
 wid : ∀ x ∈ cs, x.length = sz
 one : ∀ x ∈ cs, ∀ v ∈ x, v.oneCell' = true
theorem qFl (cs : List (List Value)) : (pln cs).length = cs.length := by simp [pln]
theorem qUh {α : Type} {sz : Nat} : ∀ {cs : List (List α)}, (∀ x ∈ cs, x.length = sz) → cs.flatten.length = cs.length * sz
 | [], _ => by simp
 | x :: r, h => by
  rw [List.flatten_cons, List.length_append, qUh (fun y hy => h y (by simp [hy])), h x (by simp), List.length_cons, Nat.add_mul, Nat.one_mul, Nat.add_comm]
theorem qUi {α : Type} {sz : Nat} : ∀ {cs : List (List α)} (i k : Nat), (∀ x ∈ cs, x.length = sz) → (hi : i < cs.length) → k < sz → cs.flatten[i * sz + k]? = cs[i][k]?
 | [], i, k, _, hi, _ => by simp at hi
 | x :: r, 0, k, h, hi, hk => by
  have hx := h x (by simp)
  rw [List.flatten_cons, Nat.zero_mul, Nat.zero_add, List.getElem?_append_left (by omega)]; rfl
 | x :: r, i + 1, k, h, hi, hk => by
  have hx := h x (by simp)
  have := qUi (cs := r) i k (fun y hy => h y (List.mem_cons_of_mem _ hy)) (by simpa using hi) hk
  rw [List.flatten_cons, List.getElem?_append_right (by rw [hx, Nat.add_mul]; omega), hx, show (i + 1) * sz + k - sz = i * sz + k by rw [Nat.add_mul, Nat.one_mul]; omega, this]
  rfl
theorem qQt {cs : List (List Value)} {sz i k : Nat} (U : Uni sz cs) (hi : i < (pln cs).length) (hk : k < (pln cs)[i].length) : ∃ x, (pln cs)[i][k] = .v x ∧ cs.flatten[i * sz + k]? = some x ∧ x.oneCell' = true := by
 have hi' : i < cs.length := by simpa [pln] using hi
 have e : (pln cs)[i] = cs[i].map FV.v := by simp [pln]
 have hk' : k < cs[i].length := by rw [e] at hk; simpa using hk
 refine ⟨cs[i][k], by simp [e], ?_, U.one _ (List.getElem_mem hi') _ (List.getElem_mem hk')⟩
 have hw := U.wid _ (List.getElem_mem hi')
 rw [qUi i k U.wid hi' (by omega), List.getElem?_eq_getElem hk']
theorem zH5 {w : World} {A : Nat → Prop} {n0 sz : Nat} {arr : List Value} {cs : List (List Value)} (U : Uni sz cs) (h0 : 0 < sz) (hl : arr.length = cs.length * sz) (h : ∀ i k (hi : i < (pln cs).length) (hk : k < (pln cs)[i].length), ∃ u, arr[i * sz + k]? = some u ∧ u.oneCell' = true ∧ RepF w A n0 u (pln cs)[i][k]) : arr = cs.flatten := by
 apply List.ext_getElem?
 intro p
 by_cases hp : p < cs.length * sz
 ·have h1 : p / sz < cs.length := Nat.div_lt_of_lt_mul (by rw [Nat.mul_comm]; exact hp)
  have hi : p / sz < (pln cs).length := by rw [qFl]; exact h1
  have hk : p % sz < (pln cs)[p / sz].length := by
   have e : (pln cs)[p / sz] = (cs[p / sz]'h1).map FV.v := by simp [pln]
   rw [e, List.length_map, U.wid _ (List.getElem_mem _)]
   exact Nat.mod_lt _ h0
  obtain ⟨u, u1, -, u3⟩ := h (p / sz) (p % sz) hi hk
  obtain ⟨x, h1, h2, -⟩ := qQt U hi hk
  rw [h1] at u3
  cases u3
  have e : p / sz * sz + p % sz = p := by rw [Nat.mul_comm]; exact Nat.div_add_mod p sz
  rw [e] at u1 h2
  rw [u1, h2]
 ·rw [List.getElem?_eq_none (by omega), List.getElem?_eq_none (by rw [qUh U.wid]; omega)]
theorem zF5 {c : Ctx} {S : HS} {look : Nat → Option Value} {w : World} {ρ : Nat → Value} {xs : Nat → List Value} (G : Good c S look w ρ xs) {id ty sz : Nat} {nw : Bool} {cs : List (List Value)} (U : Uni sz cs) (hz : 0 < sz) (hr : rlk S.st id = some (.sl nw ty sz (pln cs))) (h0 : 0 < cs.length) :
  ∃ g cap cur, ρ id = .slice (some ⟨g, 0, none⟩) cs.length cap ∧ Blk w g cur ty ∧ cs.length ≤ cap ∧ cap ≤ maxLen ∧ cur.size = cap * sz ∧ cur.toList.take (cs.length * sz) = cs.flatten := by
 obtain ⟨o1, o2, o3⟩ := cX G hr
 rw [qFl] at o1
 obtain ⟨g, cap, hv, h1, h2, -⟩ := dY o1 h0
 rw [hv] at o1
 obtain ⟨cur, b1, b2, b3, b4, b5⟩ := xV o1
 have := zH5 U hz o1.1 o3
 exact ⟨g, cap, cur, hv, b1, b2, b3, b4, by rw [b5, this]⟩
theorem Good.turnP {c : Ctx} {S : HS} {look : Nat → Option Value} {w w' : World} {ρ : Nat → Value} {xs : Nat → List Value} (G : Good c S look w ρ xs) {id ty sz g cap : Nat} {nw : Bool} {cs0 cs : List (List Value)} (U : Uni sz cs) (hr : rlk S.st id = some (.sl nw ty sz (pln cs0))) (hg : ρ id = .slice (some ⟨g, 0, none⟩) cs.length cap)
  (hO : Own w' 0 ty sz (ρ id) cs.length cs.flatten) (k1 : w'.os = w.os) (k2 : w'.tape = w.tape) (k3 : w'.output = w.output) (k4 : w.heap.size ≤ w'.heap.size) (k5 : ∀ b, b < w.heap.size → b ≠ g → w'.heap[b]? = w.heap[b]?) :
  Good c ⟨S.env, gL id (.sl nw ty sz (pln cs)) S.st⟩ look w' ρ (fun i => if i = id then cs.flatten else xs i) := by
 refine G.upds id (.sl nw ty sz (pln cs0)) (.sl nw ty sz (pln cs)) cs.flatten k4 k1 k2 k3 hr rfl (fun b hlt hb => k5 b hlt fun e => hb (by rw [hg, e]; rfl)) _ (fun i => iL id _ _ _ hr i) ⟨?_, ⟨fun x hx => ?_, fun i k hi hk => ?_⟩, (G.rows id _ hr).new⟩
 ·simpa [Row.ty, Row.sz, Row.len, qFl] using hO
 ·obtain ⟨y, hy, rfl⟩ := List.mem_map.1 hx
  rw [List.length_map]; exact U.wid y hy
 ·obtain ⟨x, h1, h2, h3⟩ := qQt U hi hk
  exact ⟨x, h2, h3, by rw [h1]; exact .v x⟩
theorem Good.fin {c : Ctx} {st : aN} {w w' : World} {ρ : Nat → Value} {xs : Nat → List Value} (G : Good c ⟨[], st⟩ (fun _ => none) w ρ xs) (hw : c.w0 = w) {nw : Bool} {ty sz : Nat} {cs0 cs : List (List Value)} (U : Uni sz cs) (hr : rlk st 0 = some (.sl nw ty sz (pln cs0))) {v : Value}
  (hO : Own w' 0 ty sz v cs.length cs.flatten) (hg : w.grownBy w' (ρ 0).ownBlock) (hb : ∀ b, v.ownBlock = some b → w.heap.size ≤ b ∨ (ρ 0).ownBlock = some b) :
  Good c ⟨[], [(0, .sl nw ty sz (pln cs))]⟩ (fun _ => none) w' (fun _ => v) (fun _ => cs.flatten) := by
 have hn0 := c.hn
 have hnew := (G.rows 0 _ hr).new
 refine ⟨fun i r h => ?_, fun i j r s b hne h h' => ?_, fun k h hk => by simp [hlk] at hk, G.kept.trans (T' := fun b => (ρ 0).ownBlock = some b) ⟨hg.os, hg.tape, hg.output, hg.size, fun b hlt hne => hg.block b hlt fun e => hne e.symm⟩ (fun b hlt hT => ?_), G.a0⟩
 ·simp only [rlk] at h
  split at h
  ·rename_i e
   simp only [Option.some.injEq] at h
   subst h
   refine ⟨by simpa [Row.ty, Row.sz, Row.len, qFl] using hO, ⟨fun x hx => ?_, fun i k hi hk => ?_⟩, fun b hb' => ?_⟩
   ·obtain ⟨y, hy, rfl⟩ := List.mem_map.1 hx
    rw [List.length_map]; exact U.wid y hy
   ·obtain ⟨x, h1, h2, h3⟩ := qQt U hi hk
    exact ⟨x, h2, h3, by rw [h1]; exact .v x⟩
   ·rcases hb b hb' with h | h
    ·rw [hw] at hn0 ⊢
     exact ⟨.inl h, fun _ => by omega⟩
    ·exact hnew b h
  ·cases h
 ·simp only [rlk] at h h'
  split at h
  ·split at h'
   ·omega
   ·cases h'
  ·cases h
 ·rcases (hnew b hT).1 with h | h
  ·omega
  ·exact h
end Go.Eng
end
section
namespace Go.Proofs.YtojolcpblacjjaaGreatDoor
open Go.Shelf
def Tryz.sortS_ren : Go.Shelf.Ren := ⟨fun | 190 => 69 | 125 => 81 | 258 => 80 | 128 => 97 | 129 => 98 | 302 => 88 | 303 => 89 | 304 => 90 | 305 => 91 | 306 => 92 | 307 => 93 | 308 => 94 | 309 => 95 | 310 => 96 | 333 => 104 | 329 => 105 | 330 => 106 | 334 => 107 | 335 => 108 | 336 => 109 | 344 => 115 | n => n, fun | 31 => 59 | 9 => 9 | 3 => 3 | 46 => 89 | 0 => 0 | 51 => 105 | 53 => 81 | 4 => 4 | 183 => 98 | 182 => 97 | 131 => 85 | 5 => 5 | 218 => 108 | 222 => 112 | 228 => 116 | 229 => 117 | n => n, fun | n => n⟩
theorem Tryz.sortS : Go.Proofs.Lays.n190 Tryz.prog Tryz.sortS_ren := {
 mixed := by kernel_rfl
 f125 := Tryz.func81.trans (congrArg some (by kernel_rfl))
 f128 := Tryz.func97.trans (congrArg some (by kernel_rfl))
 f129 := Tryz.func98.trans (congrArg some (by kernel_rfl))
 f190 := Tryz.func69.trans (congrArg some (by kernel_rfl))
 f258 := Tryz.func80.trans (congrArg some (by kernel_rfl))
 f302 := Tryz.func88.trans (congrArg some (by kernel_rfl))
 f303 := Tryz.func89.trans (congrArg some (by kernel_rfl))
 f304 := Tryz.func90.trans (congrArg some (by kernel_rfl))
 f305 := Tryz.func91.trans (congrArg some (by kernel_rfl))
 f306 := Tryz.func92.trans (congrArg some (by kernel_rfl))
 f307 := Tryz.func93.trans (congrArg some (by kernel_rfl))
 f308 := Tryz.func94.trans (congrArg some (by kernel_rfl))
 f309 := Tryz.func95.trans (congrArg some (by kernel_rfl))
 f310 := Tryz.func96.trans (congrArg some (by kernel_rfl))
 f329 := Tryz.func105.trans (congrArg some (by kernel_rfl))
 f330 := Tryz.func106.trans (congrArg some (by kernel_rfl))
 f333 := Tryz.func104.trans (congrArg some (by kernel_rfl))
 f334 := Tryz.func107.trans (congrArg some (by kernel_rfl))
 f335 := Tryz.func108.trans (congrArg some (by kernel_rfl))
 f336 := Tryz.func109.trans (congrArg some (by kernel_rfl))
 f344 := Tryz.func115.trans (congrArg some (by kernel_rfl))
 t0 := Tryz.underlying0
 a0 := Tryz.isAgg0
 z0 := Tryz.sizeOf0
 v0 := Tryz.zeroValue0
 t3 := Tryz.underlying3
 a3 := Tryz.isAgg3
 z3 := Tryz.sizeOf3
 v3 := Tryz.zeroValue3
 t4 := Tryz.underlying4
 a4 := Tryz.isAgg4
 z4 := Tryz.sizeOf4
 v4 := Tryz.zeroValue4
 t5 := Tryz.underlying5
 a5 := Tryz.isAgg5
 z5 := Tryz.sizeOf5
 v5 := Tryz.zeroValue5
 t9 := Tryz.underlying9
 a9 := Tryz.isAgg9
 z9 := Tryz.sizeOf9
 v9 := Tryz.zeroValue9
 t31 := Tryz.underlying59
 a31 := Tryz.isAgg59
 z31 := Tryz.sizeOf59
 v31 := Tryz.zeroValue59
 t46 := Tryz.underlying89
 a46 := Tryz.isAgg89
 z46 := Tryz.sizeOf89
 v46 := Tryz.zeroValue89
 t51 := Tryz.underlying105
 a51 := Tryz.isAgg105
 z51 := Tryz.sizeOf105
 v51 := Tryz.zeroValue105
 t53 := Tryz.underlying81
 a53 := Tryz.isAgg81
 z53 := Tryz.sizeOf81
 v53 := Tryz.zeroValue81
 t131 := Tryz.underlying85
 a131 := Tryz.isAgg85
 z131 := Tryz.sizeOf85
 v131 := Tryz.zeroValue85
 t182 := Tryz.underlying97
 a182 := Tryz.isAgg97
 z182 := Tryz.sizeOf97
 v182 := Tryz.zeroValue97
 t183 := Tryz.underlying98
 a183 := Tryz.isAgg98
 z183 := Tryz.sizeOf98
 v183 := Tryz.zeroValue98
 t218 := Tryz.underlying108
 a218 := Tryz.isAgg108
 z218 := Tryz.sizeOf108
 v218 := Tryz.zeroValue108
 t222 := Tryz.underlying112
 a222 := Tryz.isAgg112
 z222 := Tryz.sizeOf112
 v222 := Tryz.zeroValue112
 t228 := Tryz.underlying116
 a228 := Tryz.isAgg116
 z228 := Tryz.sizeOf116
 v228 := Tryz.zeroValue116
 t229 := Tryz.underlying117
 a229 := Tryz.isAgg117
 z229 := Tryz.sizeOf117
 v229 := Tryz.zeroValue117 }
end Go.Proofs.YtojolcpblacjjaaGreatDoor
end
section
set_option linter.unusedSimpArgs false
set_option linter.unusedVariables false
set_option maxRecDepth 20000
namespace Go.Tr
open Go Go.Eng Go.RowKit Go.Proofs Go.Sort
end Go.Tr
namespace Go.Proofs.YtojolcpblacjjaaGreatDoor
open Go Go.Eng Go.RowKit Go.Tr Go.Lib Go.Sort Go.Proofs
def qGa (l : List ByteArray) : List (List Value) := l.map fun s => [Value.string s]
theorem qRm (l : List ByteArray) : Uni 1 (qGa l) := ⟨fun x hx => by obtain ⟨s, -, rfl⟩ := List.mem_map.1 hx; rfl, fun x hx v hv => by
 obtain ⟨s, -, rfl⟩ := List.mem_map.1 hx
 simp only [List.mem_singleton] at hv
 subst hv; rfl⟩
theorem qF8 (l : List ByteArray) : pln (qGa l) = cR l := by simp [pln, qGa, cR, qQc]
theorem qL1 (l : List ByteArray) : (qGa l).flatten = (byL l).map encStr := by
 induction l with
 | nil => rfl
 | cons s r ih => simp only [qGa, List.map_cons, List.flatten_cons, List.singleton_append, byL] at *; rw [ih]
theorem qF9 (l : List ByteArray) : (qGa l).length = l.length := by simp [qGa]
theorem qC0 (l : List ByteArray) : (byL l).length = l.length := by simp [byL]
theorem zB0 {S : HS} {id : Nat} {nw : Bool} {l : List ByteArray} (hl : l.length ≤ 4194304) {K : HV → HS → Prop} (hr : rlk S.st id = some (.sl nw 9 1 (cR l))) (hK : K (.v (.tuple #[])) ⟨S.env, gL id (.sl nw 9 1 (cR (qAe l))) S.st⟩) :
  HAt Tryz.prog 69 [.own id] S K :=
 ⟨zMh, fun c look w ρ xs vs G R => by
  obtain ⟨R1, R2⟩ := R
  match vs, R1 with
  | [v0], _ =>
  have r0 := R2 0 (by simp) (by simp)
  simp only [List.getElem_cons_zero] at r0
  cases r0
  by_cases h0 : l = []
  ·subst h0
   obtain ⟨o1, o2, o3⟩ := cX G hr
   obtain ⟨ad, cap, e0⟩ := oH o1
   have e0' : ρ id = .slice ad 0 cap := e0
   rw [e0']
   refine Calls.mono (Any.slices_Sort_string_none Tryz.sortS ad cap w) ?_
   rintro e w' ⟨rfl, rfl⟩
   exact qDc ⟨_, _, hK, ρ, xs, G.same hr, .v _⟩
  ·have hpos := List.length_pos_iff.2 h0
   obtain ⟨g, cap, cur, e0, b1, b2, b3, b4, b5⟩ := zF5 G (qRm l) (by decide) (by rw [qF8]; exact hr) (by rw [qF9]; exact hpos)
   rw [qF9] at e0 b2 b5
   rw [qL1, Nat.mul_one] at b5
   rw [Nat.mul_one] at b4
   rw [e0]
   have hb : w.heap[g]? = some (.cells cur 9 (0, 0)) := b1
   have hH : Holds encStr w g 0 (byL l).toArray := holds_of_block hb (by rw [qC0]; exact b5)
   have hcon := Any.slices_Sort_string Tryz.sortS g 0 cap (byL l) w hH b1.lt (by rw [qC0]; omega)
   rw [qC0] at hcon
   refine Calls.mono hcon ?_
   rintro e w' ⟨rfl, n, os, rfl⟩
   have hg := grownBy_sorted (w := w) (g := g) (n := n) (os := os) ((byL l).mergeSort fun x y => decide (x ≤ y)).toArray
   have ho := ownsRow_sorted (w := w) (base := 0) (n := n) (os := os) (ss := byL l) (ts := (byL l).mergeSort fun x y => decide (x ≤ y)) (by simp) (Nat.zero_le g) hb (by rw [qC0]; exact b2) b3 (by rw [b4, Nat.mul_one])
   have hf : ((byL l).mergeSort fun x y => decide (x ≤ y)).map encStr = (qGa (qAe l)).flatten := by
    rw [← qEp, qL1]
    generalize (byL l).mergeSort (fun x y => decide (x ≤ y)) = z
    unfold byL
    rw [List.map_map, List.map_map]
    exact List.map_congr_left fun s _ => rfl
   rw [qC0, hf] at ho
   have hc : l.length = (qGa (qAe l)).length := by rw [qF9, qZ4]
   have G2 := G.turnP (id := id) (ty := 9) (sz := 1) (nw := nw) (cs0 := qGa l) (cs := qGa (qAe l)) (qRm _) (by rw [qF8]; exact hr) (by rw [← hc]; exact e0) (w' := grow (putRow encStr (Sort.ahead w n) g 0 ((byL l).mergeSort fun x y => decide (x ≤ y)).toArray) os) (by rw [e0, ← hc]; exact ho) hg.os hg.tape hg.output hg.size (fun b hlt hne => hg.block b hlt fun e => hne (Option.some.inj e))
   rw [qF8] at G2
   exact qDc ⟨_, _, hK, ρ, _, G2, .v _⟩⟩
end Go.Proofs.YtojolcpblacjjaaGreatDoor
end
