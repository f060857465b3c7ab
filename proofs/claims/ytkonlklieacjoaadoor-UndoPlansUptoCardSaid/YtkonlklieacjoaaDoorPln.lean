/-
  A row of plain cells in memory: of no program.
-/
import Derived.Test.YtkonlklieacjoaaDoorUnA
import Derived.Test.YtkonlklieacjoaaDoorChn
import Derived.Test.YtkonlklieacjoaaDoorRcc
import Derived.Sort.Grow
section
set_option linter.unusedSimpArgs false
set_option linter.unusedVariables false
set_option maxRecDepth 20000
namespace Go.Tr
open Go Go.Eng
def qSb (c : Chg) : Bool := (List.range 3).all fun k => bL (c.b k) && bL (c.a k)
def qDu (l : List Chg) : Bool := l.all qSb
instance : DecidableEq Chg := fun c e => decidable_of_iff (c.p = e.p ∧ c.k = e.k ∧ c.b0 = e.b0 ∧ c.b1 = e.b1 ∧ c.b2 = e.b2 ∧ c.a0 = e.a0 ∧ c.a1 = e.a1 ∧ c.a2 = e.a2) (by cases c; cases e; simp only [Chg.mk.injEq])
end Go.Tr
namespace Go.Proofs.YtkonlklieacjoaaDoor
open Go Go.Eng Go.RowKit Go.Tr
theorem i56 : (sizeOf 56).run Tryd.prog = fun w => .ok 6 w := by funext w; kernel_rfl
theorem zRi : Tryd.prog.stoodInHeld 58 = false := by kernel_rfl
theorem zRj : Tryd.prog.stoodInHeld 56 = false := by kernel_rfl
theorem zQs (d : Nat) (x0 x1 x2 y0 y1 y2 : Int) (s0 s1 s2 t0 t1 t2 : ByteArray) (w : World) : (Op.equalIn (d + 3) 56 (.agg #[.int .i64 x0, .string s0, .int .i64 x1, .string s1, .int .i64 x2, .string s2]) (.agg #[.int .i64 y0, .string t0, .int .i64 y1, .string t1, .int .i64 y2, .string t2])).run Tryd.prog w = .ok (decide ((x0, s0) = (y0, t0) ∧ (x1, s1) = (y1, t1) ∧ (x2, s2) = (y2, t2))) w := by
 unfold Op.equalIn
 simp [run_underlying Tryd.underlying56, zRj, i24, part, dK qU5, qBm, Sem.run_bind]
 have hr : List.range' 0 3 = [0, 1, 2] := rfl
 rw [hr]
 by_cases h0 : x0 = y0 ∧ s0 = t0
 ·obtain ⟨rfl, rfl⟩ := h0
  by_cases h1 : x1 = y1 ∧ s1 = t1
  ·obtain ⟨rfl, rfl⟩ := h1
   by_cases h2 : x2 = y2 ∧ s2 = t2
   ·obtain ⟨rfl, rfl⟩ := h2
    simp [dK qU5, qBm, Sem.run_bind, i24]
   ·have e2 : decide (x2 = y2 ∧ s2 = t2) = false := decide_eq_false h2
    simp [dK qU5, qBm, Sem.run_bind, i24, e2]
    simpa using h2
  ·have e1 : decide (x1 = y1 ∧ s1 = t1) = false := decide_eq_false h1
   simp [dK qU5, qBm, Sem.run_bind, i24, e1]
   intro a b; exact absurd ⟨a, b⟩ h1
 ·have e0 : decide (x0 = y0 ∧ s0 = t0) = false := decide_eq_false h0
  simp [dK qU5, qBm, Sem.run_bind, i24, e0]
  intro a b; exact absurd ⟨a, b⟩ h0
def zJp (c : Chg) : List Value := [.string c.p, .int .i64 c.k, .int .i64 c.b0.1, .string c.b0.2, .int .i64 c.b1.1, .string c.b1.2, .int .i64 c.b2.1, .string c.b2.2, .int .i64 c.a0.1, .string c.a0.2, .int .i64 c.a1.1, .string c.a1.2, .int .i64 c.a2.1, .string c.a2.2]
theorem eqC (c e : Chg) : EqR Tryd.prog 58 (zJp c).toArray (zJp e).toArray (decide (c = e)) := by
 refine ⟨by kernel_rfl, fun w => ?_⟩
 obtain ⟨p, k, ⟨x0, s0⟩, ⟨x1, s1⟩, ⟨x2, s2⟩, ⟨x3, s3⟩, ⟨x4, s4⟩, ⟨x5, s5⟩⟩ := c
 obtain ⟨q, m, ⟨y0, t0⟩, ⟨y1, t1⟩, ⟨y2, t2⟩, ⟨y3, t3⟩, ⟨y4, t4⟩, ⟨y5, t5⟩⟩ := e
 simp only [zJp]
 obtain ⟨z, hz⟩ : ∃ z, decide ((⟨p, k, (x0, s0), (x1, s1), (x2, s2), (x3, s3), (x4, s4), (x5, s5)⟩ : Chg) = ⟨q, m, (y0, t0), (y1, t1), (y2, t2), (y3, t3), (y4, t4), (y5, t5)⟩) = z := ⟨_, rfl⟩
 rw [hz]
 unfold Op.equal Op.maxDepth Op.equalIn
 simp [run_underlying Tryd.underlying58, zRi, i3, i9, i56, part, cK kt3, cK kt9, dK zNs, zCm, zJe, zQs, Sem.run_bind]
 by_cases hp : p = q
 ·by_cases hk : k = m
  ·rw [if_pos hp, if_pos hk]
   by_cases hA : x0 = y0 → s0 = t0 → x1 = y1 → s1 = t1 → x2 = y2 → ¬s2 = t2
   ·rw [if_pos hA]
    congr 1
    rw [← hz]
    refine (decide_eq_false fun h => ?_).symm
    simp only [Chg.mk.injEq, Prod.mk.injEq] at h
    exact hA h.2.2.1.1 h.2.2.1.2 h.2.2.2.1.1 h.2.2.2.1.2 h.2.2.2.2.1.1 h.2.2.2.2.1.2
   ·rw [if_neg hA]
    by_cases hB : x3 = y3 → s3 = t3 → x4 = y4 → s4 = t4 → x5 = y5 → ¬s5 = t5
    ·rw [if_pos hB]
     congr 1
     rw [← hz]
     refine (decide_eq_false fun h => ?_).symm
     simp only [Chg.mk.injEq, Prod.mk.injEq] at h
     exact hB h.2.2.2.2.2.1.1 h.2.2.2.2.2.1.2 h.2.2.2.2.2.2.1.1 h.2.2.2.2.2.2.1.2 h.2.2.2.2.2.2.2.1 h.2.2.2.2.2.2.2.2
    ·rw [if_neg hB]
     congr 1
     rw [← hz]
     refine (decide_eq_true ?_).symm
     simp only [Classical.not_imp, Classical.not_not] at hA hB
     obtain ⟨rfl, rfl, rfl, rfl, rfl, rfl⟩ := hA
     obtain ⟨rfl, rfl, rfl, rfl, rfl, rfl⟩ := hB
     rw [hp, hk]
  ·rw [if_pos hp, if_neg hk]
   congr 1
   rw [← hz]
   exact (decide_eq_false fun h => hk (by simp only [Chg.mk.injEq] at h; exact h.2.1)).symm
 ·rw [if_neg hp]
  congr 1
  rw [← hz]
  exact (decide_eq_false fun h => hp (by simp only [Chg.mk.injEq] at h; exact h.1)).symm
end Go.Proofs.YtkonlklieacjoaaDoor
end
section
set_option linter.unusedSimpArgs false
set_option linter.unusedVariables false
namespace Go.Eng
open Go Go.RowKit
def pln (cs : List (List Value)) : List (List FV) := cs.map (List.map FV.v)
structure Uni (sz : Nat) (cs : List (List Value)) : Prop where
 wid : ∀ x ∈ cs, x.length = sz
 one : ∀ x ∈ cs, ∀ v ∈ x, v.oneCell' = true
theorem qGi (cs : List (List Value)) : (pln cs).length = cs.length := by simp [pln]
theorem qL7 {α : Type} {sz : Nat} : ∀ {cs : List (List α)}, (∀ x ∈ cs, x.length = sz) → cs.flatten.length = cs.length * sz
 | [], _ => by simp
 | x :: r, h => by
  rw [List.flatten_cons, List.length_append, qL7 (fun y hy => h y (by simp [hy])), h x (by simp), List.length_cons, Nat.add_mul, Nat.one_mul, Nat.add_comm]
theorem qRm {α : Type} {sz : Nat} : ∀ {cs : List (List α)} (i : Nat), (∀ x ∈ cs, x.length = sz) → (cs.take i).flatten = cs.flatten.take (i * sz)
 | [], i, _ => by simp
 | x :: r, 0, h => by simp
 | x :: r, i + 1, h => by
  have hx := h x (by simp)
  rw [List.take_succ_cons, List.flatten_cons, List.flatten_cons, qRm i (fun y hy => h y (by simp [hy])), List.take_append, List.take_of_length_le (l := x) (by rw [hx, Nat.add_mul]; omega), hx, show (i + 1) * sz - sz = i * sz by rw [Nat.add_mul, Nat.one_mul]; omega]
theorem qRn {α : Type} {sz : Nat} : ∀ {cs : List (List α)} (i : Nat), (∀ x ∈ cs, x.length = sz) → (cs.drop i).flatten = cs.flatten.drop (i * sz)
 | [], i, _ => by simp
 | x :: r, 0, h => by simp
 | x :: r, i + 1, h => by
  have hx := h x (by simp)
  rw [List.drop_succ_cons, List.flatten_cons, qRn i (fun y hy => h y (by simp [hy])), List.drop_append, List.drop_of_length_le (l := x) (by rw [hx, Nat.add_mul]; omega), hx, show (i + 1) * sz - sz = i * sz by rw [Nat.add_mul, Nat.one_mul]; omega, List.nil_append]
theorem qWx {α : Type} {sz : Nat} : ∀ {cs : List (List α)} (i k : Nat), (∀ x ∈ cs, x.length = sz) → (hi : i < cs.length) → k < sz → cs.flatten[i * sz + k]? = cs[i][k]?
 | [], i, k, _, hi, _ => by simp at hi
 | x :: r, 0, k, h, hi, hk => by
  have hx := h x (by simp)
  rw [List.flatten_cons, Nat.zero_mul, Nat.zero_add, List.getElem?_append_left (by omega)]; rfl
 | x :: r, i + 1, k, h, hi, hk => by
  have hx := h x (by simp)
  have := qWx (cs := r) i k (fun y hy => h y (List.mem_cons_of_mem _ hy)) (by simpa using hi) hk
  rw [List.flatten_cons, List.getElem?_append_right (by rw [hx, Nat.add_mul]; omega), hx, show (i + 1) * sz + k - sz = i * sz + k by rw [Nat.add_mul, Nat.one_mul]; omega, this]
  rfl
theorem qSu {cs : List (List Value)} {sz i k : Nat} (U : Uni sz cs) (hi : i < (pln cs).length) (hk : k < (pln cs)[i].length) : ∃ x, (pln cs)[i][k] = .v x ∧ cs.flatten[i * sz + k]? = some x ∧ x.oneCell' = true := by
 have hi' : i < cs.length := by simpa [pln] using hi
 have e : (pln cs)[i] = cs[i].map FV.v := by simp [pln]
 have hk' : k < cs[i].length := by rw [e] at hk; simpa using hk
 refine ⟨cs[i][k], by simp [e], ?_, U.one _ (List.getElem_mem hi') _ (List.getElem_mem hk')⟩
 have hw := U.wid _ (List.getElem_mem hi')
 rw [qWx i k U.wid hi' (by omega), List.getElem?_eq_getElem hk']
theorem zNm {w : World} {A : Nat → Prop} {n0 sz : Nat} {arr : List Value} {cs : List (List Value)} (U : Uni sz cs) (h0 : 0 < sz) (hl : arr.length = cs.length * sz) (h : ∀ i k (hi : i < (pln cs).length) (hk : k < (pln cs)[i].length), ∃ u, arr[i * sz + k]? = some u ∧ u.oneCell' = true ∧ RepF w A n0 u (pln cs)[i][k]) : arr = cs.flatten := by
 apply List.ext_getElem?
 intro p
 by_cases hp : p < cs.length * sz
 ·have h1 : p / sz < cs.length := Nat.div_lt_of_lt_mul (by rw [Nat.mul_comm]; exact hp)
  have hi : p / sz < (pln cs).length := by rw [qGi]; exact h1
  have hk : p % sz < (pln cs)[p / sz].length := by
   have e : (pln cs)[p / sz] = (cs[p / sz]'h1).map FV.v := by simp [pln]
   rw [e, List.length_map, U.wid _ (List.getElem_mem _)]
   exact Nat.mod_lt _ h0
  obtain ⟨u, u1, -, u3⟩ := h (p / sz) (p % sz) hi hk
  obtain ⟨x, h1, h2, -⟩ := qSu U hi hk
  rw [h1] at u3
  cases u3
  have e : p / sz * sz + p % sz = p := by rw [Nat.mul_comm]; exact Nat.div_add_mod p sz
  rw [e] at u1 h2
  rw [u1, h2]
 ·rw [List.getElem?_eq_none (by omega), List.getElem?_eq_none (by rw [qL7 U.wid]; omega)]
theorem qZu {c : Ctx} {S : HS} {look : Nat → Option Value} {w : World} {ρ : Nat → Value} {xs : Nat → List Value} (G : Good c S look w ρ xs) {id ty sz : Nat} {nw : Bool} {cs : List (List Value)} (U : Uni sz cs) (hz : 0 < sz) (hr : rlk S.st id = some (.sl nw ty sz (pln cs))) (h0 : 0 < cs.length) :
  ∃ g cap cur, ρ id = .slice (some ⟨g, 0, none⟩) cs.length cap ∧ Blk w g cur ty ∧ cs.length ≤ cap ∧ cap ≤ maxLen ∧ cur.size = cap * sz ∧ cur.toList.take (cs.length * sz) = cs.flatten := by
 obtain ⟨o1, o2, o3⟩ := cX G hr
 rw [qGi] at o1
 obtain ⟨g, cap, hv, h1, h2, -⟩ := eJ o1 h0
 rw [hv] at o1
 obtain ⟨cur, b1, b2, b3, b4, b5⟩ := uB o1
 have := zNm U hz o1.1 o3
 exact ⟨g, cap, cur, hv, b1, b2, b3, b4, by rw [b5, this]⟩
theorem Good.turn {c : Ctx} {S : HS} {look : Nat → Option Value} {w w' : World} {ρ : Nat → Value} {xs : Nat → List Value} (G : Good c S look w ρ xs) {id ty sz g cap : Nat} {nw : Bool} {cs0 cs : List (List Value)} (U : Uni sz cs) (hr : rlk S.st id = some (.sl nw ty sz (pln cs0))) (hg : ρ id = .slice (some ⟨g, 0, none⟩) cs.length cap)
  (hO : Own w' 0 ty sz (ρ id) cs.length cs.flatten) (k1 : w'.os = w.os) (k2 : w'.tape = w.tape) (k3 : w'.output = w.output) (k4 : w.heap.size ≤ w'.heap.size) (k5 : ∀ b, b < w.heap.size → b ≠ g → w'.heap[b]? = w.heap[b]?) :
  Good c ⟨S.env, iD id (.sl nw ty sz (pln cs)) S.st⟩ look w' ρ (fun i => if i = id then cs.flatten else xs i) := by
 refine G.upds id (.sl nw ty sz (pln cs0)) (.sl nw ty sz (pln cs)) cs.flatten k4 k1 k2 k3 hr rfl (fun b hlt hb => k5 b hlt fun e => hb (by rw [hg, e]; rfl)) _ (fun i => iJ id _ _ _ hr i) ⟨?_, ⟨fun x hx => ?_, fun i k hi hk => ?_⟩, (G.rows id _ hr).new⟩
 ·simpa [Row.ty, Row.sz, Row.len, qGi] using hO
 ·obtain ⟨y, hy, rfl⟩ := List.mem_map.1 hx
  rw [List.length_map]; exact U.wid y hy
 ·obtain ⟨x, h1, h2, h3⟩ := qSu U hi hk
  exact ⟨x, h2, h3, by rw [h1]; exact .v x⟩
theorem Good.fin {c : Ctx} {st : aD} {w w' : World} {ρ : Nat → Value} {xs : Nat → List Value} (G : Good c ⟨[], st⟩ (fun _ => none) w ρ xs) (hw : c.w0 = w) {nw : Bool} {ty sz : Nat} {cs0 cs : List (List Value)} (U : Uni sz cs) (hr : rlk st 0 = some (.sl nw ty sz (pln cs0))) {v : Value}
  (hO : Own w' 0 ty sz v cs.length cs.flatten) (hg : w.grownBy w' (ρ 0).ownBlock) (hb : ∀ b, v.ownBlock = some b → w.heap.size ≤ b ∨ (ρ 0).ownBlock = some b) :
  Good c ⟨[], [(0, .sl nw ty sz (pln cs))]⟩ (fun _ => none) w' (fun _ => v) (fun _ => cs.flatten) := by
 have hn0 := c.hn
 have hnew := (G.rows 0 _ hr).new
 refine ⟨fun i r h => ?_, fun i j r s b hne h h' => ?_, fun k h hk => by simp [hlk] at hk, G.kept.trans (T' := fun b => (ρ 0).ownBlock = some b) ⟨hg.os, hg.tape, hg.output, hg.size, fun b hlt hne => hg.block b hlt fun e => hne e.symm⟩ (fun b hlt hT => ?_), G.a0⟩
 ·simp only [rlk] at h
  split at h
  ·rename_i e
   simp only [Option.some.injEq] at h
   subst h
   refine ⟨by simpa [Row.ty, Row.sz, Row.len, qGi] using hO, ⟨fun x hx => ?_, fun i k hi hk => ?_⟩, fun b hb' => ?_⟩
   ·obtain ⟨y, hy, rfl⟩ := List.mem_map.1 hx
    rw [List.length_map]; exact U.wid y hy
   ·obtain ⟨x, h1, h2, h3⟩ := qSu U hi hk
    exact ⟨x, h2, h3, by rw [h1]; exact .v x⟩
   ·rcases hb b hb' with h | h
    ·rw [hw] at hn0 ⊢
     exact ⟨.inl h, fun _ => by omega⟩
    ·exact hnew b h
  ·cases h
 ·simp only [rlk] at h h'
  split at h
  ·split at h'
   ·omega
   ·cases h'
  ·cases h
 ·rcases (hnew b hT).1 with h | h
  ·omega
  ·exact h
end Go.Eng
end
