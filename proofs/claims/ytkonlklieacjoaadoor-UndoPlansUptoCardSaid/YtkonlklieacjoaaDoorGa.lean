/-
  The engine of values: texts Heap, Slice, Hv, Ho, Hs, Ht, Hu, Hw, laid together.
-/
import Derived.Test.YtkonlklieacjoaaDoorEng
import Derived.Laws.OwnMore
import Derived.Great.BuildSlice
import Derived.Laws.BytesArg
section
set_option linter.unusedSimpArgs false
set_option linter.unusedVariables false
namespace Go.Eng
open Go Go.RowKit

def Blk (w : World) (b : Nat) (cs : Array Value) (t : TypeId) : Prop := w.heap[b]? = some (.cells cs t (0, 0))
structure Only (b : Nat) (w w' : World) : Prop where
 os : w'.os = w.os
 tape : w'.tape = w.tape
 output : w'.output = w.output
 size : w'.heap.size = w.heap.size
 block : ∀ k, k ≠ b → w'.heap[k]? = w.heap[k]?
section
variable {P : Program} {w w' : World} {b k : Nat} {cs : Array Value} {t : TypeId}
theorem Blk.lt (h : Blk w b cs t) : b < w.heap.size := (Array.getElem?_eq_some_iff.1 h).1
theorem Blk.cell (h : Blk w b cs t) (i : Nat) : w.cell? ⟨b, i, none⟩ = cs[i]? := cell_of_row w b i cs t _ h
theorem Blk.cells (h : Blk w b cs t) {n : Nat} (hn : cs.size = n) : uT w ⟨b, 0, none⟩ n cs := ⟨hn, fun j v hj => by rw [Addr.add_lit, Nat.zero_add, h.cell]; exact hj⟩
theorem Blk.part (h : Blk w b cs t) {o n : Nat} (hn : o + n ≤ cs.size) : uT w ⟨b, o, none⟩ n (cs.extract o (o + n)) := ⟨by simp; omega, fun j v hj => by
 rw [Addr.add_lit, h.cell]
 rw [Array.getElem?_extract] at hj
 split at hj
 ·exact hj
 ·cases hj⟩
theorem Blk.new (w : World) (cs : Array Value) (t : TypeId) : Blk (w.alloc (.cells cs t)) w.heap.size cs t := by unfold Blk; exact (by show (w.heap.push _)[w.heap.size]? = _; simp)
theorem Blk.alloc (h : Blk w b cs t) (o : Obj) : Blk (w.alloc o) b cs t := by unfold Blk; rw [Below.heap_alloc w o b h.lt]; exact h
theorem Blk.below {B : Nat} (h : Blk w b cs t) (hb : Below B w w') (hB : b < B) : Blk w' b cs t := by unfold Blk; rw [hb.block b hB]; exact h
theorem Blk.up (h : Blk w b cs t) (hb : Below w.heap.size w w') : Blk w' b cs t := h.below hb h.lt
theorem Blk.only {b' : Nat} (h : Blk w b cs t) (ho : Only b' w w') (hne : b ≠ b') : Blk w' b cs t := by unfold Blk; rw [ho.block b hne]; exact h
theorem Only.below {B : Nat} {w0 : World} (ho : Only b w w') (h : Below B w0 w) (hB : B ≤ b) : Below B w0 w' :=
 h.trans ⟨ho.os, ho.tape, ho.output, Nat.le_of_eq ho.size.symm, fun k hk => ho.block k (by omega)⟩
theorem Only.refl (b : Nat) (w : World) : Only b w w := ⟨rfl, rfl, rfl, rfl, fun _ _ => rfl⟩
theorem Only.trans {w'' : World} (h : Only b w w') (h' : Only b w' w'') : Only b w w'' := ⟨h'.os.trans h.os, h'.tape.trans h.tape, h'.output.trans h.output, h'.size.trans h.size, fun k hk => (h'.block k hk).trans (h.block k hk)⟩
theorem Only.cell {a : Addr} (ho : Only b w w') (hne : a.block ≠ b) : w'.cell? a = w.cell? a := World.cell?_of_block (w := w) (ho.block a.block hne)
theorem eR (w : World) (b : Nat) (cs : Array Value) : Only b w (w.setRow b cs) := ⟨rfl, rfl, rfl, by simp, fun k hk => setRow_other w b k cs hk⟩
theorem iP (h : Blk w b cs t) (cs' : Array Value) : Blk (w.setRow b cs') b cs' t := setRow_heap w b cs cs' t _ h
theorem qJ3 {ty : TypeId} {n : Nat} (h : cE P ty = some (some n)) (w : World) : (sizeOf ty).run P w = .ok n w := kP h w
theorem zEb {ty : TypeId} (h : cE P ty = some none) (w : World) : (sizeOf ty).run P w = .ok 1 w := by
 obtain ⟨_, _, _, _, i, hi, hs⟩ := uE h
 simp [sizeOf, typeInfo, hi, hs]
theorem qR0 {v : Value} (hv : v.oneCell' = true) : v.cells = #[v] := by cases v <;> first | rfl | (simp [Value.oneCell'] at hv)
theorem zNh {ty : TypeId} {i : Nat} {v : Value} (h : Blk w b cs t) (hk : cE P ty = some none) (hv : v.oneCell' = true) (hi : i < cs.size) :
  ∃ w', (storeVar ty ⟨b, i, none⟩ v).run P w = .ok () w' ∧ Blk w' b (cs.setIfInBounds i v) t ∧ Only b w w' := by
 refine ⟨w.setRow b (cs.setIfInBounds i v), ?_, iP h _, eR w b _⟩
 have hc : w.cell? ⟨b, i, none⟩ = some cs[i] := by rw [h.cell]; simp [hi]
 have hf : w.frozen? ⟨b, i, none⟩ = false := frozen_of_row w b i cs t h
 simp only [storeVar, Sem.run_bind, zEb hk, Result.andThen_ok, qR0 hv]
 simp [storeCells, Sem.run_bind, Addr.add_zero', run_store P w _ v _ hv, hc, hf, setCell_eq_setRow w b i cs t _ v h]
end
end Go.Eng
end

section
set_option linter.unusedSimpArgs false
set_option linter.unusedVariables false
namespace Go.Eng
open Go Go.RowKit

def SlAt (w : World) (v : Value) (sz n : Nat) (cell : Nat → Value) : Prop :=
 ∃ a cap, v = .slice a n cap ∧ n ≤ cap ∧ cap ≤ maxLen ∧ (0 < n → ∃ b off, a = some ⟨b, off, none⟩ ∧ ∀ j, j < n * sz → w.cell? ⟨b, off + j, none⟩ = some (cell j))
theorem SlAt.le {w : World} {v : Value} {sz n : Nat} {cell : Nat → Value} (h : SlAt w v sz n cell) : n ≤ maxLen := by
 obtain ⟨a, cap, _, h1, h2, _⟩ := h; omega
theorem SlAt.up {w w' : World} {v : Value} {sz n : Nat} {cell : Nat → Value} (h : SlAt w v sz n cell) (hb : Below w.heap.size w w') : SlAt w' v sz n cell := by
 obtain ⟨a, cap, hv, h1, h2, h3⟩ := h
 refine ⟨a, cap, hv, h1, h2, fun hn => ?_⟩
 obtain ⟨b, off, ha, hc⟩ := h3 hn
 exact ⟨b, off, ha, fun j hj => mB hb (hc j hj)⟩
theorem SlAt.congr {w : World} {v : Value} {sz n : Nat} {c1 c2 : Nat → Value} (h : SlAt w v sz n c1) (he : ∀ j, j < n * sz → c1 j = c2 j) : SlAt w v sz n c2 := by
 obtain ⟨a, cap, hv, h1, h2, h3⟩ := h
 refine ⟨a, cap, hv, h1, h2, fun hn => ?_⟩
 obtain ⟨b, off, ha, hc⟩ := h3 hn
 exact ⟨b, off, ha, fun j hj => by rw [← he j hj]; exact hc j hj⟩
def mF (P : Program) (t : TypeId) : Option (Nat × Nat × Nat × Array Value) :=
 match P.underlying t with
 | some (.slice e) => match P.info? e with
  | some i => match i.zero with
   | some z => some (e, i.size, i.bytes, z.cells)
   | none => none
  | none => none
 | _ => none
theorem fY {P : Program} {t e sz by' : Nat} {z : Array Value} (h : mF P t = some (e, sz, by', z)) :
  P.underlying t = some (.slice e) ∧ ∃ i u, P.info? e = some i ∧ i.size = sz ∧ i.bytes = by' ∧ i.zero = some u ∧ u.cells = z := by
 unfold mF at h
 split at h
 ·rename_i e' he
  split at h
  ·rename_i i hi
   split at h
   ·rename_i u hu
    simp only [Option.some.injEq, Prod.mk.injEq] at h
    obtain ⟨rfl, h2, h3, h4⟩ := h
    exact ⟨he, i, u, hi, h2, h3, hu, h4⟩
   ·cases h
  ·cases h
 ·cases h
abbrev Own (w : World) (base : Nat) (e : TypeId) (sz : Nat) (v : Value) (n : Nat) (xs : List Value) : Prop := w.ownsRow base e sz v n xs
theorem Own.up {w w' : World} {base : Nat} {e : TypeId} {sz : Nat} {v : Value} {n : Nat} {xs : List Value} (h : Own w base e sz v n xs) (hb : Below w.heap.size w w') : Own w' base e sz v n xs := by
 refine ⟨h.1, ?_⟩
 rcases h.2 with hn | ⟨g, cap, cur, hv, hbg, hg, r⟩
 ·exact .inl hn
 ·exact .inr ⟨g, cap, cur, hv, hbg, by rw [hb.block g (Array.getElem?_eq_some_iff.1 hg).1]; exact hg, r⟩
theorem Own.only {w w' : World} {base b : Nat} {e : TypeId} {sz : Nat} {v : Value} {n : Nat} {xs : List Value} (h : Own w base e sz v n xs) (ho : Only b w w') (hne : v.ownBlock ≠ some b) : Own w' base e sz v n xs := by
 refine ⟨h.1, ?_⟩
 rcases h.2 with hn | ⟨g, cap, cur, rfl, hbg, hg, r⟩
 ·exact .inl hn
 ·refine .inr ⟨g, cap, cur, rfl, hbg, ?_, r⟩
  rw [ho.block g (fun e => hne (by simp [Value.ownBlock, e]))]; exact hg
theorem qYp {P : Program} {w : World} {base t ty e sz by' : Nat} {z : Array Value} {v : Value} {n : Nat} {xs : List Value} (hse : mF P t = some (e, sz, by', z)) (hz : z.size = sz) (hsz : 0 < sz) (h : Own w base e sz v n xs)
  (a : Addr) (m c : Nat) (news : List Value) (hl : news.length = m * sz) (hnews : ∀ j u, news[j]? = some u → w.cell? (a.add j) = some u) (h1 : ∀ u ∈ news, u.oneCell' = true)
  (h63 : n + m ≤ maxLen) (hby : (n + m) * by' ≤ 140737488355328) (hbase : base ≤ w.heap.size) :
  ∃ v' w', (Builtin.append_ #[t, t] ty #[v, .slice (some a) m c]).run P w = .ok v' w' ∧ Own w' base e sz v' (n + m) (xs ++ news) ∧ w.grownBy w' v.ownBlock := by
 obtain ⟨hu, i, u, hi, h2, h3, h4, h5⟩ := fY hse
 obtain ⟨v', w', r1, r2, r3, _⟩ := run_append_own (P := P) w base t ty e i u sz by' hu hi h4 h2 h3 (by rw [h5, hz]) hsz v n xs h a m c news hl hnews h1 h63 hby hbase
 exact ⟨v', w', r1, r2, r3⟩
theorem zGu {P : Program} {w : World} {t e sz by' : Nat} {z : Array Value} (hse : mF P t = some (e, sz, by', z)) (n : Nat) (hby : by' * n ≤ 281474976710656) (h63 : n ≤ maxLen) :
  ∃ w', (Instr.makeSlice t (.int .i64 (n : Int)) (.int .i64 (n : Int))).run P w = .ok (.slice (some ⟨w.heap.size, 0, none⟩) n n) w' ∧
   Own w' w.heap.size e sz (.slice (some ⟨w.heap.size, 0, none⟩) n n) n (madeCells z (n * sz)).toList ∧ Below w.heap.size w w' ∧ w.heap.size < w'.heap.size := by
 obtain ⟨hu, i, u, hi, h2, h3, h4, h5⟩ := fY hse
 obtain ⟨w', r1, r2, r3⟩ := run_make_full (P := P) w w.heap.size t e i u sz hu hi h4 h2 .i64 .i64 n (by rw [h3]; exact hby) h63 (Nat.le_refl _)
 rw [h5] at r2
 exact ⟨w', r1, r2, (Below.refl _ _).grown r3 (Nat.le_refl _) (fun k hk => by cases hk), (r2.lt _ rfl).2⟩
theorem qSv (w : World) (cs : Array Value) (e sz n base : Nat) (hs : cs.size = n * sz) (hm : n ≤ maxLen) (hb : base ≤ w.heap.size) : Own (w.alloc (.cells cs e)) base e sz (.slice (some ⟨w.heap.size, 0, none⟩) n n) n cs.toList :=
 ⟨by simpa using hs, .inr ⟨w.heap.size, n, cs, rfl, hb, Blk.new w cs e, Nat.le_refl _, hm, hs, by rw [← hs, ← Array.length_toList, List.take_length]⟩⟩
theorem xT {P : Program} {w : World} {t e sz by' len : Nat} {z : Array Value} {parts : Array (Nat × Value)} (cs : Array Value) (hse : mF P t = some (e, sz, by', z)) (hl : len * sz ≤ 16777216) (hm : len ≤ maxLen)
  (h : Instr.fill (fun i => some (i * sz, sz)) ((Array.range (len * sz)).map (z[· % z.size]!)) parts.toList = some cs) (hs : cs.size = len * sz) :
  ∃ w', (Instr.buildSlice t len parts).run P w = .ok (.slice (some ⟨w.heap.size, 0, none⟩) len len) w' ∧ Own w' w.heap.size e sz (.slice (some ⟨w.heap.size, 0, none⟩) len len) len cs.toList ∧ Below w.heap.size w w' ∧ w.heap.size < w'.heap.size := by
 obtain ⟨hu, i, u, hi, h2, h3, h4, h5⟩ := fY hse
 refine ⟨w.alloc (.cells cs e), ?_, qSv w cs e sz len _ hs hm (Nat.le_refl _), (Below.refl _ _).alloc (Nat.le_refl _) _, by show _ < (w.heap.push _).size; simp⟩
 by_cases h0 : len * i.size = 0
 ·have hr : len * sz = 0 := by rw [← h2]; exact h0
  rw [hr] at h
  rw [show (Array.range 0).map (fun x => z[x % z.size]!) = #[] by simp] at h
  simp [Instr.buildSlice, run_underlying hu, sizeOf, typeInfo, hi, h0, newRow, Sem.run_bind]
  rw [← h2] at h
  rw [show Array.map (fun x => (default : Value)) (Array.range 0) = #[] by simp, h]
  simp [Sem.run_bind]
 ·refine run_buildSlice w t e len parts cs i u hu hi h4 (by rw [h2]; omega) h0 ?_
  rw [h2, h5]; exact h
theorem Own.form {w : World} {base n sz : Nat} {v : Value} {e : TypeId} {xs : List Value} (h : Own w base e sz v n xs) : ∃ ad cap, v = .slice ad n cap ∧ (0 < n → ∃ g, ad = some ⟨g, 0, none⟩ ∧ base ≤ g ∧ g < w.heap.size ∧ ∀ j u, xs[j]? = some u → w.cell? ⟨g, j, none⟩ = some u) := by
 have hl := h.1
 have hh := h
 rcases h.2 with ⟨rfl, rfl⟩ | ⟨g, cap, cur, rfl, hb, hg, hn, hm, hs, ht⟩
 ·exact ⟨_, _, rfl, fun h => absurd h (Nat.lt_irrefl _)⟩
 ·refine ⟨_, _, rfl, fun _ => ⟨g, rfl, hb, (Array.getElem?_eq_some_iff.1 hg).1, fun j u hj => ?_⟩⟩
  have hlt : j < xs.length := (List.getElem?_eq_some_iff.1 hj).1
  rw [World.ownsRow.cellAt hh j (by omega), hj]
end Go.Eng
end

section
set_option linter.unusedSimpArgs false
set_option linter.unusedVariables false
namespace Go.Eng
open Go Go.RowKit

inductive FV where
 | v (x : Value)
 | lst (fr : Bool) (xs : List (List FV))
instance : Inhabited FV := ⟨.v (.bool false)⟩
inductive HV where
 | v (x : Value)
 | lst (fr : Bool) (xs : List (List FV))
 | own (id : Nat)
 | vw (id sz off n : Nat)
 | ptr (id sz i k : Nat)
 | elt (fr : Bool) (xs : List (List FV)) (sz i k : Nat)
 | agg (cs : List HV)
 | tup (vs : List HV)
 | junk
instance : Inhabited HV := ⟨.junk⟩
def FV.h : FV → HV
 | .v x => .v x
 | .lst fr xs => .lst fr xs
inductive Row where
 | sl (nw : Bool) (ty sz : Nat) (els : List (List FV))
 | bx (nw : Bool) (ty : Nat) (cells : List HV)
 | hl (nw : Bool) (ty sz : Nat) (els : List (List HV))
def Row.nw : Row → Bool | .sl n _ _ _ => n | .bx n _ _ => n | .hl n _ _ _ => n
def Row.ty : Row → Nat | .sl _ t _ _ => t | .bx _ t _ => t | .hl _ t _ _ => t
def Row.sz : Row → Nat | .sl _ _ s _ => s | .bx _ _ cs => cs.length | .hl _ _ s _ => s
def Row.len : Row → Nat | .sl _ _ _ xs => xs.length | .bx _ _ _ => 1 | .hl _ _ _ xs => xs.length
abbrev aL := List (Nat × HV)
abbrev aD := List (Nat × Row)
structure HS where
 env : aL
 st : aD
def hlk : aL → Nat → Option HV
 | [], _ => none
 | (k, v) :: r, t => if k = t then some v else hlk r t
def rlk : aD → Nat → Option Row
 | [], _ => none
 | (k, v) :: r, t => if k = t then some v else rlk r t

inductive RepF (w : World) (A : Nat → Prop) (n0 : Nat) : Value → FV → Prop
 | v (x : Value) : RepF w A n0 x (.v x)
 | lst {a : Option Addr} {n cap : Nat} {fr : Bool} {xs : List (List FV)} (sz : Nat) (vals : Nat → Nat → Value)
   (hn : xs.length = n) (hc : n ≤ cap) (hm : cap ≤ maxLen) (hnil : a = none → cap = 0) (hsz : ∀ x ∈ xs, x.length = sz)
   (ha : 0 < n → ∃ b off, a = some ⟨b, off, none⟩ ∧ ¬ A b ∧ b < w.heap.size ∧ (fr = true → n0 ≤ b) ∧ ∀ i k, i < n → k < sz → w.cell? ⟨b, off + (i * sz + k), none⟩ = some (vals i k))
   (h1 : ∀ i k, i < n → k < sz → (vals i k).oneCell' = true)
   (hr : ∀ i k (hi : i < xs.length) (hk : k < xs[i].length), RepF w A n0 (vals i k) (xs[i][k])) : RepF w A n0 (.slice a n cap) (.lst fr xs)
inductive RepH (w : World) (A : Nat → Prop) (n0 : Nat) (ρ : Nat → Value) : Value → HV → Prop
 | v (x : Value) : RepH w A n0 ρ x (.v x)
 | lst {v : Value} {fr : Bool} {xs : List (List FV)} (h : RepF w A n0 v (.lst fr xs)) : RepH w A n0 ρ v (.lst fr xs)
 | own (id : Nat) (h1 : (ρ id).oneCell' = true) : RepH w A n0 ρ (ρ id) (.own id)
 | vw {id n c c' : Nat} {a a' : Option Addr} (sz off m : Nat) (h : ρ id = .slice a n c) (hm : off + m ≤ n) (hc : c' = c - off) (hn : a' = none → c' = 0) (hx : c' ≤ maxLen) (ha : off < c → ∃ g, a = some ⟨g, 0, none⟩ ∧ a' = some ⟨g, off * sz, none⟩) : RepH w A n0 ρ (.slice a' m c') (.vw id sz off m)
 | ptr {id g n c : Nat} (sz i k : Nat) (h : ρ id = .slice (some ⟨g, 0, none⟩) n c) : RepH w A n0 ρ (.pointer (some ⟨g, i * sz + k, none⟩)) (.ptr id sz i k)
 | elt {b off n cap : Nat} {fr : Bool} {xs : List (List FV)} {sz i k : Nat} (h : RepF w A n0 (.slice (some ⟨b, off, none⟩) n cap) (.lst fr xs)) (hsz : ∀ x ∈ xs, x.length = sz) (hi : i < xs.length) :
   RepH w A n0 ρ (.pointer (some ⟨b, off + (i * sz + k), none⟩)) (.elt fr xs sz i k)
 | agg {cs : Array Value} {hs : List HV} (hn : cs.size = hs.length) (h1 : ∀ j (h : j < cs.size), (cs[j]).oneCell' = true) (h : ∀ j (h1 : j < cs.size) (h2 : j < hs.length), RepH w A n0 ρ cs[j] hs[j]) : RepH w A n0 ρ (.agg cs) (.agg hs)
 | tup {cs : Array Value} {hs : List HV} (hn : cs.size = hs.length) (h : ∀ j (h1 : j < cs.size) (h2 : j < hs.length), RepH w A n0 ρ cs[j] hs[j]) : RepH w A n0 ρ (.tuple cs) (.tup hs)
 | junk (v : Value) : RepH w A n0 ρ v .junk

theorem iN {w w' : World} {b o : Nat} (h : w'.heap[b]? = w.heap[b]?) : w'.cell? ⟨b, o, none⟩ = w.cell? ⟨b, o, none⟩ := World.cell?_of_block (a := ⟨b, o, none⟩) h
theorem RepF.up {w w' : World} {A A' : Nat → Prop} {n0 n1 : Nat} {v : Value} {x : FV} (h : RepF w A n0 v x) (hs : w.heap.size ≤ w'.heap.size)
  (hb : ∀ b, b < w.heap.size → ¬ A b → w'.heap[b]? = w.heap[b]?) (hA : ∀ b, b < w.heap.size → A' b → A b) (hn : n1 ≤ n0) : RepF w' A' n1 v x := by
 induction h with
 | v x => exact .v x
 | lst sz vals hn hc hm hnil hsz ha h1 hr ih =>
  refine .lst sz vals hn hc hm hnil hsz (fun h0 => ?_) h1 (fun i k hi hk => ih i k hi hk)
  obtain ⟨b, off, ea, h2, h3, h4, h5⟩ := ha h0
  exact ⟨b, off, ea, fun hA' => h2 (hA b h3 hA'), by omega, fun hf => by have := h4 hf; omega, fun i k hi hk => by rw [iN (hb b h3 h2)]; exact h5 i k hi hk⟩
def only (id : Nat) : Nat → Bool := fun i => i == id
def eC (n : Nat) : Nat → Bool := fun i => Nat.ble n i && Nat.blt i (n + 8)
theorem mC {id i : Nat} (h : i ≠ id) : only id i = false := by simpa [only] using h
theorem zD1 (id : Nat) : only id id = true := by simp [only]
theorem uD {id i : Nat} (h : only id i = false) : i ≠ id := by simpa [only] using h
def HV.kill (p : Nat → Bool) : HV → HV
 | .own i => bif p i then .junk else .own i
 | .vw i sz o n => bif p i then .junk else .vw i sz o n
 | .ptr i sz j k => bif p i then .junk else .ptr i sz j k
 | .agg cs => .agg (cs.map (kill p))
 | .tup cs => .tup (cs.map (kill p))
 | .v x => .v x
 | .lst fr xs => .lst fr xs
 | .elt fr xs sz i k => .elt fr xs sz i k
 | .junk => .junk
section
variable {w w' : World} {A A' : Nat → Prop} {n0 n1 : Nat} {ρ ρ' : Nat → Value}
theorem RepH.up {v : Value} {x : HV} (h : RepH w A n0 ρ v x) (hs : w.heap.size ≤ w'.heap.size)
  (hb : ∀ b, b < w.heap.size → ¬ A b → w'.heap[b]? = w.heap[b]?) (hA : ∀ b, b < w.heap.size → A' b → A b) (hn : n1 ≤ n0) : RepH w' A' n1 ρ v x := by
 induction h with
 | v x => exact .v x
 | lst h => exact .lst (h.up hs hb hA hn)
 | own id h1 => exact .own id h1
 | vw sz off m h a b d x e => exact .vw sz off m h a b d x e
 | ptr sz i k h => exact .ptr sz i k h
 | elt h h1 h2 => exact .elt (h.up hs hb hA hn) h1 h2
 | agg hn h1 h ih => exact .agg hn h1 ih
 | tup hn h ih => exact .tup hn ih
 | junk v => exact .junk v
theorem RepH.kill {v : Value} {x : HV} {p : Nat → Bool} (h : RepH w A n0 ρ v x) (hρ : ∀ j, p j = false → ρ' j = ρ j) : RepH w A n0 ρ' v (x.kill p) := by
 induction h with
 | v x => rw [HV.kill]; exact .v x
 | lst h => rw [HV.kill]; exact .lst h
 | own j h1 =>
  rw [HV.kill]
  cases h : p j with
  | true => exact .junk _
  | false => rw [← hρ j h]; exact .own j (by rw [hρ j h]; exact h1)
 | vw sz off m h a b d x e =>
  rename_i id _ _ _ _ _
  rw [HV.kill]
  cases hne : p id with
  | true => exact .junk _
  | false => exact .vw sz off m (by rw [hρ _ hne]; exact h) a b d x e
 | ptr sz i k h =>
  rename_i id _ _ _
  rw [HV.kill]
  cases hne : p id with
  | true => exact .junk _
  | false => exact .ptr sz i k (by rw [hρ _ hne]; exact h)
 | elt h h1 h2 => rw [HV.kill]; exact .elt h h1 h2
 | agg hn h1 h ih =>
  rw [HV.kill]
  exact .agg (by simpa using hn) h1 (fun j a b => by rw [List.getElem_map]; exact ih j a (by simpa using b))
 | tup hn h ih =>
  rw [HV.kill]
  exact .tup (by simpa using hn) (fun j a b => by rw [List.getElem_map]; exact ih j a (by simpa using b))
 | junk v => rw [HV.kill]; exact .junk v
theorem RepF.h {v : Value} {x : FV} (h : RepF w A n0 v x) : RepH w A n0 ρ v x.h := by
 cases h with
 | v => exact .v _
 | lst sz vals a b c d e f g i => exact .lst (.lst sz vals a b c d e f g i)
end
structure Ctx where
 w0 : World
 T : Nat → Prop
 A0 : Nat → Prop
 n0 : Nat
 hn : n0 ≤ w0.heap.size
 B : Nat → Nat → Prop
abbrev cx (w : World) (T A0 : Nat → Prop) : Ctx := ⟨w, T, A0, w.heap.size, Nat.le_refl _, fun _ _ => False⟩
structure RowOk (w : World) (A : Nat → Prop) (c : Ctx) (ρ : Nat → Value) (id : Nat) (r : Row) (xs : List Value) : Prop where
 own : Own w 0 r.ty r.sz (ρ id) r.len xs
 rep : match r with
  | .sl _ _ sz els => (∀ x ∈ els, x.length = sz) ∧ ∀ i k (hi : i < els.length) (hk : k < els[i].length), ∃ u, xs[i * sz + k]? = some u ∧ u.oneCell' = true ∧ RepF w A c.n0 u els[i][k]
  | .bx nw _ cells => (∃ g, ρ id = .slice (some ⟨g, 0, none⟩) 1 1 ∧ (nw = false → c.B id g)) ∧ ∀ k (hk : k < cells.length), ∃ u, xs[k]? = some u ∧ u.oneCell' = true ∧ RepH w A c.n0 ρ u cells[k]
  | .hl _ _ sz els => (∀ x ∈ els, x.length = sz) ∧ ∀ i k (hi : i < els.length) (hk : k < els[i].length), ∃ u, xs[i * sz + k]? = some u ∧ u.oneCell' = true ∧ RepH w A c.n0 ρ u els[i][k]
 new : ∀ b, (ρ id).ownBlock = some b → (c.w0.heap.size ≤ b ∨ c.T b) ∧ (r.nw = true → c.n0 ≤ b)
def nD (ρ : Nat → Value) (st : aD) (b : Nat) : Prop := ∃ id r, rlk st id = some r ∧ (ρ id).ownBlock = some b
structure Kept (T : Nat → Prop) (w w' : World) : Prop where
 os : w'.os = w.os
 tape : w'.tape = w.tape
 output : w'.output = w.output
 size : w.heap.size ≤ w'.heap.size
 block : ∀ b, b < w.heap.size → ¬ T b → w'.heap[b]? = w.heap[b]?
theorem Kept.refl (T : Nat → Prop) (w : World) : Kept T w w := ⟨rfl, rfl, rfl, Nat.le_refl _, fun _ _ _ => rfl⟩
theorem Kept.trans {T T' : Nat → Prop} {a b c : World} (h : Kept T a b) (h' : Kept T' b c) (hT : ∀ k, k < a.heap.size → T' k → T k) : Kept T a c :=
 ⟨h'.os.trans h.os, h'.tape.trans h.tape, h'.output.trans h.output, Nat.le_trans h.size h'.size, fun k hk hT' =>
  (h'.block k (Nat.lt_of_lt_of_le hk h.size) (fun e => hT' (hT k hk e))).trans (h.block k hk hT')⟩
theorem Kept.below {w w' : World} {T : Nat → Prop} (h : Kept T w w') (hT : ∀ b, b < w.heap.size → ¬ T b) : Below w.heap.size w w' := ⟨h.os, h.tape, h.output, h.size, fun k hk => h.block k hk (hT k hk)⟩

def Ctx.A (c : Ctx) (ρ : Nat → Value) (st : aD) (b : Nat) : Prop := c.A0 b ∨ nD ρ st b
structure Good (c : Ctx) (S : HS) (look : Nat → Option Value) (w : World) (ρ : Nat → Value) (xs : Nat → List Value) : Prop where
 rows : ∀ id r, rlk S.st id = some r → RowOk w (c.A ρ S.st) c ρ id r (xs id)
 apart : ∀ i j r s b, i ≠ j → rlk S.st i = some r → rlk S.st j = some s → (ρ i).ownBlock = some b → (ρ j).ownBlock = some b → False
 env : ∀ k h, hlk S.env k = some h → ∃ v, look k = some v ∧ RepH w (c.A ρ S.st) c.n0 ρ v h
 kept : Kept c.T c.w0 w
 a0 : ∀ b, c.A0 b → b < c.w0.heap.size ∧ ¬ c.T b
def Inv (c : Ctx) (S : HS) (look : Nat → Option Value) (w : World) : Prop := ∃ ρ xs, Good c S look w ρ xs
def InvV (c : Ctx) (S : HS) (h : HV) (v : Value) (look : Nat → Option Value) (w : World) : Prop := ∃ ρ xs, Good c S look w ρ xs ∧ RepH w (c.A ρ S.st) c.n0 ρ v h

def Row.kill (p : Nat → Bool) : Row → Row
 | .sl n t s xs => .sl n t s xs
 | .bx n t cs => .bx n t (cs.map (HV.kill p))
 | .hl n t s xs => .hl n t s (xs.map (List.map (HV.kill p)))
def cU (p : Nat → Bool) : aD → aD
 | [] => []
 | (k, r) :: s => bif p k then cU p s else (k, r.kill p) :: cU p s
def iB (p : Nat → Bool) : aL → aL
 | [] => []
 | (k, h) :: s => (k, h.kill p) :: iB p s
def HS.kill (S : HS) (p : Nat → Bool) : HS := ⟨iB p S.env, cU p S.st⟩
def HS.row (S : HS) (id : Nat) (r : Row) : HS := ⟨S.env, (id, r) :: S.st⟩
theorem kD (p : Nat → Bool) : ∀ (l : aL) (k : Nat), hlk (iB p l) k = (hlk l k).map (HV.kill p)
 | [], k => rfl
 | (j, h) :: r, k => by
  simp only [iB, hlk]
  split
  ·rfl
  ·exact kD p r k
theorem dY (p : Nat → Bool) : ∀ (l : aD) (k : Nat), rlk (cU p l) k = bif p k then none else (rlk l k).map (Row.kill p)
 | [], k => by cases p k <;> rfl
 | (j, h) :: r, k => by
  simp only [cU, rlk]
  by_cases e2 : j = k
  ·subst e2
   rw [if_pos rfl]
   cases e : p j with
   | true => simp only [cond_true]; rw [dY p r j, e, cond_true]
   | false => simp only [cond_false, rlk, if_true, Option.map_some]
  ·rw [if_neg e2]
   cases e : p j with
   | true => simp only [cond_true]; exact dY p r k
   | false => simp only [cond_false, rlk, if_neg e2]; exact dY p r k
theorem Row.kill_ty (p : Nat → Bool) (r : Row) : (r.kill p).ty = r.ty := by cases r <;> rfl
theorem Row.kill_sz (p : Nat → Bool) (r : Row) : (r.kill p).sz = r.sz := by cases r <;> simp [Row.kill, Row.sz]
theorem Row.kill_len (p : Nat → Bool) (r : Row) : (r.kill p).len = r.len := by cases r <;> simp [Row.kill, Row.len]
theorem Row.kill_nw (p : Nat → Bool) (r : Row) : (r.kill p).nw = r.nw := by cases r <;> rfl
section
variable {w w' : World} {A A' : Nat → Prop} {c : Ctx} {ρ ρ' : Nat → Value} {id : Nat} {r : Row} {xs : List Value}
theorem Own.block {base : Nat} {e : TypeId} {sz n : Nat} {v : Value} (h : Own w base e sz v n xs) (hb : ∀ b, v.ownBlock = some b → w'.heap[b]? = w.heap[b]?) : Own w' base e sz v n xs := by
 refine ⟨h.1, ?_⟩
 rcases h.2 with hn | ⟨g, cap, cur, rfl, hbg, hg, r⟩
 ·exact .inl hn
 ·exact .inr ⟨g, cap, cur, rfl, hbg, by rw [hb g rfl]; exact hg, r⟩
theorem RowOk.up (h : RowOk w A c ρ id r xs) (hs : w.heap.size ≤ w'.heap.size) (hb : ∀ b, b < w.heap.size → ¬ A b → w'.heap[b]? = w.heap[b]?) (hA : ∀ b, b < w.heap.size → A' b → A b)
  (ho : ∀ b, (ρ id).ownBlock = some b → w'.heap[b]? = w.heap[b]?) : RowOk w' A' c ρ id r xs := by
 refine ⟨h.own.block ho, ?_, h.new⟩
 have := h.rep
 cases r with
 | sl n t s els =>
  refine ⟨this.1, fun i k hi hk => ?_⟩
  obtain ⟨u, h1, h2, h3⟩ := this.2 i k hi hk
  exact ⟨u, h1, h2, h3.up hs hb hA (Nat.le_refl _)⟩
 | bx n t cs =>
  refine ⟨this.1, fun k hk => ?_⟩
  obtain ⟨u, h1, h2, h3⟩ := this.2 k hk
  exact ⟨u, h1, h2, h3.up hs hb hA (Nat.le_refl _)⟩
 | hl n t s els =>
  refine ⟨this.1, fun i k hi hk => ?_⟩
  obtain ⟨u, h1, h2, h3⟩ := this.2 i k hi hk
  exact ⟨u, h1, h2, h3.up hs hb hA (Nat.le_refl _)⟩
theorem RowOk.kill {p : Nat → Bool} (h : RowOk w A c ρ id r xs) (hρ : ∀ i, p i = false → ρ' i = ρ i) (hne : p id = false) : RowOk w A c ρ' id (r.kill p) xs := by
 refine ⟨by rw [Row.kill_ty, Row.kill_sz, Row.kill_len, hρ id hne]; exact h.own, ?_, fun b hb => by rw [Row.kill_nw]; rw [hρ id hne] at hb; exact h.new b hb⟩
 have := h.rep
 cases r with
 | sl n t s els => exact this
 | bx n t cs =>
  refine ⟨by rw [hρ id hne]; exact this.1, fun k hk => ?_⟩
  obtain ⟨u, h1, h2, h3⟩ := this.2 k (by simpa using hk)
  refine ⟨u, h1, h2, ?_⟩
  rw [List.getElem_map]
  exact h3.kill hρ
 | hl n t s els =>
  refine ⟨fun x hx => ?_, fun i k hi hk => ?_⟩
  ·obtain ⟨y, hy, rfl⟩ := List.mem_map.1 hx
   rw [List.length_map]; exact this.1 y hy
  ·simp only [List.length_map] at hi
   simp only [List.getElem_map, List.length_map] at hk ⊢
   obtain ⟨u, h1, h2, h3⟩ := this.2 i k hi hk
   exact ⟨u, h1, h2, h3.kill hρ⟩
end
section
variable {c : Ctx} {S : HS} {look : Nat → Option Value} {w w' : World} {ρ ρ' : Nat → Value} {xs : Nat → List Value}
theorem Good.lt (h : Good c S look w ρ xs) {id : Nat} {r : Row} {b : Nat} (hr : rlk S.st id = some r) (hb : (ρ id).ownBlock = some b) : b < w.heap.size := ((h.rows id r hr).own.lt b hb).2
theorem Good.below (h : Good c S look w ρ xs) (hb : Below w.heap.size w w') : Good c S look w' ρ xs :=
 ⟨fun id r hr => (h.rows id r hr).up hb.size (fun b hlt _ => hb.block b hlt) (fun b _ h => h) (fun b hb' => hb.block b (h.lt hr hb')), h.apart,
  fun k x hk => by obtain ⟨v, h1, h2⟩ := h.env k x hk; exact ⟨v, h1, h2.up hb.size (fun b hlt _ => hb.block b hlt) (fun b _ h => h) (Nat.le_refl _)⟩,
  h.kept.trans (T' := fun _ => False) ⟨hb.os, hb.tape, hb.output, hb.size, fun b hlt _ => hb.block b hlt⟩ (fun _ _ h => h.elim), h.a0⟩
theorem Good.put (h : Good c S look w ρ xs) (id : Nat) (r : Row) (ys : List Value) (hs : w.heap.size ≤ w'.heap.size) (hos : w'.os = w.os) (htape : w'.tape = w.tape) (hout : w'.output = w.output)
  (old : Option Nat) (hold : ∀ b, old = some b → ∃ r0, rlk S.st id = some r0 ∧ (ρ id).ownBlock = some b)
  (hb : ∀ b, b < w.heap.size → some b ≠ old → w'.heap[b]? = w.heap[b]?) (hρ : ∀ i, i ≠ id → ρ' i = ρ i)
  (hblk : ∀ b, (ρ' id).ownBlock = some b → w.heap.size ≤ b ∨ old = some b)
  (hrow : (∀ v x, RepH w (c.A ρ S.st) c.n0 ρ v x → RepH w' (c.A ρ' ((id, r) :: cU (only id) S.st)) c.n0 ρ' v (x.kill (only id))) →
   (∀ v x, RepF w (c.A ρ S.st) c.n0 v x → RepF w' (c.A ρ' ((id, r) :: cU (only id) S.st)) c.n0 v x) → RowOk w' (c.A ρ' ((id, r) :: cU (only id) S.st)) c ρ' id r ys) :
  Good c ((S.kill (only id)).row id r) look w' ρ' (fun i => if i = id then ys else xs i) := by
 have hA : ∀ b, b < w.heap.size → c.A ρ' ((id, r) :: cU (only id) S.st) b → c.A ρ S.st b := by
  rintro b hlt (h0 | ⟨i, s, hi, hbi⟩)
  ·exact .inl h0
  ·right
   simp only [rlk] at hi
   by_cases e : id = i
   ·subst e
    rcases hblk b hbi with hge | ho
    ·omega
    ·obtain ⟨r0, h1, h2⟩ := hold b ho
     exact ⟨id, r0, h1, h2⟩
   ·rw [if_neg e, dY, mC (by omega), cond_false] at hi
    cases hs0 : rlk S.st i with
    | none => rw [hs0] at hi; cases hi
    | some s0 => rw [hρ i (by omega)] at hbi; exact ⟨i, s0, hs0, hbi⟩
 have hb' : ∀ b, b < w.heap.size → ¬ c.A ρ S.st b → w'.heap[b]? = w.heap[b]? := fun b hlt hn => hb b hlt fun e => hn (.inr (by
  obtain ⟨r0, h1, h2⟩ := hold b e.symm
  exact ⟨id, r0, h1, h2⟩))
 have hoth : ∀ i s b, i ≠ id → rlk S.st i = some s → (ρ i).ownBlock = some b → w'.heap[b]? = w.heap[b]? := fun i s b hne hi hbi =>
  hb b (h.lt hi hbi) fun e => by
   obtain ⟨r0, h1, h2⟩ := hold b e.symm
   exact h.apart i id s r0 b hne hi h1 hbi h2
 have tr : ∀ v x, RepH w (c.A ρ S.st) c.n0 ρ v x → RepH w' (c.A ρ' ((id, r) :: cU (only id) S.st)) c.n0 ρ' v (x.kill (only id)) := fun v x hv => (hv.up hs hb' hA (Nat.le_refl _)).kill (fun j hj => hρ j (uD hj))
 have trF : ∀ v x, RepF w (c.A ρ S.st) c.n0 v x → RepF w' (c.A ρ' ((id, r) :: cU (only id) S.st)) c.n0 v x := fun v x hv => hv.up hs hb' hA (Nat.le_refl _)
 refine ⟨?_, ?_, ?_, ?_, h.a0⟩
 ·intro i s hi
  simp only [HS.row, HS.kill, rlk] at hi
  by_cases e : id = i
  ·subst e
   rw [if_pos rfl] at hi
   simp only [Option.some.injEq] at hi
   subst hi
   rw [if_pos rfl]
   exact hrow tr trF
  ·rw [if_neg e, dY, mC (by omega), cond_false] at hi
   rw [if_neg (by omega)]
   cases hs0 : rlk S.st i with
   | none => rw [hs0] at hi; cases hi
   | some s0 =>
    rw [hs0] at hi
    simp only [Option.map_some, Option.some.injEq] at hi
    subst hi
    exact ((h.rows i s0 hs0).up hs hb' hA (fun b hbi => hoth i s0 b (by omega) hs0 hbi)).kill (fun j hj => hρ j (uD hj)) (mC (by omega))
 ·have key : ∀ i s b, i ≠ id → rlk ((id, r) :: cU (only id) S.st) i = some s → (ρ' i).ownBlock = some b → ∃ s0, rlk S.st i = some s0 ∧ (ρ i).ownBlock = some b := by
   intro i s b hne hi hbi
   simp only [rlk] at hi
   rw [if_neg (by omega), dY, mC hne, cond_false] at hi
   cases hs0 : rlk S.st i with
   | none => rw [hs0] at hi; cases hi
   | some s0 => rw [hρ i hne] at hbi; exact ⟨s0, rfl, hbi⟩
  intro i j ri rj b hne hi hj hbi hbj
  by_cases ei : i = id
  ·subst ei
   obtain ⟨s0, h1, h2⟩ := key j rj b (by omega) hj hbj
   rcases hblk b hbi with hge | ho
   ·have := h.lt h1 h2; omega
   ·obtain ⟨r0, h3, h4⟩ := hold b ho
    exact h.apart i j r0 s0 b hne h3 h1 h4 h2
  ·by_cases ej : j = id
   ·subst ej
    obtain ⟨s0, h1, h2⟩ := key i ri b ei hi hbi
    rcases hblk b hbj with hge | ho
    ·have := h.lt h1 h2; omega
    ·obtain ⟨r0, h3, h4⟩ := hold b ho
     exact h.apart i j s0 r0 b hne h1 h3 h2 h4
   ·obtain ⟨s0, h1, h2⟩ := key i ri b ei hi hbi
    obtain ⟨s1, h3, h4⟩ := key j rj b ej hj hbj
    exact h.apart i j s0 s1 b hne h1 h3 h2 h4
 ·intro k x hk
  simp only [HS.row, HS.kill, kD] at hk
  cases hx : hlk S.env k with
  | none => rw [hx] at hk; cases hk
  | some x0 =>
   rw [hx] at hk
   simp only [Option.map_some, Option.some.injEq] at hk
   subst hk
   obtain ⟨v, h1, h2⟩ := h.env k x0 hx
   exact ⟨v, h1, tr v x0 h2⟩
 ·refine h.kept.trans (T' := fun b => old = some b) ⟨hos, htape, hout, hs, fun b hlt hn => hb b hlt fun e => hn e.symm⟩ fun b hlt e => ?_
  obtain ⟨r0, h1, h2⟩ := hold b e
  rcases ((h.rows id r0 h1).new b h2).1 with hge | hT
  ·omega
  ·exact hT
theorem Good.upd (h : Good c S look w ρ xs) (id : Nat) (r0 r : Row) (ys : List Value) (hs : w.heap.size = w'.heap.size) (hos : w'.os = w.os) (htape : w'.tape = w.tape) (hout : w'.output = w.output)
  (hr0 : rlk S.st id = some r0) (hnw : r.nw = r0.nw) (hb : ∀ b, (ρ id).ownBlock ≠ some b → w'.heap[b]? = w.heap[b]?)
  (st' : aD) (hst : ∀ i, rlk st' i = if i = id then some r else rlk S.st i)
  (hrow : (∀ v x, RepH w (c.A ρ S.st) c.n0 ρ v x → RepH w' (c.A ρ st') c.n0 ρ v x) →
   (∀ v x, RepF w (c.A ρ S.st) c.n0 v x → RepF w' (c.A ρ st') c.n0 v x) → RowOk w' (c.A ρ st') c ρ id r ys) :
  Good c ⟨S.env, st'⟩ look w' ρ (fun i => if i = id then ys else xs i) := by
 have hA : ∀ b, c.A ρ st' b → c.A ρ S.st b := by
  rintro b (h0 | ⟨i, s, hi, hbi⟩)
  ·exact .inl h0
  ·right
   rw [hst] at hi
   by_cases e : i = id
   ·subst e; exact ⟨i, r0, hr0, hbi⟩
   ·rw [if_neg e] at hi; exact ⟨i, s, hi, hbi⟩
 have hb' : ∀ b, b < w.heap.size → ¬ c.A ρ S.st b → w'.heap[b]? = w.heap[b]? := fun b _ hn => hb b fun e => hn (.inr ⟨id, r0, hr0, e⟩)
 have tr : ∀ v x, RepH w (c.A ρ S.st) c.n0 ρ v x → RepH w' (c.A ρ st') c.n0 ρ v x := fun v x hv => hv.up (Nat.le_of_eq hs) hb' (fun b _ => hA b) (Nat.le_refl _)
 have trF : ∀ v x, RepF w (c.A ρ S.st) c.n0 v x → RepF w' (c.A ρ st') c.n0 v x := fun v x hv => hv.up (Nat.le_of_eq hs) hb' (fun b _ => hA b) (Nat.le_refl _)
 have back : ∀ i s, rlk st' i = some s → ∃ s0, rlk S.st i = some s0 := by
  intro i s hi
  rw [hst] at hi
  by_cases e : i = id
  ·subst e; exact ⟨r0, hr0⟩
  ·rw [if_neg e] at hi; exact ⟨s, hi⟩
 refine ⟨?_, ?_, ?_, ?_, h.a0⟩
 ·intro i s hi
  rw [hst] at hi
  by_cases e : i = id
  ·subst e
   rw [if_pos rfl] at hi
   simp only [Option.some.injEq] at hi
   subst hi
   rw [if_pos rfl]
   exact hrow tr trF
  ·rw [if_neg e] at hi
   rw [if_neg e]
   exact (h.rows i s hi).up (Nat.le_of_eq hs) hb' (fun b _ => hA b) (fun b hbi => hb b fun e2 => h.apart i id s r0 b e hi hr0 hbi e2)
 ·intro i j ri rj b hne hi hj hbi hbj
  obtain ⟨s0, h1⟩ := back i ri hi
  obtain ⟨s1, h2⟩ := back j rj hj
  exact h.apart i j s0 s1 b hne h1 h2 hbi hbj
 ·intro k x hk
  obtain ⟨v, h1, h2⟩ := h.env k x hk
  exact ⟨v, h1, tr v x h2⟩
 ·refine h.kept.trans (T' := fun b => (ρ id).ownBlock = some b) ⟨hos, htape, hout, Nat.le_of_eq hs, fun b hlt hn => hb b hn⟩ fun b hlt e => ?_
  rcases ((h.rows id r0 hr0).new b e).1 with hge | hT
  ·omega
  ·exact hT
end
end Go.Eng
end

section
set_option linter.unusedSimpArgs false
set_option linter.unusedVariables false
namespace Go.Eng
open Go Go.RowKit

def qD6 : Option HV → Option Value
 | some (.v x) => some x
 | _ => none
def lo : aL → Env
 | [] => []
 | (k, h) :: r => match h with
  | .v x => (k, x) :: lo r
  | _ => (lo r).filter (fun p => p.1 != k)
theorem xW (k : Nat) : ∀ (l : Env) (t : Nat), lk (l.filter (fun p => p.1 != k)) t = if t = k then none else lk l t
 | [], t => by simp [lk]
 | (j, v) :: r, t => by
  by_cases e : j = k
  ·subst e
   rw [List.filter_cons_of_neg (by simp), xW j r t]
   by_cases e2 : t = j
   ·simp [e2]
   ·rw [if_neg e2, if_neg e2, lk, if_neg (by omega)]
  ·rw [List.filter_cons_of_pos (by simpa using e)]
   simp only [lk]
   by_cases e2 : j = t
   ·rw [if_pos e2, if_pos e2, if_neg (by omega)]
   ·rw [if_neg e2, if_neg e2, xW k r t]
theorem zAw : ∀ (l : aL) (t : Nat), lk (lo l) t = qD6 (hlk l t)
 | [], t => rfl
 | (k, h) :: r, t => by
  have ih := zAw r t
  simp only [hlk]
  by_cases e : k = t
  ·subst e
   rw [if_pos rfl]
   cases h <;> simp [lo, lk, qD6, xW]
  ·rw [if_neg e]
   cases h <;> simp only [lo] <;> first | (rw [xW, if_neg (by omega)]; exact ih) | (rw [lk, if_neg e]; exact ih)
def hev (l : aL) : Operand → Option HV
 | .tmp t => hlk l t
 | .const v => some (.v v)
 | .global g => some (.v (.pointer (some ⟨g, 0, none⟩)))
 | .func f => some (.v (.func (.func f) #[] #[]))
def jK (l : aL) : List Operand → Option (List HV)
 | [] => some []
 | x :: r => match hev l x with
  | some v => match jK l r with
   | some vs => some (v :: vs)
   | none => none
  | none => none
def bS (p : Prop) : Prop := p
def Wid (sz : Nat) (xs : List (List FV)) : Prop := ∀ x ∈ xs, x.length = sz
inductive HOut where
 | go (c : Prop) (h : HV) (S : HS)
 | call (f : FuncId) (args : List HV)
 | eqn (t : TypeId) (xs ys : List Value) (neg : Bool)
 | bytes (ok : Bool) (s : ByteArray)
 | bad
def HV.f : HV → Option FV
 | .v x => some (.v x)
 | .lst fr xs => some (.lst fr xs)
 | _ => none
def HV.fs : List HV → Option (List FV)
 | [] => some []
 | h :: r => match h.f, HV.fs r with
  | some f, some fs => some (f :: fs)
  | _, _ => none
def FV.one : FV → Bool
 | .v x => x.oneCell'
 | .lst _ _ => true
def HV.one : HV → Bool
 | .v x => x.oneCell'
 | .agg _ | .tup _ | .junk => false
 | _ => true
def dP : HV → Option (List HV)
 | .agg cs => some cs
 | .tup _ | .junk => none
 | .v (.agg _) | .v (.tuple _) => none
 | h => some [h]
def splice {α : Type} (l : List α) (k : Nat) (cs : List α) : List α := l.take k ++ cs ++ l.drop (k + cs.length)
def iD (id : Nat) (r : Row) : aD → aD
 | [] => []
 | (k, s) :: t => if k = id then (k, r) :: t else (k, s) :: iD id r t
theorem iJ (id : Nat) (r : Row) : ∀ (st : aD) (r0 : Row) (_ : rlk st id = some r0) (i : Nat), rlk (iD id r st) i = if i = id then some r else rlk st i
 | [], r0, h, i => by simp [rlk] at h
 | (k, s) :: t, r0, h, i => by
  simp only [rlk] at h
  simp only [iD]
  by_cases e : k = id
  ·subst e
   rw [if_pos rfl]
   simp only [rlk]
   by_cases e2 : k = i
   ·rw [if_pos e2, if_pos e2.symm]
   ·rw [if_neg e2, if_neg (by omega), if_neg e2]
  ·rw [if_neg e] at h
   rw [if_neg e]
   simp only [rlk]
   by_cases e2 : k = i
   ·rw [if_pos e2, if_neg (by omega), if_pos e2]
   ·rw [if_neg e2, if_neg e2, iJ id r t r0 h i]
def rQ (z : Array Value) : Bool := z.toList.all (·.oneCell')
theorem lS (z : Array Value) : rQ z = z.all (·.oneCell') := Array.all_toList
def uW (S : HS) : Option HV → HOut
 | some h => .go True h S
 | none => .bad
def qC8 (S : HS) : Option HV → Option HV → Option HV → HOut
 | some (.v (.bool t)), some a, some b => .go True (bif t then a else b) S
 | _, _, _ => .bad
def kZ (S : HS) (i : Nat) : Option HV → HOut
 | some (.tup hs) => match hs[i]? with
  | some h => .go True h S
  | none => .bad
 | _ => .bad
def rT (S : HS) (fp : Option (Nat × Option Nat)) : Option HV → HOut
 | some (.agg hs) => match fp with
  | some (off, none) => match hs[off]? with
   | some h => .go True h S
   | none => .bad
  | some (off, some n) => .go (bS (off + n ≤ hs.length)) (.agg ((hs.drop off).take n)) S
  | none => .bad
 | _ => .bad
def nX (S : HS) (len : Option Nat) : Option HV → Option HV → HOut
 | some (.agg hs), some (.v (.int _ n)) => match len with
  | some m => match hs[n.toNat]? with
   | some h => .go (bS (0 ≤ n ∧ n < m)) h S
   | none => .bad
  | none => .bad
 | _, _ => .bad
def rU (S : HS) (fo : Option Nat) : Option HV → HOut
 | some (.ptr id sz i k) => match fo with
  | some off => .go True (.ptr id sz i (k + off)) S
  | none => .bad
 | some (.elt fr xs sz i k) => match fo with
  | some off => .go True (.elt fr xs sz i (k + off)) S
  | none => .bad
 | _ => .bad
def qNg (S : HS) : Option HV → HOut
 | some (.ptr id sz i k) => .go True (.ptr id sz i k) S
 | some (.elt fr xs sz i k) => .go True (.elt fr xs sz i k) S
 | _ => .bad
def nY (S : HS) (id : Nat) (n : Int) : Option (Nat × Nat) → Option Row → HOut
 | some (_, sz), some (.sl _ _ s els) => .go (bS (sz = s ∧ 0 ≤ n ∧ n < els.length)) (.ptr id s n.toNat 0) S
 | some (_, sz), some (.hl _ _ s els) => .go (bS (sz = s ∧ 0 ≤ n ∧ n < els.length)) (.ptr id s n.toNat 0) S
 | _, _ => .bad
def rG (S : HS) (fr : Bool) (xs : List (List FV)) (n : Int) : Option (Nat × Nat) → HOut
 | some (_, sz) => .go (bS (0 ≤ n ∧ n < xs.length) ∧ Wid sz xs) (.elt fr xs sz n.toNat 0) S
 | none => .bad
def rF (S : HS) (id sz i k : Nat) (n : Int) : Option (Nat × Nat) → HOut
 | some (len, size) => .go (bS (0 ≤ n ∧ n < len)) (.ptr id sz i (k + n.toNat * size)) S
 | none => .bad
def rH (S : HS) (fr : Bool) (xs : List (List FV)) (sz i k : Nat) (n : Int) : Option (Nat × Nat) → HOut
 | some (len, size) => .go (bS (0 ≤ n ∧ n < len)) (.elt fr xs sz i (k + n.toNat * size)) S
 | none => .bad
def rE (S : HS) (id s off m : Nat) (n : Int) : Option (Nat × Nat) → Option Row → HOut
 | some (_, sz), some (.sl _ _ s' els) => .go (bS (sz = s ∧ s' = s ∧ 0 ≤ n ∧ n < m)) (.ptr id s (off + n.toNat) 0) S
 | _, _ => .bad
def lV (S : HS) (us ua : Option (Nat × Nat)) : Option HV → Option HV → HOut
 | some (.vw id s off m), some (.v (.int _ n)) => rE S id s off m n us (rlk S.st id)
 | some (.own id), some (.v (.int _ n)) => nY S id n us (rlk S.st id)
 | some (.lst fr xs), some (.v (.int _ n)) => rG S fr xs n us
 | some (.ptr id sz i k), some (.v (.int _ n)) => rF S id sz i k n ua
 | some (.elt fr xs sz i k), some (.v (.int _ n)) => rH S fr xs sz i k n ua
 | _, _ => .bad
def qC9 (S : HS) (c : Prop) : Option Row → HOut
 | some (.sl _ _ _ els) => .go c (.v (.int .i64 els.length)) S
 | some (.hl _ _ _ els) => .go c (.v (.int .i64 els.length)) S
 | _ => .bad
def qLk (S : HS) (c : Prop) : Option HV → HOut
 | some (.vw _ _ _ n) => .go c (.v (.int .i64 n)) S
 | some (.own id) => qC9 S c (rlk S.st id)
 | some (.lst _ xs) => .go c (.v (.int .i64 xs.length)) S
 | _ => .bad
def rC (S : HS) (fr : Bool) (xs : List (List FV)) : Option Int → Option Int → Option (Nat × Nat) → HOut
 | some a, some b, some (_, sz) => .go (bS (0 ≤ a ∧ a ≤ b ∧ b ≤ xs.length) ∧ Wid sz xs) (.lst fr ((xs.take b.toNat).drop a.toNat)) S
 | _, _, _ => .bad
def rB (S : HS) (id : Nat) : Option Int → Option Int → Option (Nat × Nat) → Option Row → HOut
 | some a, some b, some (_, sz), some (.sl _ _ s els) => .go (bS (sz = s ∧ 0 ≤ a ∧ a ≤ b ∧ b ≤ els.length)) (.vw id s a.toNat (b.toNat - a.toNat)) S
 | _, _, _, _ => .bad
def rA (S : HS) (id sz off : Nat) : Option Int → Option Int → Option (Nat × Nat) → Option Row → HOut
 | some a, some b, some (_, sz'), some (.sl _ _ s els) => .go (bS (sz' = sz ∧ s = sz ∧ 0 ≤ a ∧ a ≤ b ∧ off + b ≤ els.length)) (.vw id sz (off + a.toNat) (b.toNat - a.toNat)) S
 | _, _, _, _ => .bad
def zKq : Option Row → Nat
 | some (.sl _ _ _ els) => els.length
 | _ => 0
def qA (S : HS) (us : Option (Nat × Nat)) (lo' hi' : Option Operand) : Option HV → HOut
 | some (.own id) => rB S id (jU (lo S.env) lo' 0) (jU (lo S.env) hi' (zKq (rlk S.st id))) us (rlk S.st id)
 | some (.vw id sz off n) => rA S id sz off (jU (lo S.env) lo' 0) (jU (lo S.env) hi' n) us (rlk S.st id)
 | some (.lst fr xs) => rC S fr xs (jU (lo S.env) lo' 0) (jU (lo S.env) hi' xs.length) us
 | _ => .bad
def kY (S : HS) (sz i k : Nat) : Option (Option Nat) → Option Row → HOut
 | some none, some (.sl _ _ s els) => .go (bS (sz = s ∧ i < els.length ∧ k < (els.getD i []).length)) ((els.getD i []).getD k default).h S
 | some (some n), some (.sl _ _ s els) => .go (bS (sz = s ∧ i < els.length ∧ k + n ≤ (els.getD i []).length)) (.agg ((((els.getD i []).drop k).take n).map FV.h)) S
 | some none, some (.bx _ _ cells) => .go (bS (i = 0 ∧ k < cells.length)) (cells.getD k .junk) S
 | some (some n), some (.bx _ _ cells) => .go (bS (i = 0 ∧ k + n ≤ cells.length)) (.agg ((cells.drop k).take n)) S
 | some none, some (.hl _ _ s els) => .go (bS (sz = s ∧ i < els.length ∧ k < (els.getD i []).length)) ((els.getD i []).getD k .junk) S
 | some (some n), some (.hl _ _ s els) => .go (bS (sz = s ∧ i < els.length ∧ k + n ≤ (els.getD i []).length)) (.agg (((els.getD i []).drop k).take n)) S
 | _, _ => .bad
def rS (S : HS) (xs : List (List FV)) (i k : Nat) : Option (Option Nat) → HOut
 | some none => .go (bS (i < xs.length ∧ k < (xs.getD i []).length)) ((xs.getD i []).getD k default).h S
 | some (some n) => .go (bS (i < xs.length ∧ k + n ≤ (xs.getD i []).length)) (.agg ((((xs.getD i []).drop k).take n).map FV.h)) S
 | none => .bad
def rD (S : HS) (kt : Option (Option Nat)) : Option HV → HOut
 | some (.ptr id sz i k) => kY S sz i k kt (rlk S.st id)
 | some (.elt _ xs _ i k) => rS S xs i k kt
 | _ => .bad
def nU (S : HS) (id sz i k : Nat) (nw : Bool) (ty s : Nat) (els : List (List FV)) : Option (Option Nat) → HV → HOut
 | some none, h => match h.f with
  | some f => .go (bS (sz = s ∧ i < els.length ∧ k < (els.getD i []).length ∧ f.one = true)) (.v undef) ⟨S.env, iD id (.sl nw ty s (els.set i ((els.getD i []).set k f))) S.st⟩
  | none => .bad
 | some (some n), .agg hs => match HV.fs hs with
  | some fs => .go (bS (sz = s ∧ i < els.length ∧ fs.length = n ∧ k + n ≤ (els.getD i []).length)) (.v undef) ⟨S.env, iD id (.sl nw ty s (els.set i (splice (els.getD i []) k fs))) S.st⟩
  | none => .bad
 | _, _ => .bad
def nW (S : HS) (id i k : Nat) (nw : Bool) (ty : Nat) (cells : List HV) : Option (Option Nat) → HV → HOut
 | some none, h => .go (bS (i = 0 ∧ k < cells.length ∧ h.one = true)) (.v undef) ⟨S.env, iD id (.bx nw ty (cells.set k h)) S.st⟩
 | some (some n), .agg hs => .go (bS (i = 0 ∧ hs.length = n ∧ k + n ≤ cells.length)) (.v undef) ⟨S.env, iD id (.bx nw ty (splice cells k hs)) S.st⟩
 | _, _ => .bad
def nV (S : HS) (id sz i k : Nat) (nw : Bool) (ty s : Nat) (els : List (List HV)) : Option (Option Nat) → HV → HOut
 | some none, h => .go (bS (sz = s ∧ i < els.length ∧ k < (els.getD i []).length ∧ h.one = true)) (.v undef) ⟨S.env, iD id (.hl nw ty s (els.set i ((els.getD i []).set k h))) S.st⟩
 | some (some n), .agg hs => .go (bS (sz = s ∧ i < els.length ∧ hs.length = n ∧ k + n ≤ (els.getD i []).length)) (.v undef) ⟨S.env, iD id (.hl nw ty s (els.set i (splice (els.getD i []) k hs))) S.st⟩
 | _, _ => .bad
def mD (S : HS) (id sz i k : Nat) (kt : Option (Option Nat)) (h : HV) : Option Row → HOut
 | some (.sl nw ty s els) => nU S id sz i k nw ty s els kt h
 | some (.bx nw ty cells) => nW S id i k nw ty cells kt h
 | some (.hl nw ty s els) => nV S id sz i k nw ty s els kt h
 | none => .bad
def rR (S : HS) (kt : Option (Option Nat)) : Option HV → Option HV → HOut
 | some (.ptr id sz i k), some h => mD S id sz i k kt h (rlk S.st id)
 | _, _ => .bad
def nG (S : HS) (id : Nat) (t : TypeId) : Option (Array Value) → HOut
 | some z => .go (bS (rQ z = true)) (.ptr id z.size 0 0) ((S.kill (only id)).row id (.bx true t (z.toList.map .v)))
 | none => .bad
def qL4 (S : HS) (id : Nat) (t : TypeId) : Option (List HV) → HOut
 | some cs => .go True (.ptr id cs.length 0 0) ((S.kill (only id)).row id (.bx true t (cs.map (HV.kill (only id)))))
 | none => .bad
def qWp (S : HS) (id : Nat) (t : TypeId) : Option HV → HOut
 | some h => qL4 S id t (dP h)
 | none => .bad
def iK (l : aL) : List (Nat × Operand) → Option (List (Nat × HV))
 | [] => some []
 | (i, x) :: r => match hev l x with
  | some v => match iK l r with
   | some vs => some ((i, v) :: vs)
   | none => none
  | none => none
def cZ (P : Program) (t i : Nat) : Option (Nat × Nat) :=
 match P.underlying t with
 | some (.struct fs) => match fs[i]? with
  | some fl => (P.info? fl.type).map fun x => (fl.offset, x.size)
  | none => none
 | some (.array _ e) => (P.info? e).map fun x => (i * x.size, x.size)
 | _ => none
def cW (P : Program) (t : TypeId) : Bool :=
 match P.underlying t with
 | some (.struct fs) => fs.all fun f => (P.info? f.type).isSome
 | some (.array _ e) => (P.info? e).isSome
 | _ => false
def qC5 (aQ : Nat → Option (Nat × Nat)) : List HV → List (Nat × HV) → Option (Prop × List HV)
 | cells, [] => some (True, cells)
 | cells, (i, h) :: r => match aQ i with
  | some (off, n) => match dP h with
   | some cs => match qC5 aQ (splice cells off cs) r with
    | some (c, out) => some (bS (cs.length = n ∧ off + n ≤ cells.length) ∧ c, out)
    | none => none
   | none => none
  | none => none
def rK (S : HS) (ok : Bool) : Option (Prop × List HV) → HOut
 | some (c, cs) => .go (bS (ok = true) ∧ c) (.agg cs) S
 | none => .bad
def uK (S : HS) (ok : Bool) (aQ : Nat → Option (Nat × Nat)) : Option (Array Value) → Option (List (Nat × HV)) → HOut
 | some z, some ps => rK S (ok && rQ z) (qC5 aQ (z.toList.map .v) ps)
 | _, _ => .bad
def qS5 (sz : Nat) : List (List FV) → List (Nat × HV) → Option (Prop × List (List FV))
 | els, [] => some (True, els)
 | els, (i, h) :: r => match dP h with
  | some cs => match HV.fs cs with
   | some fs => match qS5 sz (els.set i fs) r with
    | some (c, out) => some (bS (fs.length = sz ∧ i < els.length) ∧ c, out)
    | none => none
   | none => none
  | none => none
def lB (S : HS) (id e sz n : Nat) : Option (Prop × List (List FV)) → HOut
 | some (c, els) => .go (bS (n * sz ≤ 16777216 ∧ n ≤ 16777216) ∧ c) (.own id) ((S.kill (only id)).row id (.sl true e sz els))
 | none => .bad
def qXo : List (Nat × HV) → Bool
 | [] => true
 | (_, h) :: r => match dP h with
  | some cs => (HV.fs cs).isSome && qXo r
  | none => qXo r
def qC3 (sz : Nat) : List (List HV) → List (Nat × HV) → Option (Prop × List (List HV))
 | els, [] => some (True, els)
 | els, (i, h) :: r => match dP h with
  | some cs => match qC3 sz (els.set i cs) r with
   | some (c, out) => some (bS (cs.length = sz ∧ i < els.length) ∧ c, out)
   | none => none
  | none => none
def hkl (id : Nat) (els : List (List HV)) : List (List HV) := els.map (List.map (HV.kill (only id)))
def lA (S : HS) (id e sz n : Nat) : Option (Prop × List (List HV)) → HOut
 | some (c, els) => .go (bS (n * sz ≤ 16777216 ∧ n ≤ 16777216) ∧ c) (.own id) ((S.kill (only id)).row id (.hl true e sz (hkl id els)))
 | none => .bad
def jL (S : HS) (id e sz n : Nat) (z : Array Value) (ps : List (Nat × HV)) : Bool → HOut
 | true => lB S id e sz n (qS5 sz (List.replicate n (z.toList.map .v)) ps)
 | false => lA S id e sz n (qC3 sz (List.replicate n (z.toList.map .v)) ps)
def jQ (S : HS) (id n : Nat) : Option (Nat × Nat × Nat × Array Value) → Option (List (Nat × HV)) → HOut
 | some (e, sz, _, z), some ps => match rQ z && z.size == sz with
  | true => jL S id e sz n z ps (qXo ps)
  | false => .bad
 | _, _ => .bad
def qFv (S : HS) (id : Nat) : Option (Nat × Nat × Nat × Array Value) → Option HV → Option HV → HOut
 | some (e, sz, by', z), some (.v (.int .i64 n)), some (.v (.int .i64 m)) => match rQ z && z.size == sz with
  | true => .go (bS (n = m ∧ 0 ≤ n ∧ by' * n.toNat ≤ 281474976710656 ∧ n.toNat ≤ maxLen)) (.own id) ((S.kill (only id)).row id (.sl true e sz (List.replicate n.toNat (z.toList.map .v))))
  | false => .bad
 | _, _, _ => .bad
def jV (st : aD) (sz : Nat) : HV → Option (Prop × List (List FV))
 | .own id => match rlk st id with
  | some (.sl _ _ s els) => some (bS (s = sz), els)
  | _ => none
 | .lst _ xs => some (Wid sz xs, xs)
 | .vw id s off n => match rlk st id with
  | some (.sl _ _ s' els) => some (bS (s = sz ∧ s' = sz), (els.drop off).take n)
  | _ => none
 | .v (.slice none 0 0) => some (True, [])
 | _ => none
def wR (S : HS) (id e sz by' : Nat) (nw : Bool) (els : List (List FV)) : Option (Prop × List (List FV)) → HOut
 | some (c, news) => .go (c ∧ bS ((els.length + news.length) * by' ≤ 140737488355328 ∧ 0 < by' ∧ 0 < sz)) (.own id) ((S.kill (only id)).row id (.sl nw e sz (els ++ news)))
 | none => .bad
def iY (s : ByteArray) : List (List FV) := s.data.toList.map fun b => [.v (.int .u8 b.toNat)]
def qUt : HV → Option (Prop × List (List FV))
 | .v (.string s) => some (True, iY s)
 | _ => none
def qPy (same str : Bool) (st : aD) (sz : Nat) (x : HV) : Option (Prop × List (List FV)) := match same with
 | true => jV st sz x
 | false => match str with
  | true => qUt x
  | false => none
def qXx (P : Program) (ats : Array TypeId) : Bool := match ats.toList with
 | [t, u] => (match P.underlying u with | some .string => true | _ => false) && (match P.underlying t with
  | some (.slice e) => (match P.info? e with
   | some i => i.size == 1 && i.bytes == 1 && (match i.zero with | some (.int .u8 0) => true | _ => false)
   | none => false)
  | _ => false)
 | _ => false
def qJs (st : aD) (sz : Nat) : HV → Option (Prop × List (List HV))
 | .own id => match rlk st id with
  | some (.sl _ _ s els) => some (bS (s = sz), els.map (List.map FV.h))
  | some (.hl _ _ s els) => some (bS (s = sz), els)
  | _ => none
 | .lst _ xs => some (Wid sz xs, xs.map (List.map FV.h))
 | .v (.slice none 0 0) => some (True, [])
 | _ => none
def qF5 (S : HS) (id e sz by' : Nat) (nw : Bool) (els : List (List HV)) : Option (Prop × List (List HV)) → HOut
 | some (c, news) => .go (c ∧ bS ((els.length + news.length) * by' ≤ 140737488355328 ∧ 0 < by' ∧ 0 < sz)) (.own id) ((S.kill (only id)).row id (.hl nw e sz (hkl id (els ++ news))))
 | none => .bad
def qDa (S : HS) (id e sz by' : Nat) (same : Bool) (x : HV) (news : Option (Prop × List (List FV))) : Option Row → HOut
 | some (.sl nw ty s els) => match decide (ty = e) && decide (s = sz) with
  | true => wR S id e sz by' nw els news
  | false => .bad
 | some (.hl nw ty s els) => match same && (decide (ty = e) && decide (s = sz)) with
  | true => qF5 S id e sz by' nw els (qJs S.st sz x)
  | false => .bad
 | _ => .bad
def iV (S : HS) (nid : Nat) (same str : Bool) : Option (Nat × Nat × Nat × Array Value) → Option (List HV) → HOut
 | some (e, sz, by', z), some [.own id, x] => match (same || str) && z.size == sz with
  | true => qDa S id e sz by' same x (qPy same str S.st sz x) (rlk S.st id)
  | false => .bad
 | some (e, sz, by', z), some [.v (.slice none 0 0), x] => match same && z.size == sz with
  | true => wR S nid e sz by' true [] (jV S.st sz x)
  | false => .bad
 | _, _ => .bad
def wQ (S : HS) (id sz off n : Nat) (ok : Prop) (nw : Bool) (ty : Nat) (els : List (List FV)) : Option (Prop × List (List FV)) → HOut
 | some (c, news) => .go (c ∧ bS (off + n ≤ els.length ∧ 0 < sz ∧ ok)) (.v (.int .i64 ((min news.length n : Nat) : Int))) ⟨S.env, iD id (.sl nw ty sz (splice els off (news.take n))) S.st⟩
 | none => .bad
def qB (S : HS) (id off : Nat) (s0 n : Option Nat) (x : HV) : Option (Nat × Nat) → Option Row → HOut
 | some (_, sz), some (.sl nw ty s els) => match decide (sz = s) with
  | true => wQ S id s off (n.getD els.length) (s0.getD s = s) nw ty els (jV S.st s x)
  | false => .bad
 | _, _ => .bad
def tD (S : HS) (same : Bool) (us : Option (Nat × Nat)) : Option (List HV) → HOut
 | some [.own id, x] => match same with
  | true => qB S id 0 none none x us (rlk S.st id)
  | false => .bad
 | some [.vw id s off n, x] => match same with
  | true => qB S id off (some s) (some n) x us (rlk S.st id)
  | false => .bad
 | _ => .bad
def sT : List HV → Option (List Value)
 | [] => some []
 | .v x :: r => match sT r with
  | some vs => some (x :: vs)
  | none => none
 | _ => none
def qS7 (t : TypeId) (neg : Bool) : Option (List Value) → Option (List Value) → HOut
 | some xs, some ys => .eqn t xs ys neg
 | _, _ => .bad
def hEq (S : HS) (up : Bool) (t : TypeId) (neg : Bool) : Option HV → Option HV → HOut
 | some (.agg xs), some (.agg ys) => qS7 t neg (sT xs) (sT ys)
 | some (.ptr _ _ _ _), some (.v (.pointer none)) => .go (bS (up = true)) (.v (.bool neg)) S
 | some (.elt _ _ _ _ _), some (.v (.pointer none)) => .go (bS (up = true)) (.v (.bool neg)) S
 | _, _ => .bad
def qK : List (List FV) → Option (List Int)
 | [] => some []
 | [.v (.int .u8 n)] :: r => match qK r with
  | some ns => some (n :: ns)
  | none => none
 | _ => none
def qBq (P : Program) (s d : TypeId) : Bool :=
 match P.underlying s with
 | some (.slice e) => match P.underlying e with
  | some (.int .u8) => vB P d
  | _ => false
 | _ => false
def qRx (P : Program) (s d : TypeId) : Bool :=
 (P.underlying s).isSome && (match P.underlying d with
 | some (.slice e) => (match P.underlying e with
  | some (.int .u8) => true
  | _ => false)
 | _ => false)
def qC (S : HS) (ok : Bool) : Option (List Int) → HOut
 | some ns => .go (bS (ok = true)) (.v (.string (strOfNums ns))) S
 | none => .bad
def qBg (S : HS) (ok : Bool) : Option Row → HOut
 | some (.sl _ _ _ els) => qC S ok (qK els)
 | _ => .bad
def rJ (S : HS) (ok okB : Bool) : Option HV → HOut
 | some (.v (.string s)) => .bytes okB s
 | some (.own id) => qBg S ok (rlk S.st id)
 | some (.lst _ xs) => qC S ok (qK xs)
 | _ => .bad
def qF0 (f : FuncId) : Option (List HV) → HOut
 | some hs => .call f hs
 | none => .bad
def fnH : Option HV → Option FuncId
 | some (.v u) => fnE (some u)
 | _ => none
def qBh : Option FuncId → Option (List HV) → HOut
 | some f, a => qF0 f a
 | none, _ => .bad
def dJ (ats : Array TypeId) : TypeId := ats.getD 0 0
def gD (P : Program) (S : HS) (id : Nat) : Op → HOut
 | .move x => uW S (hev S.env x)
 | .assign x => uW S (hev S.env x)
 | .pick c a b => qC8 S (hev S.env c) (hev S.env a) (hev S.env b)
 | .extract x i => kZ S i (hev S.env x)
 | .field t x f => rT S (wT P t f) (hev S.env x)
 | .index t x i => nX S (qM0 P t) (hev S.env x) (hev S.env i)
 | .fieldAddr t x f => rU S (iF P t f) (hev S.env x)
 | .nilCheck x => qNg S (hev S.env x)
 | .indexAddr t x i => lV S (cG P t) (qGt P t) (hev S.env x) (hev S.env i)
 | .slice t x l h none => qA S (cG P t) l h (hev S.env x)
 | .load t x => rD S (cE P t) (hev S.env x)
 | .store t x y => rR S (cE P t) (hev S.env x) (hev S.env y)
 | .alloc t => nG S id t (eG P t)
 | .box t x => qWp S id t (hev S.env x)
 | .build t ps => uK S (cW P t) (cZ P t) (eG P t) (iK S.env ps.toList)
 | .buildSlice t n ps => jQ S id n (mF P t) (iK S.env ps.toList)
 | .makeSlice t x y => qFv S id (mF P t) (hev S.env x) (hev S.env y)
 | .call ⟨.builtin .len, args, ats⟩ => match jK S.env args.toList with
  | some [h] => qLk S (bS ((cG P (dJ ats)).isSome = true ∧ ats.size = 1)) (some h)
  | _ => .bad
 | .call ⟨.builtin .append, args, ats⟩ => iV S id (ats == #[dJ ats, dJ ats]) (qXx P ats) (mF P (dJ ats)) (jK S.env args.toList)
 | .call ⟨.builtin .copy, args, ats⟩ => tD S (ats == #[dJ ats, dJ ats]) (cG P (dJ ats)) (jK S.env args.toList)
 | .call ⟨.value x, args, _⟩ => qBh (fnH (hev S.env x)) (jK S.env args.toList)
 | .binOp .eql t x y _ => hEq S (qGc P t) t false (hev S.env x) (hev S.env y)
 | .binOp .neq t x y _ => hEq S (qGc P t) t true (hev S.env x) (hev S.env y)
 | .convert s d x => rJ S (qBq P s d) (qRx P s d) (hev S.env x)
 | _ => .bad
def nM (S : HS) (id : Nat) (P : Program) (o : Op) : Option (Prop × Value) → HOut
 | some (c, v) => .go c (.v v) S
 | none => gD P S id o
def hop (P : Program) (S : HS) (id : Nat) (o : Op) : HOut := nM S id P o (aG P (lo S.env) o)
end Go.Eng
end

section
set_option linter.unusedSimpArgs false
set_option linter.unusedVariables false
namespace Go.Eng
open Go Go.RowKit

def low (l : aL) (look : Nat → Option Value) : Env := l.filterMap fun p => (look p.1).map fun v => (p.1, v)
section
variable {lw : Env} {P : Program} {c : Ctx} {S S' : HS} {look : Nat → Option Value} {w : World} {ρ : Nat → Value} {xs : Nat → List Value} {hv : HV} {cnd : Prop}
def Agr (env : aL) (look : Nat → Option Value) (lw : Env) : Prop := ∀ k h v, hlk env k = some h → look k = some v → lk lw k = some v
abbrev KVs (c : Ctx) (S' : HS) (hv : HV) (look : Nat → Option Value) (ρ : Nat → Value) (xs : Nat → List Value) (w0 : World) (v : Value) (w' : World) : Prop := w' = w0 ∧ Good c S' look w' ρ xs ∧ RepH w' (c.A ρ S'.st) c.n0 ρ v hv
abbrev KV (c : Ctx) (S' : HS) (hv : HV) (look : Nat → Option Value) (v : Value) (w' : World) : Prop := InvV c S' hv v look w'
theorem Good.ev (G : Good c S look w ρ xs) (hl : Agr S.env look lw) {x : Operand} {h : HV} (hx : hev S.env x = some h) : ∃ v, ev lw x = some v ∧ RepH w (c.A ρ S.st) c.n0 ρ v h := by
 cases x with
 | tmp t =>
  obtain ⟨v, h1, h2⟩ := G.env t h hx
  exact ⟨v, hl _ _ _ hx h1, h2⟩
 | const v => simp only [hev, Option.some.injEq] at hx; subst hx; exact ⟨v, rfl, .v v⟩
 | global g => simp only [hev, Option.some.injEq] at hx; subst hx; exact ⟨_, rfl, .v _⟩
 | func f => simp only [hev, Option.some.injEq] at hx; subst hx; exact ⟨_, rfl, .v _⟩
theorem Good.evs (G : Good c S look w ρ xs) (hl : Agr S.env look lw) : ∀ {l : List Operand} {hs : List HV}, jK S.env l = some hs → ∃ vs, evs lw l = some vs ∧ vs.length = hs.length ∧ ∀ i (h1 : i < vs.length) (h2 : i < hs.length), RepH w (c.A ρ S.st) c.n0 ρ vs[i] hs[i]
 | [], hs, h => by simp only [jK, Option.some.injEq] at h; subst h; exact ⟨[], rfl, rfl, fun i h1 => absurd h1 (by simp)⟩
 | x :: r, hs, h => by
  simp only [jK] at h
  split at h
  ·rename_i v hv
   split at h
   ·rename_i us hus
    simp only [Option.some.injEq] at h; subst h
    obtain ⟨u, h1, h2⟩ := G.ev hl hv
    obtain ⟨vs, h3, h4, h5⟩ := G.evs hl hus
    refine ⟨u :: vs, by simp only [Eng.evs, h1, h3], by simp [h4], fun i a b => ?_⟩
    cases i with
    | zero => exact h2
    | succ i => exact h5 i (by simpa using a) (by simpa using b)
   ·cases h
  ·cases h
theorem cC {A : Nat → Prop} {n0 : Nat} {v x : Value} (h : RepH w A n0 ρ v (.v x)) : v = x := by cases h; rfl
theorem cX (G : Good c S look w ρ xs) {id : Nat} {nw : Bool} {ty sz : Nat} {els : List (List FV)} (hr : rlk S.st id = some (.sl nw ty sz els)) :
  Own w 0 ty sz (ρ id) els.length (xs id) ∧ (∀ x ∈ els, x.length = sz) ∧ ∀ i k (hi : i < els.length) (hk : k < els[i].length), ∃ u, (xs id)[i * sz + k]? = some u ∧ u.oneCell' = true ∧ RepF w (c.A ρ S.st) c.n0 u els[i][k] :=
 ⟨(G.rows id _ hr).own, (G.rows id _ hr).rep.1, (G.rows id _ hr).rep.2⟩
theorem eJ {base n sz : Nat} {v : Value} {e : TypeId} {l : List Value} (h : Own w base e sz v n l) (hn : 0 < n) : ∃ g cap, v = .slice (some ⟨g, 0, none⟩) n cap ∧ n ≤ cap ∧ cap ≤ maxLen ∧ ∀ j u, l[j]? = some u → w.cell? ⟨g, j, none⟩ = some u := by
 have hl := h.1
 have hh := h
 rcases h.2 with ⟨rfl, rfl⟩ | ⟨g, cap, cur, rfl, hb, hg, hn', hm, hs, ht⟩
 ·omega
 ·refine ⟨g, cap, rfl, hn', hm, fun j u hj => ?_⟩
  have hlt : j < l.length := (List.getElem?_eq_some_iff.1 hj).1
  rw [World.ownsRow.cellAt hh j (by omega), hj]
theorem eP {α : Type} {l : List α} {i : Nat} {d : α} (h : i < l.length) : l.getD i d = l[i] := by simp [List.getD_eq_getElem?_getD, h]
theorem pA {i k sz n : Nat} (hi : i < n) (hk : k < sz) : i * sz + k < n * sz := by
 have : (i + 1) * sz ≤ n * sz := Nat.mul_le_mul_right _ hi
 rw [Nat.add_mul, Nat.one_mul] at this
 omega

theorem jP (G : Good c S look w ρ xs) {id : Nat} {nw : Bool} {ty sz : Nat} {els : List (List HV)} (hr : rlk S.st id = some (.hl nw ty sz els)) :
  Own w 0 ty sz (ρ id) els.length (xs id) ∧ (∀ x ∈ els, x.length = sz) ∧ ∀ i k (hi : i < els.length) (hk : k < els[i].length), ∃ u, (xs id)[i * sz + k]? = some u ∧ u.oneCell' = true ∧ RepH w (c.A ρ S.st) c.n0 ρ u els[i][k] :=
 ⟨(G.rows id _ hr).own, (G.rows id _ hr).rep.1, (G.rows id _ hr).rep.2⟩
theorem qA5 (G : Good c S look w ρ xs) (hl : Agr S.env look lw) {t : TypeId} {x : Operand} {ty : TypeId} (h : rD S (cE P t) (hev S.env x) = .go cnd hv S') (hc : cnd) :
  aW P lw (.load t x) ty w (KVs c S' hv look ρ xs w) (KVs c S' hv look ρ xs w) := by
 unfold aW
 simp only [aG, bY]
 unfold rD at h
 split at h
 ·rename_i id sz i k hx
  obtain ⟨v, e1, e2⟩ := G.ev hl hx
  cases e2 with
  | ptr _ _ _ hρ =>
  rename_i g n cp
  rw [e1]
  dsimp only
  unfold kY at h
  split at h
  ·rename_i nw ty' s els hk hr
   simp only [HOut.go.injEq] at h
   obtain ⟨rfl, rfl, rfl⟩ := h
   obtain ⟨rfl, hi, hkl⟩ := hc
   rw [hk]
   dsimp only
   obtain ⟨o1, o2, o3⟩ := cX G hr
   obtain ⟨g', cap, hg, -, -, hcell⟩ := eJ o1 (by omega)
   rw [hρ] at hg
   simp only [Value.slice.injEq, Option.some.injEq, Addr.mk.injEq] at hg
   obtain ⟨⟨rfl, -⟩, -, -⟩ := hg
   rw [eP hi] at hkl ⊢
   rw [eP hkl]
   obtain ⟨u, u1, u2, u3⟩ := o3 i k hi hkl
   rw [hcell _ _ u1]
   exact ⟨rfl, G, u3.h⟩
  ·rename_i m nw ty' s els hk hr
   simp only [HOut.go.injEq] at h
   obtain ⟨rfl, rfl, rfl⟩ := h
   obtain ⟨rfl, hi, hkl⟩ := hc
   rw [hk]
   dsimp only
   obtain ⟨o1, o2, o3⟩ := cX G hr
   obtain ⟨g', cap, hg, -, -, hcell⟩ := eJ o1 (by omega)
   rw [hρ] at hg
   simp only [Value.slice.injEq, Option.some.injEq, Addr.mk.injEq] at hg
   obtain ⟨⟨rfl, -⟩, -, -⟩ := hg
   rw [eP hi] at hkl ⊢
   have hsz := o2 _ (List.getElem_mem hi)
   have hx' : ∀ j, j < m → ∃ u, (xs id)[i * sz + (k + j)]? = some u ∧ u.oneCell' = true ∧ ∃ hk' : k + j < els[i].length, RepF w (c.A ρ S.st) c.n0 u els[i][k + j] := fun j hj => by
    obtain ⟨u, u1, u2, u3⟩ := o3 i (k + j) hi (by omega)
    exact ⟨u, u1, u2, by omega, u3⟩
   have hlen := o1.1
   have hfit : i * sz + (k + m) ≤ (xs id).length := by
    rw [hlen]
    have : (i + 1) * sz ≤ els.length * sz := Nat.mul_le_mul_right _ hi
    rw [Nat.add_mul, Nat.one_mul] at this
    omega
   refine ⟨(((xs id).drop (i * sz + k)).take m).toArray, ⟨by simp; omega, fun j v hj => ?_⟩, rfl, G, ?_⟩
   ·simp only [List.getElem?_toArray] at hj
    have hjm : j < m := by
     rcases Nat.lt_or_ge j m with h | h
     ·exact h
     ·rw [List.getElem?_take_eq_none h] at hj; cases hj
    rw [List.getElem?_take_of_lt hjm, List.getElem?_drop] at hj
    rw [Addr.add_lit]
    exact hcell _ _ hj
   ·refine .agg (by simp; omega) (fun j hj => ?_) (fun j h1 h2 => ?_)
    ·simp at hj
     obtain ⟨u, u1, u2, -⟩ := hx' j (by omega)
     have : (xs id)[i * sz + (k + j)]? = some ((xs id)[i * sz + (k + j)]'(by omega)) := List.getElem?_eq_getElem _
     rw [u1] at this
     simp only [List.getElem_toArray, List.getElem_take, List.getElem_drop]
     simp only [Nat.add_assoc]
     rw [← Option.some.inj this]; exact u2
    ·simp at h1
     obtain ⟨u, u1, -, hk', u3⟩ := hx' j (by omega)
     have : (xs id)[i * sz + (k + j)]? = some ((xs id)[i * sz + (k + j)]'(by omega)) := List.getElem?_eq_getElem _
     rw [u1] at this
     simp only [List.getElem_toArray, List.getElem_take, List.getElem_drop, List.getElem_map]
     simp only [Nat.add_assoc]
     rw [← Option.some.inj this]; exact u3.h
  ·rename_i nw ty' cells hk hr
   simp only [HOut.go.injEq] at h
   obtain ⟨rfl, rfl, rfl⟩ := h
   obtain ⟨rfl, hkl⟩ := hc
   rw [hk]
   dsimp only
   have R := G.rows id _ hr
   obtain ⟨⟨g', hg, -⟩, hcs⟩ := R.rep
   obtain ⟨g2, cap, hg2, -, -, hcell⟩ := eJ R.own (by simp [Row.len])
   rw [hg] at hρ hg2
   simp only [Value.slice.injEq, Option.some.injEq, Addr.mk.injEq] at hρ hg2
   obtain ⟨⟨rfl, -⟩, -, -⟩ := hρ
   obtain ⟨⟨rfl, -⟩, -, -⟩ := hg2
   obtain ⟨u, u1, u2, u3⟩ := hcs k hkl
   rw [eP hkl, Nat.zero_mul, Nat.zero_add]
   rw [hcell _ _ u1]
   exact ⟨rfl, G, u3⟩
  ·rename_i m nw ty' cells hk hr
   simp only [HOut.go.injEq] at h
   obtain ⟨rfl, rfl, rfl⟩ := h
   obtain ⟨rfl, hkl⟩ := hc
   rw [hk]
   dsimp only
   have R := G.rows id _ hr
   obtain ⟨⟨g', hg, -⟩, hcs⟩ := R.rep
   obtain ⟨g2, cap, hg2, -, -, hcell⟩ := eJ R.own (by simp [Row.len])
   rw [hg] at hρ hg2
   simp only [Value.slice.injEq, Option.some.injEq, Addr.mk.injEq] at hρ hg2
   obtain ⟨⟨rfl, -⟩, -, -⟩ := hρ
   obtain ⟨⟨rfl, -⟩, -, -⟩ := hg2
   have hlen := R.own.1
   simp only [Row.len, Row.sz, Nat.one_mul] at hlen
   rw [Nat.zero_mul, Nat.zero_add]
   refine ⟨(((xs id).drop k).take m).toArray, ⟨by simp; omega, fun j v hj => ?_⟩, rfl, G, ?_⟩
   ·simp only [List.getElem?_toArray] at hj
    have hjm : j < m := by
     rcases Nat.lt_or_ge j m with h | h
     ·exact h
     ·rw [List.getElem?_take_eq_none h] at hj; cases hj
    rw [List.getElem?_take_of_lt hjm, List.getElem?_drop] at hj
    rw [Addr.add_lit]
    exact hcell _ _ hj
   ·refine .agg (by simp; omega) (fun j hj => ?_) (fun j h1 h2 => ?_)
    ·simp at hj
     obtain ⟨u, u1, u2, -⟩ := hcs (k + j) (by omega)
     have : (xs id)[k + j]? = some ((xs id)[k + j]'(by omega)) := List.getElem?_eq_getElem _
     rw [u1] at this
     simp only [List.getElem_toArray, List.getElem_take, List.getElem_drop]
     rw [← Option.some.inj this]; exact u2
    ·simp at h1
     obtain ⟨u, u1, -, u3⟩ := hcs (k + j) (by omega)
     have : (xs id)[k + j]? = some ((xs id)[k + j]'(by omega)) := List.getElem?_eq_getElem _
     rw [u1] at this
     simp only [List.getElem_toArray, List.getElem_take, List.getElem_drop]
     rw [← Option.some.inj this]; exact u3
  ·rename_i nw ty' s els hk hr
   simp only [HOut.go.injEq] at h
   obtain ⟨rfl, rfl, rfl⟩ := h
   obtain ⟨rfl, hi, hkl⟩ := hc
   rw [hk]
   dsimp only
   obtain ⟨o1, o2, o3⟩ := jP G hr
   obtain ⟨g', cap, hg, -, -, hcell⟩ := eJ o1 (by omega)
   rw [hρ] at hg
   simp only [Value.slice.injEq, Option.some.injEq, Addr.mk.injEq] at hg
   obtain ⟨⟨rfl, -⟩, -, -⟩ := hg
   rw [eP hi] at hkl ⊢
   rw [eP hkl]
   obtain ⟨u, u1, u2, u3⟩ := o3 i k hi hkl
   rw [hcell _ _ u1]
   exact ⟨rfl, G, u3⟩
  ·rename_i m nw ty' s els hk hr
   simp only [HOut.go.injEq] at h
   obtain ⟨rfl, rfl, rfl⟩ := h
   obtain ⟨rfl, hi, hkl⟩ := hc
   rw [hk]
   dsimp only
   obtain ⟨o1, o2, o3⟩ := jP G hr
   obtain ⟨g', cap, hg, -, -, hcell⟩ := eJ o1 (by omega)
   rw [hρ] at hg
   simp only [Value.slice.injEq, Option.some.injEq, Addr.mk.injEq] at hg
   obtain ⟨⟨rfl, -⟩, -, -⟩ := hg
   rw [eP hi] at hkl ⊢
   have hsz := o2 _ (List.getElem_mem hi)
   have hx' : ∀ j, j < m → ∃ u, (xs id)[i * sz + (k + j)]? = some u ∧ u.oneCell' = true ∧ ∃ hk' : k + j < els[i].length, RepH w (c.A ρ S.st) c.n0 ρ u els[i][k + j] := fun j hj => by
    obtain ⟨u, u1, u2, u3⟩ := o3 i (k + j) hi (by omega)
    exact ⟨u, u1, u2, by omega, u3⟩
   have hlen := o1.1
   have hfit : i * sz + (k + m) ≤ (xs id).length := by
    rw [hlen]
    have : (i + 1) * sz ≤ els.length * sz := Nat.mul_le_mul_right _ hi
    rw [Nat.add_mul, Nat.one_mul] at this
    omega
   refine ⟨(((xs id).drop (i * sz + k)).take m).toArray, ⟨by simp; omega, fun j v hj => ?_⟩, rfl, G, ?_⟩
   ·simp only [List.getElem?_toArray] at hj
    have hjm : j < m := by
     rcases Nat.lt_or_ge j m with h | h
     ·exact h
     ·rw [List.getElem?_take_eq_none h] at hj; cases hj
    rw [List.getElem?_take_of_lt hjm, List.getElem?_drop] at hj
    rw [Addr.add_lit]
    exact hcell _ _ hj
   ·refine .agg (by simp; omega) (fun j hj => ?_) (fun j h1 h2 => ?_)
    ·simp at hj
     obtain ⟨u, u1, u2, -⟩ := hx' j (by omega)
     have : (xs id)[i * sz + (k + j)]? = some ((xs id)[i * sz + (k + j)]'(by omega)) := List.getElem?_eq_getElem _
     rw [u1] at this
     simp only [List.getElem_toArray, List.getElem_take, List.getElem_drop]
     simp only [Nat.add_assoc]
     rw [← Option.some.inj this]; exact u2
    ·simp at h1
     obtain ⟨u, u1, -, hk', u3⟩ := hx' j (by omega)
     have : (xs id)[i * sz + (k + j)]? = some ((xs id)[i * sz + (k + j)]'(by omega)) := List.getElem?_eq_getElem _
     rw [u1] at this
     simp only [List.getElem_toArray, List.getElem_take, List.getElem_drop]
     simp only [Nat.add_assoc]
     rw [← Option.some.inj this]; exact u3
  ·cases h
 ·rename_i fr l sz i k hx
  obtain ⟨v, e1, e2⟩ := G.ev hl hx
  cases e2 with
  | elt hF hsz hi =>
  rename_i b off n cap
  rw [e1]
  dsimp only
  have hF' := hF
  cases hF' with
  | lst s vals hn hcap hm hnil hs ha h1 hr =>
  obtain ⟨b', off', ea, -, -, -, hcell⟩ := ha (by omega)
  simp only [Option.some.injEq, Addr.mk.injEq] at ea
  obtain ⟨rfl, rfl, -⟩ := ea
  have hss : s = sz := by rw [← hs _ (List.getElem_mem hi), hsz _ (List.getElem_mem hi)]
  subst hss
  unfold rS at h
  split at h
  ·rename_i hk
   simp only [HOut.go.injEq] at h
   obtain ⟨rfl, rfl, rfl⟩ := h
   obtain ⟨hi', hkl⟩ := hc
   rw [hk]
   dsimp only
   rw [eP hi] at hkl ⊢
   rw [eP hkl]
   have hks : k < s := by rw [← hs _ (List.getElem_mem hi)]; exact hkl
   rw [hcell i k (by omega) hks]
   exact ⟨rfl, G, (hr i k hi hkl).h⟩
  ·rename_i m hk
   simp only [HOut.go.injEq] at h
   obtain ⟨rfl, rfl, rfl⟩ := h
   obtain ⟨hi', hkl⟩ := hc
   rw [hk]
   dsimp only
   rw [eP hi] at hkl ⊢
   have hks : k + m ≤ s := by rw [← hs _ (List.getElem_mem hi)]; exact hkl
   refine ⟨((List.range m).map fun j => vals i (k + j)).toArray, ⟨by simp, fun j v hj => ?_⟩, rfl, G, ?_⟩
   ·simp only [List.getElem?_toArray, List.getElem?_map] at hj
    have hjm : j < m := by
     rcases Nat.lt_or_ge j m with h | h
     ·exact h
     ·rw [List.getElem?_eq_none (by simpa using h)] at hj; cases hj
    rw [List.getElem?_range hjm] at hj
    simp only [Option.map_some, Option.some.injEq] at hj
    subst hj
    rw [Addr.add_lit, Nat.add_assoc, Nat.add_assoc]
    exact hcell i (k + j) (by omega) (by omega)
   ·refine .agg (by simp; omega) (fun j hj => ?_) (fun j h1' h2 => ?_)
    ·simp at hj
     simp only [List.getElem_toArray, List.getElem_map, List.getElem_range]
     exact h1 i (k + j) (by omega) (by omega)
    ·simp at h1'
     simp only [List.getElem_toArray, List.getElem_map, List.getElem_range, List.getElem_take, List.getElem_drop]
     exact (hr i (k + j) hi (by omega)).h
  ·cases h
 ·cases h
end
end Go.Eng
end

section
set_option linter.unusedSimpArgs false
set_option linter.unusedVariables false
namespace Go.Eng
open Go Go.RowKit
section
variable {KL : Value → World → Prop} {lw : Env} {P : Program} {c : Ctx} {S S' : HS} {look : Nat → Option Value} {w : World} {ρ : Nat → Value} {xs : Nat → List Value} {hv : HV} {cnd : Prop}
theorem tW (G : Good c S look w ρ xs) (hl : Agr S.env look lw) {x : Operand} {o : Op} (ho : o = .move x ∨ o = .assign x) {ty : TypeId} (h : uW S (hev S.env x) = .go cnd hv S') (hc : cnd) :
  aW P lw o ty w (KVs c S' hv look ρ xs w) KL := by
 unfold uW at h
 split at h
 ·rename_i y hx
  simp only [HOut.go.injEq] at h
  obtain ⟨rfl, rfl, rfl⟩ := h
  obtain ⟨v, e1, e2⟩ := G.ev hl hx
  unfold aW
  rcases ho with rfl | rfl <;> simp only [aG, e1] <;> exact ⟨trivial, rfl, G, e2⟩
 ·cases h
theorem qG1 (G : Good c S look w ρ xs) (hl : Agr S.env look lw) {x a b : Operand} {ty : TypeId} (h : qC8 S (hev S.env x) (hev S.env a) (hev S.env b) = .go cnd hv S') (hc : cnd) :
  aW P lw (.pick x a b) ty w (KVs c S' hv look ρ xs w) KL := by
 unfold qC8 at h
 split at h
 ·rename_i t y z hx ha hb
  simp only [HOut.go.injEq] at h
  obtain ⟨rfl, rfl, rfl⟩ := h
  obtain ⟨v, e1, e2⟩ := G.ev hl hx
  obtain ⟨u1, f1, f2⟩ := G.ev hl ha
  obtain ⟨u2, g1, g2⟩ := G.ev hl hb
  have := cC e2
  subst this
  unfold aW
  simp only [aG, e1, f1, g1]
  refine ⟨trivial, rfl, G, ?_⟩
  cases t <;> assumption
 ·cases h
theorem qAo (G : Good c S look w ρ xs) (hl : Agr S.env look lw) {x : Operand} {i : Nat} {ty : TypeId} (h : kZ S i (hev S.env x) = .go cnd hv S') (hc : cnd) :
  aW P lw (.extract x i) ty w (KVs c S' hv look ρ xs w) KL := by
 unfold kZ at h
 split at h
 ·rename_i hs hx
  split at h
  ·rename_i y hy
   simp only [HOut.go.injEq] at h
   obtain ⟨rfl, rfl, rfl⟩ := h
   obtain ⟨v, e1, e2⟩ := G.ev hl hx
   cases e2 with
   | tup hn hr =>
   rename_i cs
   obtain ⟨hi, rfl⟩ := List.getElem?_eq_some_iff.1 hy
   unfold aW
   simp only [aG, e1, Array.getElem?_eq_getElem (show i < cs.size by omega)]
   exact ⟨trivial, rfl, G, hr i (by omega) hi⟩
  ·cases h
 ·cases h
theorem qEw (G : Good c S look w ρ xs) (hl : Agr S.env look lw) {t f : Nat} {x : Operand} {ty : TypeId} (h : rT S (wT P t f) (hev S.env x) = .go cnd hv S') (hc : cnd) :
  aW P lw (.field t x f) ty w (KVs c S' hv look ρ xs w) KL := by
 unfold rT at h
 split at h
 ·rename_i hs hx
  obtain ⟨v, e1, e2⟩ := G.ev hl hx
  cases e2 with
  | agg hn h1 hr =>
  rename_i cs
  split at h
  ·rename_i off hp
   split at h
   ·rename_i y hy
    simp only [HOut.go.injEq] at h
    obtain ⟨rfl, rfl, rfl⟩ := h
    obtain ⟨hi, rfl⟩ := List.getElem?_eq_some_iff.1 hy
    unfold aW
    simp only [aG, e1, lQ, hp, Array.getElem?_eq_getElem (show off < cs.size by omega)]
    exact ⟨trivial, rfl, G, hr off (by omega) hi⟩
   ·cases h
  ·rename_i off n hp
   simp only [HOut.go.injEq] at h
   obtain ⟨rfl, rfl, rfl⟩ := h
   have hc' : off + n ≤ hs.length := hc
   unfold aW
   simp only [aG, e1, lQ, hp]
   refine ⟨trivial, rfl, G, .agg (by simp; omega) (fun j hj => ?_) (fun j a b => ?_)⟩
   ·rw [Array.getElem_extract]; exact h1 _ _
   ·rw [Array.getElem_extract, List.getElem_take, List.getElem_drop]; exact hr _ _ _
  ·cases h
 ·cases h
theorem qEu (G : Good c S look w ρ xs) (hl : Agr S.env look lw) {t : Nat} {x i : Operand} {ty : TypeId} (h : nX S (qM0 P t) (hev S.env x) (hev S.env i) = .go cnd hv S') (hc : cnd) :
  aW P lw (.index t x i) ty w (KVs c S' hv look ρ xs w) KL := by
 unfold nX at h
 split at h
 ·rename_i hs k n hx hi'
  obtain ⟨v, e1, e2⟩ := G.ev hl hx
  obtain ⟨u, f1, f2⟩ := G.ev hl hi'
  have := cC f2
  subst this
  cases e2 with
  | agg hn h1 hr =>
  rename_i cs
  split at h
  ·rename_i m hp
   split at h
   ·rename_i y hy
    simp only [HOut.go.injEq] at h
    obtain ⟨rfl, rfl, rfl⟩ := h
    obtain ⟨hi, rfl⟩ := List.getElem?_eq_some_iff.1 hy
    unfold aW
    simp only [aG, e1, f1, sB, qA9, hp, Array.getElem?_eq_getElem (show n.toNat < cs.size by omega)]
    exact ⟨hc, rfl, G, hr n.toNat (by omega) hi⟩
   ·cases h
  ·cases h
 ·cases h
theorem qEx (G : Good c S look w ρ xs) (hl : Agr S.env look lw) {t f : Nat} {x : Operand} {ty : TypeId} (h : rU S (iF P t f) (hev S.env x) = .go cnd hv S') (hc : cnd) :
  aW P lw (.fieldAddr t x f) ty w (KVs c S' hv look ρ xs w) KL := by
 unfold rU at h
 split at h
 ·rename_i id sz i k hx
  split at h
  ·rename_i off hp
   simp only [HOut.go.injEq] at h
   obtain ⟨rfl, rfl, rfl⟩ := h
   obtain ⟨v, e1, e2⟩ := G.ev hl hx
   cases e2 with
   | ptr _ _ _ hρ =>
   unfold aW
   simp only [aG, e1, hp, Addr.add_lit]
   refine ⟨trivial, rfl, G, ?_⟩
   rw [Nat.add_assoc]
   exact .ptr _ _ _ hρ
  ·cases h
 ·rename_i fr l sz i k hx
  split at h
  ·rename_i off hp
   simp only [HOut.go.injEq] at h
   obtain ⟨rfl, rfl, rfl⟩ := h
   obtain ⟨v, e1, e2⟩ := G.ev hl hx
   cases e2 with
   | elt hF hsz hi =>
   unfold aW
   simp only [aG, e1, hp, Addr.add_lit]
   refine ⟨trivial, rfl, G, ?_⟩
   rw [Nat.add_assoc, Nat.add_assoc]
   exact .elt hF hsz hi
  ·cases h
 ·cases h
theorem qNu (G : Good c S look w ρ xs) (hl : Agr S.env look lw) {x : Operand} {ty : TypeId} (h : qNg S (hev S.env x) = .go cnd hv S') (hc : cnd) :
  aW P lw (.nilCheck x) ty w (KVs c S' hv look ρ xs w) KL := by
 unfold qNg at h
 split at h
 ·rename_i id sz i k hx
  simp only [HOut.go.injEq] at h
  obtain ⟨rfl, rfl, rfl⟩ := h
  obtain ⟨v, e1, e2⟩ := G.ev hl hx
  cases e2 with
  | ptr _ _ _ hρ =>
  unfold aW
  simp only [aG, e1]
  exact ⟨trivial, rfl, G, .ptr _ _ _ hρ⟩
 ·rename_i fr l sz i k hx
  simp only [HOut.go.injEq] at h
  obtain ⟨rfl, rfl, rfl⟩ := h
  obtain ⟨v, e1, e2⟩ := G.ev hl hx
  cases e2 with
  | elt hF hsz hi =>
  unfold aW
  simp only [aG, e1]
  exact ⟨trivial, rfl, G, .elt hF hsz hi⟩
 ·cases h
theorem pF {base n sz : Nat} {v : Value} {e : TypeId} {l : List Value} (h : Own w base e sz v n l) : ∃ a cap, v = .slice a n cap := by
 rcases h.2 with ⟨rfl, rfl⟩ | ⟨g, cap, cur, rfl, _⟩
 ·exact ⟨_, _, rfl⟩
 ·exact ⟨_, _, rfl⟩
theorem qEv (G : Good c S look w ρ xs) (hl : Agr S.env look lw) {t : TypeId} {x i : Operand} {ty : TypeId} (h : lV S (cG P t) (qGt P t) (hev S.env x) (hev S.env i) = .go cnd hv S') (hc : cnd) :
  aW P lw (.indexAddr t x i) ty w (KVs c S' hv look ρ xs w) KL := by
 unfold lV at h
 split at h
 ·rename_i id s off m k n hx hi
  obtain ⟨v, e1, e2⟩ := G.ev hl hx
  obtain ⟨u, f1, f2⟩ := G.ev hl hi
  have := cC f2
  subst this
  unfold rE at h
  split at h
  ·rename_i e sz nw ty' s' els hu hr
   simp only [HOut.go.injEq] at h
   obtain ⟨rfl, rfl, rfl⟩ := h
   obtain ⟨rfl, rfl, h0, hn⟩ := hc
   cases e2 with
   | vw _ _ _ h hm hc hn' hx ha =>
   rename_i len c0 c' a a'
   obtain ⟨o1, o2, o3⟩ := cX G hr
   obtain ⟨g, cap, hg, hcap, -, -⟩ := eJ o1 (by
    obtain ⟨q, cp, e⟩ := pF o1
    rw [h] at e; cases e; omega)
   rw [h] at hg
   cases hg
   obtain ⟨g', hg', rfl⟩ := ha (by omega)
   cases hg'
   unfold aW
   simp only [aG, e1, f1, dE, hu]
   refine ⟨⟨h0, hn⟩, rfl, G, ?_⟩
   rw [Addr.add_lit, ← Nat.add_mul]
   exact .ptr _ _ 0 h
  ·cases h
 ·rename_i id k n hx hi
  obtain ⟨v, e1, e2⟩ := G.ev hl hx
  obtain ⟨u, f1, f2⟩ := G.ev hl hi
  have := cC f2
  subst this
  cases e2
  unfold nY at h
  split at h
  ·rename_i e sz nw ty' s els hu hr
   simp only [HOut.go.injEq] at h
   obtain ⟨rfl, rfl, rfl⟩ := h
   obtain ⟨rfl, h0, hn⟩ := hc
   obtain ⟨o1, o2, o3⟩ := cX G hr
   obtain ⟨g, cap, hg, -, -, -⟩ := eJ o1 (by omega)
   unfold aW
   simp only [aG, e1, f1, hg, dE, hu]
   refine ⟨⟨h0, hn⟩, rfl, G, ?_⟩
   rw [Addr.add_lit, Nat.zero_add]
   exact .ptr sz n.toNat 0 hg
  ·rename_i e sz nw ty' s els hu hr
   simp only [HOut.go.injEq] at h
   obtain ⟨rfl, rfl, rfl⟩ := h
   obtain ⟨rfl, h0, hn⟩ := hc
   obtain ⟨o1, o2, o3⟩ := jP G hr
   obtain ⟨g, cap, hg, -, -, -⟩ := eJ o1 (by omega)
   unfold aW
   simp only [aG, e1, f1, hg, dE, hu]
   refine ⟨⟨h0, hn⟩, rfl, G, ?_⟩
   rw [Addr.add_lit, Nat.zero_add]
   exact .ptr sz n.toNat 0 hg
  ·cases h
 ·rename_i fr l k n hx hi
  obtain ⟨v, e1, e2⟩ := G.ev hl hx
  obtain ⟨u, f1, f2⟩ := G.ev hl hi
  have := cC f2
  subst this
  cases e2 with
  | lst hF =>
  unfold rG at h
  split at h
  ·rename_i e sz hu
   simp only [HOut.go.injEq] at h
   obtain ⟨rfl, rfl, rfl⟩ := h
   obtain ⟨⟨h0, hn⟩, hw⟩ := hc
   have hF' := hF
   cases hF' with
   | lst s vals hnn hcap hm hnil hs ha h1 hr =>
   obtain ⟨b, off, rfl, -⟩ := ha (by omega)
   unfold aW
   simp only [aG, e1, f1, dE, hu]
   refine ⟨⟨h0, by omega⟩, rfl, G, ?_⟩
   rw [Addr.add_lit]
   exact .elt (k := 0) hF hw (by omega)
  ·cases h
 ·rename_i id sz i' k' k n hx hi
  obtain ⟨v, e1, e2⟩ := G.ev hl hx
  obtain ⟨u, f1, f2⟩ := G.ev hl hi
  have := cC f2
  subst this
  cases e2 with
  | ptr _ _ _ hρ =>
  unfold rF at h
  split at h
  ·rename_i len size hu
   simp only [HOut.go.injEq] at h
   obtain ⟨rfl, rfl, rfl⟩ := h
   obtain ⟨h0, hn⟩ := hc
   unfold aW
   simp only [aG, e1, f1, dE, hu]
   refine ⟨⟨h0, hn⟩, rfl, G, ?_⟩
   rw [Addr.add_lit, Nat.add_assoc]
   exact .ptr _ _ _ hρ
  ·cases h
 ·rename_i fr l sz i' k' k n hx hi
  obtain ⟨v, e1, e2⟩ := G.ev hl hx
  obtain ⟨u, f1, f2⟩ := G.ev hl hi
  have := cC f2
  subst this
  cases e2 with
  | elt hF hsz hii =>
  unfold rH at h
  split at h
  ·rename_i len size hu
   simp only [HOut.go.injEq] at h
   obtain ⟨rfl, rfl, rfl⟩ := h
   obtain ⟨h0, hn⟩ := hc
   unfold aW
   simp only [aG, e1, f1, dE, hu]
   refine ⟨⟨h0, hn⟩, rfl, G, ?_⟩
   rw [Addr.add_lit, Nat.add_assoc, Nat.add_assoc]
   exact .elt hF hsz hii
  ·cases h
 ·cases h
theorem cV {base n sz : Nat} {v : Value} {e : TypeId} {l : List Value} (h : Own w base e sz v n l) : ∃ a cap, v = .slice a n cap := by
 rcases h.2 with ⟨rfl, rfl⟩ | ⟨g, cap, cur, rfl, _⟩
 ·exact ⟨_, _, rfl⟩
 ·exact ⟨_, _, rfl⟩
theorem qNv (G : Good c S look w ρ xs) (hl : Agr S.env look lw) {args : Array Operand} {ats : Array TypeId} {y : HV} (hy : jK S.env args.toList = some [y]) {ty : TypeId} (h : qLk S (bS ((cG P (dJ ats)).isSome = true ∧ ats.size = 1)) (some y) = .go cnd hv S') (hc : cnd) :
  aW P lw (.call ⟨.builtin .len, args, ats⟩) ty w (KVs c S' hv look ρ xs w) KL := by
 obtain ⟨vs, e1, e2, e3⟩ := G.evs hl hy
 obtain ⟨v, rfl⟩ : ∃ v, vs = [v] := by
  match vs, e2 with
  | [v], _ => exact ⟨v, rfl⟩
 have e4 := e3 0 (by simp) (by simp)
 simp only [List.getElem_cons_zero] at e4
 unfold qLk at h
 split at h
 ·rename_i hx
  simp only [Option.some.injEq] at hx
  subst hx
  cases e4 with
  | vw _ _ _ a b d x e f =>
  simp only [HOut.go.injEq] at h
  obtain ⟨rfl, rfl, rfl⟩ := h
  unfold aW
  simp only [aG, e1, bE]
  exact ⟨hc, rfl, G, .v _⟩
 ·rename_i id hx
  simp only [Option.some.injEq] at hx
  subst hx
  cases e4
  unfold qC9 at h
  split at h
  ·rename_i nw ty' s els hr
   simp only [HOut.go.injEq] at h
   obtain ⟨rfl, rfl, rfl⟩ := h
   obtain ⟨o1, o2, o3⟩ := cX G hr
   obtain ⟨a, cap, hg⟩ := cV o1
   unfold aW
   simp only [aG, e1, hg, bE]
   exact ⟨hc, rfl, G, .v _⟩
  ·rename_i nw ty' s els hr
   simp only [HOut.go.injEq] at h
   obtain ⟨rfl, rfl, rfl⟩ := h
   obtain ⟨o1, o2, o3⟩ := jP G hr
   obtain ⟨a, cap, hg⟩ := cV o1
   unfold aW
   simp only [aG, e1, hg, bE]
   exact ⟨hc, rfl, G, .v _⟩
  ·cases h
 ·rename_i fr l hx
  simp only [Option.some.injEq] at hx
  subst hx
  cases e4 with
  | lst hF =>
  simp only [HOut.go.injEq] at h
  obtain ⟨rfl, rfl, rfl⟩ := h
  have hF' := hF
  cases hF' with
  | lst s vals hnn hcap hm hnil hs ha h1 hr =>
  unfold aW
  simp only [aG, e1, bE]
  subst hnn
  exact ⟨hc, rfl, G, .v _⟩
 ·cases h
theorem qJx (G : Good c S look w ρ xs) (hl : Agr S.env look lw) {x : Operand} {v : Value} (h : ev (lo S.env) x = some v) : ev lw x = some v := by
 cases x with
 | tmp t =>
  simp only [ev] at h ⊢
  rw [zAw] at h
  cases hk : hlk S.env t with
  | none => rw [hk] at h; cases h
  | some y =>
   rw [hk] at h
   cases y <;> simp only [qD6, reduceCtorEq, Option.some.injEq] at h
   subst h
   obtain ⟨u, h1, h2⟩ := G.env t _ hk
   have := cC h2
   subst this
   exact hl _ _ _ hk h1
 | const _ => exact h
 | global _ => exact h
 | func _ => exact h
theorem sR (G : Good c S look w ρ xs) (hl : Agr S.env look lw) {o : Option Operand} {d n : Int} (h : jU (lo S.env) o d = some n) : jU lw o d = some n := by
 unfold jU at *
 cases o with
 | none => exact h
 | some x =>
  dsimp only at *
  split at h
  ·rename_i k m hx
   rw [qJx G hl hx]
   exact h
  ·cases h
theorem qYd {A : Nat → Prop} {n0 : Nat} {a : Option Addr} {n cap p q sz : Nat} {fr : Bool} {l : List (List FV)} (h : RepF w A n0 (.slice a n cap) (.lst fr l)) (h1 : p ≤ q) (h2 : q ≤ l.length) (hw : Wid sz l) :
  RepF w A n0 (.slice (gJ a cap p sz) (q - p) (cap - p)) (.lst fr ((l.take q).drop p)) := by
 cases h with
 | lst s vals hn hcap hm hnil hs ha hone hr =>
 have hss : l ≠ [] → s = sz := fun hne => by
  obtain ⟨x, hx⟩ := List.exists_mem_of_ne_nil l hne
  rw [← hs x hx, hw x hx]
 refine .lst s (fun i k => vals (p + i) k) (by simp; omega) (by omega) (by omega) (fun he => ?_) (fun x hx => hs x (List.mem_of_mem_take (List.mem_of_mem_drop hx))) (fun hlt => ?_) (fun i k hi hk => hone _ _ (by omega) hk) (fun i k hi hk => ?_)
 ·unfold gJ at he
  split at he
  ·have := hnil he; omega
  ·cases a with
   | none => have := hnil rfl; omega
   | some a => cases he
 ·obtain ⟨b, off, rfl, hA, hb, hf, hc⟩ := ha (by omega)
  have hs' : s = sz := hss (fun e => by subst e; simp at h2; omega)
  subst hs'
  refine ⟨b, off + p * s, ?_, hA, hb, hf, fun i k hi hk => ?_⟩
  ·unfold gJ
   rw [if_neg (by omega)]
   simp [Addr.add_lit]
  ·have := hc (p + i) k (by omega) hk
   rw [← this]
   congr 2
   rw [Nat.add_mul]; omega
 ·simp only [List.getElem_drop, List.getElem_take] at hk ⊢
  exact hr (p + i) k _ hk
theorem qEt (G : Good c S look w ρ xs) (hl : Agr S.env look lw) {t : TypeId} {x : Operand} {l' h' : Option Operand} {ty : TypeId} (h : qA S (cG P t) l' h' (hev S.env x) = .go cnd hv S') (hc : cnd) :
  aW P lw (.slice t x l' h' none) ty w (KVs c S' hv look ρ xs w) KL := by
 unfold qA at h
 split at h
 ·rename_i id hx
  obtain ⟨v, e1, e2⟩ := G.ev hl hx
  cases e2
  unfold rB at h
  split at h
  ·rename_i a b e sz nw ty' s els ha hb hu hr
   simp only [HOut.go.injEq] at h
   obtain ⟨rfl, rfl, rfl⟩ := h
   obtain ⟨rfl, h0, h1, h2⟩ := hc
   obtain ⟨o1, o2, o3⟩ := cX G hr
   obtain ⟨q, cap, hg⟩ := pF o1
   rw [hr] at hb
   simp only [zKq] at hb
   have hcase : (q = none ∧ cap = 0 ∧ els.length = 0) ∨ (∃ g, q = some ⟨g, 0, none⟩ ∧ els.length ≤ cap ∧ cap ≤ maxLen) := by
    rcases o1.2 with ⟨h3, h4⟩ | ⟨g, cap', cur, h3, -, -, h4, h5, -⟩
    ·rw [hg] at h3; simp only [Value.slice.injEq] at h3; exact .inl ⟨h3.1, h3.2.2, h4⟩
    ·rw [hg] at h3; cases h3; exact .inr ⟨g, rfl, h4, h5⟩
   have hle : els.length ≤ cap := by rcases hcase with ⟨_, _, h⟩ | ⟨_, _, h, _⟩ <;> omega
   unfold aW
   simp only [aG, e1, hg, gT, sR G hl ha, sR G hl hb, hu]
   refine ⟨⟨h0, h1, by omega⟩, rfl, G, .vw _ _ _ hg (by omega) rfl (fun hn => ?_) ?_ (fun hlt => ?_)⟩
   ·rcases hcase with ⟨rfl, rfl, _⟩ | ⟨g, rfl, _, _⟩
    ·omega
    ·unfold gJ at hn; split at hn <;> cases hn
   ·rcases hcase with ⟨_, rfl, _⟩ | ⟨_, _, _, h⟩ <;> omega
   ·rcases hcase with ⟨_, rfl, _⟩ | ⟨g, rfl, _, _⟩
    ·omega
    ·refine ⟨g, rfl, ?_⟩
     unfold gJ
     rw [if_neg (by omega)]
     simp [Addr.add_lit]
  ·cases h
 ·rename_i id sz off n hx
  obtain ⟨v, e1, e2⟩ := G.ev hl hx
  unfold rA at h
  split at h
  ·rename_i a b e sz' nw ty' s els ha hb hu hr
   simp only [HOut.go.injEq] at h
   obtain ⟨rfl, rfl, rfl⟩ := h
   obtain ⟨rfl, rfl, h0, h1, h2⟩ := hc
   cases e2 with
   | vw _ _ _ hg hm hc' hn' hx' ha' =>
   rename_i len c0 c' q q'
   obtain ⟨o1, o2, o3⟩ := cX G hr
   obtain ⟨q2, cap2, hg2⟩ := pF o1
   rw [hg] at hg2
   cases hg2
   have hcap : els.length ≤ c0 := by
    rcases o1.2 with ⟨h3, h4⟩ | ⟨g, cap', cur, h3, -, -, h4, h5, -⟩
    ·omega
    ·rw [hg] at h3; cases h3; exact h4
   unfold aW
   simp only [aG, e1, gT, sR G hl ha, sR G hl hb, hu]
   refine ⟨⟨h0, h1, by omega⟩, rfl, G, .vw _ _ _ hg (by omega) (by omega) (fun hn => ?_) (by omega) (fun hlt => ?_)⟩
   ·unfold gJ at hn
    split at hn
    ·omega
    ·cases q' with
     | none => have := hn' rfl; omega
     | some y => cases hn
   ·obtain ⟨g, rfl, rfl⟩ := ha' (by omega)
    refine ⟨g, rfl, ?_⟩
    unfold gJ
    rw [if_neg (by omega)]
    simp [Addr.add_lit, Nat.add_mul]
  ·cases h
 ·rename_i fr l hx
  obtain ⟨v, e1, e2⟩ := G.ev hl hx
  cases e2 with
  | lst hF =>
  unfold rC at h
  split at h
  ·rename_i a b e sz ha hb hu
   simp only [HOut.go.injEq] at h
   obtain ⟨rfl, rfl, rfl⟩ := h
   obtain ⟨⟨h0, h1, h2⟩, hw⟩ := hc
   have hF' := hF
   cases hF' with
   | lst s vals hnn hcap hm hnil hs hA hone hr =>
   unfold aW
   subst hnn
   simp only [aG, e1, gT, sR G hl ha, sR G hl hb, hu]
   exact ⟨⟨h0, h1, by omega⟩, rfl, G, .lst (qYd hF (by omega) (by omega) hw)⟩
  ·cases h
 ·cases h
theorem qBs : ∀ {xs : List (List FV)} {ns : List Int}, qK xs = some ns → ns.length = xs.length ∧ ∀ i (h : i < xs.length), xs[i] = [.v (.int .u8 (ns.getD i 0))]
 | [], ns, h => by simp only [qK, Option.some.injEq] at h; subst h; exact ⟨rfl, fun i h => absurd h (by simp)⟩
 | x :: r, ns, h => by
  unfold qK at h
  split at h
  ·rename_i e; cases e
  ·rename_i n r' e
   simp only [List.cons.injEq] at e
   obtain ⟨rfl, rfl⟩ := e
   split at h
   ·rename_i ms hms
    simp only [Option.some.injEq] at h
    subst h
    obtain ⟨h1, h2⟩ := qBs hms
    refine ⟨by simp [h1], fun i hi => ?_⟩
    cases i with
    | zero => rfl
    | succ i => simpa using h2 i (by simpa using hi)
   ·cases h
  ·cases h
theorem qXg {a : Option Addr} {n cap : Nat} {ns : List Int} {s d : TypeId} (hok : qBq P s d = true) (hn : ns.length = n) (h : 0 < n → ∃ b off, a = some ⟨b, off, none⟩ ∧ ∀ i, i < n → w.cell? ⟨b, off + i, none⟩ = some (.int .u8 (ns.getD i 0))) :
  (convert s d (.slice a n cap)).run P w = .ok (.string (strOfNums ns)) w := by
 unfold qBq at hok
 split at hok
 ·rename_i e hs
  split at hok
  ·rename_i he
   have hd := oA hok
   by_cases h0 : 0 < n
   ·obtain ⟨b, off, rfl, hc⟩ := h h0
    exact run_convert_bytes_arg w s e hs he b off n cap ns hn hc d hd
   ·obtain rfl : n = 0 := by omega
    obtain rfl : ns = [] := List.eq_nil_of_length_eq_zero hn
    rw [run_convert_bytes_string w s d e a 0 cap hs he hd]
    cases a <;> simp [Conv.bytesToString, loadCells]
    all_goals rfl
  ·cases hok
 ·cases hok
theorem zCs (G : Good c S look w ρ xs) (hl : Agr S.env look lw) {ok okB : Bool} {x : Operand} (h : rJ S ok okB (hev S.env x) = .go cnd hv S') :
  ∃ a n cap ns, ev lw x = some (.slice a n cap) ∧ ns.length = n ∧ hv = .v (.string (strOfNums ns)) ∧ S' = S ∧ (cnd → ok = true) ∧ (0 < n → ∃ b off, a = some ⟨b, off, none⟩ ∧ ∀ i, i < n → w.cell? ⟨b, off + i, none⟩ = some (.int .u8 (ns.getD i 0))) := by
 unfold rJ at h
 split at h
 ·cases h
 ·rename_i id hx
  obtain ⟨v, e1, e2⟩ := G.ev hl hx
  cases e2
  unfold qBg at h
  split at h
  ·rename_i nw ty' sz els hr
   unfold qC at h
   split at h
   ·rename_i ns hns
    simp only [HOut.go.injEq] at h
    obtain ⟨rfl, rfl, rfl⟩ := h
    obtain ⟨o1, o2, o3⟩ := cX G hr
    obtain ⟨q, cap, hg⟩ := pF o1
    obtain ⟨n1, n2⟩ := qBs hns
    refine ⟨q, _, cap, ns, by rw [e1, hg], n1, rfl, rfl, fun h => h, fun h0 => ?_⟩
    obtain ⟨g, cap', hg', -, -, hcell⟩ := eJ o1 h0
    rw [hg] at hg'
    cases hg'
    refine ⟨g, 0, rfl, fun i hi => ?_⟩
    have e := n2 i hi
    have hsz : sz = 1 := by rw [← o2 _ (List.getElem_mem hi), e]; rfl
    subst hsz
    obtain ⟨u, u1, u2, u3⟩ := o3 i 0 hi (by rw [e]; simp)
    simp only [e, List.getElem_cons_zero] at u3
    cases u3
    rw [Nat.zero_add]
    exact hcell i _ (by simpa using u1)
   ·cases h
  ·cases h
 ·rename_i fr l hx
  obtain ⟨v, e1, e2⟩ := G.ev hl hx
  unfold qC at h
  split at h
  ·rename_i ns hns
   simp only [HOut.go.injEq] at h
   obtain ⟨rfl, rfl, rfl⟩ := h
   cases e2 with
   | lst hF =>
   cases hF with
   | lst sz vals hn hcap hm hnil hsz ha h1 hr =>
   obtain ⟨n1, n2⟩ := qBs hns
   refine ⟨_, _, _, ns, e1, n1.trans hn, rfl, rfl, fun h => h, fun h0 => ?_⟩
   obtain ⟨b, off, rfl, -, -, -, hcell⟩ := ha h0
   refine ⟨b, off, rfl, fun i hi => ?_⟩
   have hi' : i < l.length := by omega
   have e := n2 i hi'
   have hsz1 : sz = 1 := by rw [← hsz _ (List.getElem_mem hi'), e]; rfl
   subst hsz1
   have u3 := hr i 0 hi' (by rw [e]; simp)
   simp only [e, List.getElem_cons_zero] at u3
   have := hcell i 0 hi (by omega)
   rw [Nat.mul_one, Nat.add_zero] at this
   rw [this]
   generalize vals i 0 = z at u3
   cases u3
   rfl
  ·cases h
 ·cases h
theorem zJr (G : Good c S look w ρ xs) (hl : Agr S.env look lw) {ok okB b : Bool} {x : Operand} {s : ByteArray} (h : rJ S ok okB (hev S.env x) = .bytes b s) : ev lw x = some (.string s) ∧ b = okB := by
 unfold rJ at h
 split at h
 ·rename_i s' hx
  simp only [HOut.bytes.injEq] at h
  obtain ⟨rfl, rfl⟩ := h
  obtain ⟨v, e1, e2⟩ := G.ev hl hx
  have := cC e2
  subst this
  exact ⟨e1, rfl⟩
 ·unfold qBg at h
  split at h
  ·unfold qC at h; split at h <;> cases h
  ·cases h
 ·unfold qC at h; split at h <;> cases h
 ·cases h
theorem qEk {s d : TypeId} {x : Operand} {ty : TypeId} {a : Option Addr} {n cap : Nat} {bs : ByteArray} (e1 : ev lw x = some (.slice a n cap)) (h : (convert s d (.slice a n cap)).run P w = .ok (.string bs) w) :
  (∀ y ∈ (Op.convert s d x).operands, (ev lw y).isSome = true) ∧ (execOp (evD lw) (qNe (.convert s d x) ty)).run P w = .ok (.value (.string bs)) w := by
 refine ⟨fun y hy => ?_, by simp [execOp, qNe, evD, e1, h]⟩
 have : y = x := by simpa [Op.operands] using hy
 rw [this, e1]; rfl
theorem qX3 (G : Good c S look w ρ xs) (hl : Agr S.env look lw) {s d : TypeId} {x : Operand} {ty : TypeId} (h : rJ S (qBq P s d) (qRx P s d) (hev S.env x) = .go cnd hv S') (hc : cnd) :
  aW P lw (.convert s d x) ty w KL (KVs c S' hv look ρ xs w) := by
 obtain ⟨a, n, cap, ns, e1, e2, rfl, rfl, e3, e4⟩ := zCs G hl h
 obtain ⟨h1, h2⟩ := qEk (P := P) (ty := ty) e1 (qXg (e3 hc) e2 e4)
 unfold aW
 simp only [aG, e1, mJ, bY]
 exact ⟨h1, _, w, h2, rfl, G, .v _⟩
theorem qTy (G : Good c S look w ρ xs) (hl : Agr S.env look lw) {s d : TypeId} {x : Operand} (h : rJ S (qBq P s d) (qRx P s d) (hev S.env x) = .go cnd hv S') (hc : cnd) :
  vcQ P lw (.convert s d x) w (fun v => KVs c S hv look ρ xs w v w) (fun v => KVs c S hv look ρ xs w v w) := by
 obtain ⟨a, n, cap, ns, e1, e2, rfl, rfl, e3, e4⟩ := zCs G hl h
 have run : ∀ w', Below w.heap.size w w' → (convert s d (.slice a n cap)).run P w' = .ok (.string (strOfNums ns)) w' := fun w' hw => qXg (e3 hc) e2 fun h0 => by
  obtain ⟨b, off, e5, e6⟩ := e4 h0
  exact ⟨b, off, e5, fun i hi => mB hw (e6 i hi)⟩
 unfold vcQ
 simp only [aG, e1, mJ, qDl]
 exact ⟨(qEk (P := P) (ty := 0) e1 (run w (Below.refl _ _))).1, _, fun w' hw => (qEk (P := P) (ty := 0) e1 (run w' hw)).2, rfl, G, .v _⟩
theorem xR (G : Good c S look w ρ xs) (hl : Agr S.env look lw) {t t' : TypeId} {neg : Bool} {x y : Operand} {ty : TypeId} (h : hEq S (qGc P t) t neg (hev S.env x) (hev S.env y) = .go cnd hv S') (hc : cnd) :
  aW P lw (.binOp (if neg then .neq else .eql) t x y t') ty w (KVs c S' hv look ρ xs w) KL := by
 unfold hEq at h
 split at h
 ·unfold qS7 at h; split at h <;> cases h
 ·rename_i id sz i k hx hy
  simp only [HOut.go.injEq] at h
  obtain ⟨rfl, rfl, rfl⟩ := h
  obtain ⟨v, e1, e2⟩ := G.ev hl hx
  obtain ⟨u, f1, f2⟩ := G.ev hl hy
  have := cC f2
  subst this
  cases e2 with
  | ptr _ _ _ hρ =>
  unfold aW
  cases neg <;> simp only [Bool.false_eq_true, if_false, if_true, aG, e1, f1, fG]
  all_goals exact ⟨hc, rfl, G, .v _⟩
 ·rename_i fr l sz i k hx hy
  simp only [HOut.go.injEq] at h
  obtain ⟨rfl, rfl, rfl⟩ := h
  obtain ⟨v, e1, e2⟩ := G.ev hl hx
  obtain ⟨u, f1, f2⟩ := G.ev hl hy
  have := cC f2
  subst this
  cases e2 with
  | elt hF hsz hi =>
  unfold aW
  cases neg <;> simp only [Bool.false_eq_true, if_false, if_true, aG, e1, f1, fG]
  all_goals exact ⟨hc, rfl, G, .v _⟩
 ·cases h
end
end Go.Eng
end

section
set_option linter.unusedSimpArgs false
set_option linter.unusedVariables false
namespace Go.Eng
open Go Go.RowKit
section
variable {lw : Env} {P : Program} {c : Ctx} {S S' : HS} {look : Nat → Option Value} {w : World} {ρ : Nat → Value} {xs : Nat → List Value} {hv : HV} {cnd : Prop}
theorem lL {w : World} {b : Nat} {cs : Array Value} {t ty : TypeId} {vs : Array Value} {i : Nat} (h : Blk w b cs t) (hk : cE P ty = some (some vs.size)) (hv : ∀ v ∈ vs.toList, v.oneCell' = true) (hs : i + vs.size ≤ cs.size) :
  ∃ w', (storeVar ty ⟨b, i, none⟩ (.agg vs)).run P w = .ok () w' ∧ Blk w' b (splice cs.toList i vs.toList).toArray t ∧ Only b w w' := by
 refine ⟨w.setRow b (splice cs.toList i vs.toList).toArray, ?_, iP h _, eR w b _⟩
 have := run_storeCells_at P b i t vs.toList 0 cs w h (by simpa using hs) hv
 simp only [Nat.add_zero] at this
 simp [storeVar, Sem.run_bind, qJ3 hk, Value.cells, this, splice]
theorem qWv {w : World} {A : Nat → Prop} {n0 : Nat} {u : Value} {f : FV} (h : RepF w A n0 u f) (h1 : f.one = true) : u.oneCell' = true := by
 cases h with
 | v => exact h1
 | lst => rfl
theorem qC2 {w : World} {A : Nat → Prop} {n0 : Nat} {u : Value} {f : HV} (h : RepH w A n0 ρ u f) (h1 : f.one = true) : u.oneCell' = true := by
 cases h with
 | v => exact h1
 | lst hF => cases hF; rfl
 | own id h => exact h
 | vw => rfl
 | ptr => rfl
 | elt => rfl
 | agg => cases h1
 | tup => cases h1
 | junk => cases h1
theorem qW1 {w : World} {A : Nat → Prop} {n0 : Nat} {u : Value} {h : HV} {f : FV} (hr : RepH w A n0 ρ u h) (hf : h.f = some f) : RepF w A n0 u f := by
 cases hr with
 | v => simp only [HV.f, Option.some.injEq] at hf; subst hf; exact .v _
 | lst hF => simp only [HV.f, Option.some.injEq] at hf; subst hf; exact hF
 | _ => cases hf
theorem qTb : ∀ {hs : List HV} {fs : List FV}, HV.fs hs = some fs → fs.length = hs.length ∧ ∀ i (h1 : i < hs.length) (h2 : i < fs.length), (hs[i]).f = some fs[i]
 | [], fs, h => by simp only [HV.fs, Option.some.injEq] at h; subst h; exact ⟨rfl, fun i h1 => absurd h1 (by simp)⟩
 | x :: r, fs, h => by
  simp only [HV.fs] at h
  split at h
  ·rename_i f gs hf hg
   simp only [Option.some.injEq] at h
   subst h
   obtain ⟨h1, h2⟩ := qTb hg
   refine ⟨by simp [h1], fun i a b => ?_⟩
   cases i with
   | zero => exact hf
   | succ i => exact h2 i (by simpa using a) (by simpa using b)
  ·cases h
theorem cY {α : Type} (l : List α) (k : Nat) (cs : List α) (h : k + cs.length ≤ l.length) (j : Nat) : (splice l k cs)[j]? = if k ≤ j ∧ j < k + cs.length then cs[j - k]? else l[j]? := by
 unfold splice
 by_cases h1 : j < k
 ·rw [if_neg (by omega), List.append_assoc, List.getElem?_append_left (by simp; omega), List.getElem?_take_of_lt h1]
 ·by_cases h2 : j < k + cs.length
  ·rw [if_pos (by omega), List.append_assoc, List.getElem?_append_right (by simp; omega), List.getElem?_append_left (by simp; omega)]
   congr 1; simp; omega
  ·rw [if_neg (by omega), List.getElem?_append_right (by simp; omega), List.getElem?_drop]
   congr 1; simp; omega
theorem cH {α : Type} (l : List α) (k : Nat) (cs : List α) (h : k + cs.length ≤ l.length) : (splice l k cs).length = l.length := by simp [splice]; omega
theorem uB {base e sz n g cap : Nat} {l : List Value} (h : Own w base e sz (.slice (some ⟨g, 0, none⟩) n cap) n l) : ∃ cur, Blk w g cur e ∧ n ≤ cap ∧ cap ≤ maxLen ∧ cur.size = cap * sz ∧ cur.toList.take (n * sz) = l := by
 rcases h.2 with ⟨hv, _⟩ | ⟨g', cap', cur, hv, hb, hg, hn, hm, hs, ht⟩
 ·cases hv
 ·cases hv; exact ⟨cur, hg, hn, hm, hs, ht⟩
theorem tZ {e sz n g cap p : Nat} {l : List Value} {w' : World} {vs : List Value} {cur : Array Value} (h : Own w 0 e sz (.slice (some ⟨g, 0, none⟩) n cap) n l) (hcur : Blk w g cur e) (hb : Blk w' g (splice cur.toList p vs).toArray e) (hp : p + vs.length ≤ l.length) :
  Own w' 0 e sz (.slice (some ⟨g, 0, none⟩) n cap) n (splice l p vs) := by
 obtain ⟨cur', hc', hn, hm, hs, ht⟩ := uB h
 have : cur' = cur := by
  have h1 : w.heap[g]? = _ := hc'
  have h2 : w.heap[g]? = _ := hcur
  rw [h1] at h2
  simp only [Option.some.injEq, Obj.cells.injEq] at h2
  exact h2.1
 subst this
 have hl := h.1
 have hle : l.length ≤ cur'.toList.length := by rw [← ht, List.length_take]; omega
 refine ⟨by rw [cH _ _ _ hp, hl], .inr ⟨g, cap, _, rfl, Nat.zero_le _, hb, hn, hm, ?_, ?_⟩⟩
 ·simp only [List.size_toArray]
  rw [cH _ _ _ (by omega), Array.length_toList, hs]
 ·simp only [List.toList_toArray]
  apply List.ext_getElem?
  intro j
  rw [cY _ _ _ hp]
  by_cases hj : j < n * sz
  ·rw [List.getElem?_take_of_lt hj, cY _ _ _ (by omega)]
   split
   ·rfl
   ·rw [← ht, List.getElem?_take_of_lt hj]
  ·rw [List.getElem?_take_eq_none (by omega)]
   split
   ·omega
   ·rw [List.getElem?_eq_none (by omega)]
theorem qX {b : Nat} {w w' : World} (h : Only b w w') {id : Nat} (hid : (ρ id).ownBlock = some b) : ∀ k, (ρ id).ownBlock ≠ some k → w'.heap[k]? = w.heap[k]? :=
 fun k hk => h.block k fun e => hk (by rw [hid, e])
theorem fS {α : Type} (l : List α) (k : Nat) (x : α) (h : k < l.length) : l.set k x = splice l k [x] := by
 apply List.ext_getElem?
 intro j
 rw [cY _ _ _ (by simp only [List.length_singleton]; omega), List.getElem?_set]
 by_cases e : k = j
 ·subst e; simp [h]
 ·rw [if_neg e]
  rw [if_neg (by simp; omega)]
theorem jX {α : Type} (l : List α) (k : Nat) (cs : List α) (h : k + cs.length ≤ l.length) (j : Nat) (hj : j < (splice l k cs).length) :
  (∃ h1 : j - k < cs.length, k ≤ j ∧ (splice l k cs)[j] = cs[j - k]) ∨ (∃ h2 : j < l.length, ¬ (k ≤ j ∧ j < k + cs.length) ∧ (splice l k cs)[j] = l[j]) := by
 have hg := cY l k cs h j
 rw [List.getElem?_eq_getElem hj] at hg
 split at hg
 ·rename_i hh
  rw [List.getElem?_eq_getElem (by omega)] at hg
  exact .inl ⟨by omega, hh.1, Option.some.inj hg⟩
 ·rename_i hh
  have hl := cH l k cs h
  rw [List.getElem?_eq_getElem (by omega)] at hg
  exact .inr ⟨by omega, hh, Option.some.inj hg⟩
theorem qSc (G : Good c S look w ρ xs) {id : Nat} {nw : Bool} {t sz : Nat} {els : List (List FV)} (hr : rlk S.st id = some (.sl nw t sz els)) {i k : Nat} (hi : i < els.length) {fs : List FV} {vs : List Value} (hn : vs.length = fs.length) (hk : k + fs.length ≤ els[i].length)
  (h1 : ∀ v ∈ vs, v.oneCell' = true) (uJ : ∀ j (a : j < vs.length) (b : j < fs.length), RepF w (c.A ρ S.st) c.n0 vs[j] fs[j]) {g n cap : Nat} (hg : ρ id = .slice (some ⟨g, 0, none⟩) n cap) {w' : World} (hO : Only g w w')
  (hB : ∀ cur, Blk w g cur t → Blk w' g (splice cur.toList (i * sz + k) vs).toArray t) :
  Good c ⟨S.env, iD id (.sl nw t sz (els.set i (splice els[i] k fs))) S.st⟩ look w' ρ (fun j => if j = id then splice (xs id) (i * sz + k) vs else xs j) := by
 obtain ⟨o1, o2, o3⟩ := cX G hr
 have hsz := o2 _ (List.getElem_mem hi)
 have hlen := o1.1
 have hnl : n = els.length := by
  obtain ⟨a, cp, e⟩ := cV o1
  rw [hg] at e; cases e; rfl
 subst hnl
 have hfit : i * sz + k + vs.length ≤ (xs id).length := by
  rw [hlen]
  have : (i + 1) * sz ≤ els.length * sz := Nat.mul_le_mul_right _ hi
  rw [Nat.add_mul, Nat.one_mul] at this
  omega
 refine G.upd id _ (.sl nw t sz (els.set i (splice els[i] k fs))) _ hO.size.symm hO.os hO.tape hO.output hr rfl (qX hO (by rw [hg]; rfl)) _ (iJ id _ _ _ hr) fun _ tr => ?_
 refine ⟨?_, ⟨fun x hx => ?_, fun p q hp hq => ?_⟩, (G.rows id _ hr).new⟩
 ·simp only [Row.ty, Row.sz, Row.len, List.length_set]
  rw [hg] at o1 ⊢
  obtain ⟨cur, hcur, -⟩ := uB o1
  exact tZ o1 hcur (hB cur hcur) hfit
 ·rcases List.mem_or_eq_of_mem_set hx with h | rfl
  ·exact o2 x h
  ·rw [cH _ _ _ hk, hsz]
 ·simp only [List.length_set] at hp
  rw [cY _ _ _ hfit]
  by_cases e : i = p
  ·subst e
   simp only [List.getElem_set_self] at hq ⊢
   have hq' := hq
   rw [cH _ _ _ hk] at hq'
   rcases jX els[i] k fs hk q hq with ⟨a1, a2, a3⟩ | ⟨a1, a2, a3⟩
   ·rw [a3, if_pos (by omega)]
    rw [show i * sz + q - (i * sz + k) = q - k by omega, List.getElem?_eq_getElem (by omega)]
    exact ⟨_, rfl, h1 _ (List.getElem_mem _), tr _ _ (uJ (q - k) (by omega) a1)⟩
   ·rw [a3, if_neg (by omega)]
    obtain ⟨u, u1, u2, u3⟩ := o3 i q hi a1
    exact ⟨u, u1, u2, tr _ _ u3⟩
  ·simp only [List.getElem_set_ne e] at hq ⊢
   have hqs := o2 _ (List.getElem_mem hp)
   rw [if_neg ?_]
   ·obtain ⟨u, u1, u2, u3⟩ := o3 p q hp hq
    exact ⟨u, u1, u2, tr _ _ u3⟩
   ·rintro ⟨b1, b2⟩
    rcases Nat.lt_or_gt_of_ne e with h | h
    ·have : (i + 1) * sz ≤ p * sz := Nat.mul_le_mul_right _ h
     rw [Nat.add_mul, Nat.one_mul] at this
     omega
    ·have : (p + 1) * sz ≤ i * sz := Nat.mul_le_mul_right _ h
     rw [Nat.add_mul, Nat.one_mul] at this
     omega
theorem qSd (G : Good c S look w ρ xs) {id : Nat} {nw : Bool} {t sz : Nat} {els : List (List HV)} (hr : rlk S.st id = some (.hl nw t sz els)) {i k : Nat} (hi : i < els.length) {fs : List HV} {vs : List Value} (hn : vs.length = fs.length) (hk : k + fs.length ≤ els[i].length)
  (h1 : ∀ v ∈ vs, v.oneCell' = true) (uJ : ∀ j (a : j < vs.length) (b : j < fs.length), RepH w (c.A ρ S.st) c.n0 ρ vs[j] fs[j]) {g n cap : Nat} (hg : ρ id = .slice (some ⟨g, 0, none⟩) n cap) {w' : World} (hO : Only g w w')
  (hB : ∀ cur, Blk w g cur t → Blk w' g (splice cur.toList (i * sz + k) vs).toArray t) :
  Good c ⟨S.env, iD id (.hl nw t sz (els.set i (splice els[i] k fs))) S.st⟩ look w' ρ (fun j => if j = id then splice (xs id) (i * sz + k) vs else xs j) := by
 obtain ⟨o1, o2, o3⟩ := jP G hr
 have hsz := o2 _ (List.getElem_mem hi)
 have hlen := o1.1
 have hnl : n = els.length := by
  obtain ⟨a, cp, e⟩ := cV o1
  rw [hg] at e; cases e; rfl
 subst hnl
 have hfit : i * sz + k + vs.length ≤ (xs id).length := by
  rw [hlen]
  have : (i + 1) * sz ≤ els.length * sz := Nat.mul_le_mul_right _ hi
  rw [Nat.add_mul, Nat.one_mul] at this
  omega
 refine G.upd id _ (.hl nw t sz (els.set i (splice els[i] k fs))) _ hO.size.symm hO.os hO.tape hO.output hr rfl (qX hO (by rw [hg]; rfl)) _ (iJ id _ _ _ hr) fun tr _ => ?_
 refine ⟨?_, ⟨fun x hx => ?_, fun p q hp hq => ?_⟩, (G.rows id _ hr).new⟩
 ·simp only [Row.ty, Row.sz, Row.len, List.length_set]
  rw [hg] at o1 ⊢
  obtain ⟨cur, hcur, -⟩ := uB o1
  exact tZ o1 hcur (hB cur hcur) hfit
 ·rcases List.mem_or_eq_of_mem_set hx with h | rfl
  ·exact o2 x h
  ·rw [cH _ _ _ hk, hsz]
 ·simp only [List.length_set] at hp
  rw [cY _ _ _ hfit]
  by_cases e : i = p
  ·subst e
   simp only [List.getElem_set_self] at hq ⊢
   have hq' := hq
   rw [cH _ _ _ hk] at hq'
   rcases jX els[i] k fs hk q hq with ⟨a1, a2, a3⟩ | ⟨a1, a2, a3⟩
   ·rw [a3, if_pos (by omega)]
    rw [show i * sz + q - (i * sz + k) = q - k by omega, List.getElem?_eq_getElem (by omega)]
    exact ⟨_, rfl, h1 _ (List.getElem_mem _), tr _ _ (uJ (q - k) (by omega) a1)⟩
   ·rw [a3, if_neg (by omega)]
    obtain ⟨u, u1, u2, u3⟩ := o3 i q hi a1
    exact ⟨u, u1, u2, tr _ _ u3⟩
  ·simp only [List.getElem_set_ne e] at hq ⊢
   have hqs := o2 _ (List.getElem_mem hp)
   rw [if_neg ?_]
   ·obtain ⟨u, u1, u2, u3⟩ := o3 p q hp hq
    exact ⟨u, u1, u2, tr _ _ u3⟩
   ·rintro ⟨b1, b2⟩
    rcases Nat.lt_or_gt_of_ne e with h | h
    ·have : (i + 1) * sz ≤ p * sz := Nat.mul_le_mul_right _ h
     rw [Nat.add_mul, Nat.one_mul] at this
     omega
    ·have : (p + 1) * sz ≤ i * sz := Nat.mul_le_mul_right _ h
     rw [Nat.add_mul, Nat.one_mul] at this
     omega
theorem qSe (G : Good c S look w ρ xs) {id : Nat} {nw : Bool} {t : Nat} {cells : List HV} (hr : rlk S.st id = some (.bx nw t cells)) {k : Nat} {hs : List HV} {vs : List Value} (hn : vs.length = hs.length) (hk : k + hs.length ≤ cells.length)
  (h1 : ∀ v ∈ vs, v.oneCell' = true) (uJ : ∀ j (a : j < vs.length) (b : j < hs.length), RepH w (c.A ρ S.st) c.n0 ρ vs[j] hs[j]) {g n cap : Nat} (hg : ρ id = .slice (some ⟨g, 0, none⟩) n cap) {w' : World} (hO : Only g w w')
  (hB : ∀ cur, Blk w g cur t → Blk w' g (splice cur.toList k vs).toArray t) :
  Good c ⟨S.env, iD id (.bx nw t (splice cells k hs)) S.st⟩ look w' ρ (fun j => if j = id then splice (xs id) k vs else xs j) := by
 have R := G.rows id _ hr
 have o1 := R.own
 obtain ⟨r1, r2⟩ := R.rep
 simp only [Row.ty, Row.sz, Row.len] at o1
 have hlen := o1.1
 rw [Nat.one_mul] at hlen
 obtain ⟨g', hg', hT⟩ := r1
 rw [hg] at hg'
 cases hg'
 refine G.upd id _ (.bx nw t (splice cells k hs)) _ hO.size.symm hO.os hO.tape hO.output hr rfl (qX hO (by rw [hg]; rfl)) _ (iJ id _ _ _ hr) fun tr _ => ?_
 refine ⟨?_, ⟨⟨g, hg, hT⟩, fun q hq => ?_⟩, (G.rows id _ hr).new⟩
 ·simp only [Row.ty, Row.sz, Row.len]
  rw [hg] at o1 ⊢
  rw [cH _ _ _ hk]
  obtain ⟨cur, hcur, -⟩ := uB o1
  exact tZ o1 hcur (hB cur hcur) (by omega)
 ·have hq' := hq
  rw [cH _ _ _ hk] at hq'
  rw [cY _ _ _ (by omega)]
  rcases jX cells k hs hk q hq with ⟨a1, a2, a3⟩ | ⟨a1, a2, a3⟩
  ·rw [a3, if_pos (by omega), List.getElem?_eq_getElem (by omega)]
   exact ⟨_, rfl, h1 _ (List.getElem_mem _), tr _ _ (uJ (q - k) (by omega) a1)⟩
  ·rw [a3, if_neg (by omega)]
   obtain ⟨u, u1, u2, u3⟩ := r2 q a1
   exact ⟨u, u1, u2, tr _ _ u3⟩
theorem eU {b i ty : Nat} {v : Value} {cs : Array Value} {t : TypeId} (h : Blk w b cs t) (hk : cE P ty = some none) (hv : v.oneCell' = true) (hi : i < cs.size) :
  ∃ w', (storeVar ty ⟨b, i, none⟩ v).run P w = .ok () w' ∧ Blk w' b (splice cs.toList i [v]).toArray t ∧ Only b w w' := by
 obtain ⟨w', h1, h2, h3⟩ := zNh (P := P) (ty := ty) (i := i) (v := v) h hk hv hi
 refine ⟨w', h1, ?_, h3⟩
 rw [← fS _ _ _ (by simpa using hi)]
 have : (cs.toList.set i v).toArray = cs.setIfInBounds i v := by apply Array.toList_inj.1; simp
 rw [this]; exact h2
theorem gQ {b : Nat} {cs cs' : Array Value} {t t' : TypeId} (h : Blk w b cs t) (h' : Blk w b cs' t') : cs = cs' ∧ t = t' := by
 have h1 : w.heap[b]? = _ := h
 have h2 : w.heap[b]? = _ := h'
 rw [h1] at h2
 simp only [Option.some.injEq, Obj.cells.injEq] at h2
 exact ⟨h2.1, h2.2.1⟩
theorem uA {e sz n g cap : Nat} {l : List Value} (h : Own w 0 e sz (.slice (some ⟨g, 0, none⟩) n cap) n l) : ∃ cur, Blk w g cur e ∧ l.length ≤ cur.size := by
 obtain ⟨cur, h1, h2, h3, h4, h5⟩ := uB h
 refine ⟨cur, h1, ?_⟩
 rw [← h5, List.length_take, Array.length_toList]; omega
theorem qTx (G : Good c S look w ρ xs) (hl : Agr S.env look lw) {t : TypeId} {x y : Operand} {ty : TypeId} (h : rR S (cE P t) (hev S.env x) (hev S.env y) = .go cnd hv S') (hc : cnd) :
  aW P lw (.store t x y) ty w (KV c S' hv look) (KV c S' hv look) := by
 unfold aW
 simp only [aG, bY]
 unfold rR at h
 split at h
 ·rename_i id sz i k z hx hy
  obtain ⟨v, e1, e2⟩ := G.ev hl hx
  obtain ⟨u, f1, f2⟩ := G.ev hl hy
  cases e2 with
  | ptr _ _ _ hρ =>
  rename_i g n cp
  rw [e1, f1]
  dsimp only
  unfold mD at h
  split at h
  ·rename_i nw ty' s els hr
   obtain ⟨o1, o2, o3⟩ := cX G hr
   have hnl : n = els.length := by
    obtain ⟨a, cp', e⟩ := cV o1
    rw [hρ] at e; cases e; rfl
   subst hnl
   have o1' := o1
   rw [hρ] at o1'
   obtain ⟨cur, hcur, hle⟩ := uA o1'
   have hlen := o1.1
   unfold nU at h
   split at h
   ·rename_i hk
    split at h
    ·rename_i f hf
     simp only [HOut.go.injEq] at h
     obtain ⟨rfl, rfl, rfl⟩ := h
     obtain ⟨rfl, hi, hkl, h1⟩ := hc
     rw [eP hi] at hkl ⊢
     have hfr := qW1 f2 hf
     have hone := qWv hfr h1
     have hsz := o2 _ (List.getElem_mem hi)
     have hpos := pA (sz := sz) (k := k) hi (by omega)
     obtain ⟨w', r1, r2, r3⟩ := eU (P := P) (ty := t) (i := i * sz + k) (v := u) hcur hk hone (by omega)
     refine ⟨w', r1, ρ, (fun j => if j = id then splice (xs id) (i * sz + k) [u] else xs j), ?_, .v _⟩
     rw [fS _ _ _ hkl]
     refine qSc G hr hi (vs := [u]) (fs := [f]) rfl (by simp only [List.length_singleton]; omega) (by simpa using hone) (fun j a b => ?_) hρ r3 (fun cur' hc' => ?_)
     ·simp at a; subst a; exact hfr
     ·rw [(gQ hc' hcur).1]; exact r2
    ·cases h
   ·rename_i m hs hk
    split at h
    ·rename_i fs hf
     simp only [HOut.go.injEq] at h
     obtain ⟨rfl, rfl, rfl⟩ := h
     obtain ⟨rfl, hi, hm, hkl⟩ := hc
     rw [eP hi] at hkl ⊢
     cases f2 with
     | agg hn h1 hr' =>
     rename_i cs
     obtain ⟨fl1, fl2⟩ := qTb hf
     have hsz := o2 _ (List.getElem_mem hi)
     have hfit : i * sz + k + cs.size ≤ cur.size := by
      have : (i + 1) * sz ≤ els.length * sz := Nat.mul_le_mul_right _ hi
      rw [Nat.add_mul, Nat.one_mul] at this
      omega
     have hall : ∀ v ∈ cs.toList, v.oneCell' = true := fun v hv => by
      obtain ⟨j, hj, rfl⟩ := List.getElem_of_mem hv
      simpa using h1 j (by simpa using hj)
     obtain ⟨w', r1, r2, r3⟩ := lL (P := P) (ty := t) (i := i * sz + k) (vs := cs) hcur (by rw [hk]; congr 2; omega) hall hfit
     refine ⟨w', r1, ρ, (fun j => if j = id then splice (xs id) (i * sz + k) cs.toList else xs j), ?_, .v _⟩
     refine qSc G hr hi (vs := cs.toList) (fs := fs) (by simp; omega) (by omega) hall (fun j a b => ?_) hρ r3 (fun cur' hc' => ?_)
     ·simp at a
      simp only [Array.getElem_toList]
      exact qW1 (hr' j a (by omega)) (fl2 j (by omega) b)
     ·rw [(gQ hc' hcur).1]; exact r2
    ·cases h
   ·cases h
  ·rename_i nw ty' cells hr
   have R := G.rows id _ hr
   have o1 := R.own
   obtain ⟨⟨g', hg', -⟩, r2⟩ := R.rep
   rw [hρ] at hg'
   cases hg'
   simp only [Row.ty, Row.sz, Row.len] at o1
   have o1' := o1
   rw [hρ] at o1'
   obtain ⟨cur, hcur, hle⟩ := uA o1'
   have hlen := o1.1
   unfold nW at h
   split at h
   ·rename_i hk
    simp only [HOut.go.injEq] at h
    obtain ⟨rfl, rfl, rfl⟩ := h
    obtain ⟨rfl, hkl, h1⟩ := hc
    have hone := qC2 f2 h1
    obtain ⟨w', r1, r2', r3⟩ := eU (P := P) (ty := t) (i := 0 * sz + k) (v := u) hcur hk hone (by omega)
    refine ⟨w', r1, ρ, (fun j => if j = id then splice (xs id) k [u] else xs j), ?_, .v _⟩
    rw [fS _ _ _ hkl]
    refine qSe G hr (vs := [u]) rfl (by simp only [List.length_singleton]; omega) (by simpa using hone) (fun j a b => ?_) hρ r3 (fun cur' hc' => ?_)
    ·simp at a; subst a; exact f2
    ·rw [(gQ hc' hcur).1]
     have e : 0 * sz + k = k := by omega
     rw [e] at r2'; exact r2'
   ·rename_i m hs hk
    simp only [HOut.go.injEq] at h
    obtain ⟨rfl, rfl, rfl⟩ := h
    obtain ⟨rfl, hm, hkl⟩ := hc
    cases f2 with
    | agg hn h1 hr' =>
    rename_i cs
    have hall : ∀ v ∈ cs.toList, v.oneCell' = true := fun v hv => by
     obtain ⟨j, hj, rfl⟩ := List.getElem_of_mem hv
     simpa using h1 j (by simpa using hj)
    obtain ⟨w', r1, r2', r3⟩ := lL (P := P) (ty := t) (i := 0 * sz + k) (vs := cs) hcur (by rw [hk]; congr 2; omega) hall (by omega)
    refine ⟨w', r1, ρ, (fun j => if j = id then splice (xs id) k cs.toList else xs j), ?_, .v _⟩
    refine qSe G hr (vs := cs.toList) (by simp; omega) (by omega) hall (fun j a b => ?_) hρ r3 (fun cur' hc' => ?_)
    ·simp at a
     simp only [Array.getElem_toList]
     exact hr' j a (by omega)
    ·rw [(gQ hc' hcur).1]
     have e : 0 * sz + k = k := by omega
     rw [e] at r2'; exact r2'
   ·cases h
  ·rename_i nw ty' s els hr
   obtain ⟨o1, o2, o3⟩ := jP G hr
   have hnl : n = els.length := by
    obtain ⟨a, cp', e⟩ := cV o1
    rw [hρ] at e; cases e; rfl
   subst hnl
   have o1' := o1
   rw [hρ] at o1'
   obtain ⟨cur, hcur, hle⟩ := uA o1'
   have hlen := o1.1
   unfold nV at h
   split at h
   ·rename_i hk
    simp only [HOut.go.injEq] at h
    obtain ⟨rfl, rfl, rfl⟩ := h
    obtain ⟨rfl, hi, hkl, h1⟩ := hc
    rw [eP hi] at hkl ⊢
    have hone := qC2 f2 h1
    have hsz := o2 _ (List.getElem_mem hi)
    have hpos := pA (sz := sz) (k := k) hi (by omega)
    obtain ⟨w', r1, r2, r3⟩ := eU (P := P) (ty := t) (i := i * sz + k) (v := u) hcur hk hone (by omega)
    refine ⟨w', r1, ρ, (fun j => if j = id then splice (xs id) (i * sz + k) [u] else xs j), ?_, .v _⟩
    rw [fS _ _ _ hkl]
    refine qSd G hr hi (vs := [u]) rfl (by simp only [List.length_singleton]; omega) (by simpa using hone) (fun j a b => ?_) hρ r3 (fun cur' hc' => ?_)
    ·simp at a; subst a; exact f2
    ·rw [(gQ hc' hcur).1]; exact r2
   ·rename_i m hs hk
    simp only [HOut.go.injEq] at h
    obtain ⟨rfl, rfl, rfl⟩ := h
    obtain ⟨rfl, hi, hm, hkl⟩ := hc
    rw [eP hi] at hkl ⊢
    cases f2 with
    | agg hn h1 hr' =>
    rename_i cs
    have hsz := o2 _ (List.getElem_mem hi)
    have hfit : i * sz + k + cs.size ≤ cur.size := by
     have : (i + 1) * sz ≤ els.length * sz := Nat.mul_le_mul_right _ hi
     rw [Nat.add_mul, Nat.one_mul] at this
     omega
    have hall : ∀ v ∈ cs.toList, v.oneCell' = true := fun v hv => by
     obtain ⟨j, hj, rfl⟩ := List.getElem_of_mem hv
     simpa using h1 j (by simpa using hj)
    obtain ⟨w', r1, r2, r3⟩ := lL (P := P) (ty := t) (i := i * sz + k) (vs := cs) hcur (by rw [hk]; congr 2; omega) hall hfit
    refine ⟨w', r1, ρ, (fun j => if j = id then splice (xs id) (i * sz + k) cs.toList else xs j), ?_, .v _⟩
    refine qSd G hr hi (vs := cs.toList) (fs := hs) (by simp; omega) (by omega) hall (fun j a b => ?_) hρ r3 (fun cur' hc' => ?_)
    ·simp at a
     simp only [Array.getElem_toList]
     exact hr' j a (by omega)
    ·rw [(gQ hc' hcur).1]; exact r2
   ·cases h
  ·cases h
 ·cases h
end
end Go.Eng
end

section
set_option linter.unusedSimpArgs false
set_option linter.unusedVariables false
namespace Go.Eng
open Go Go.RowKit
section
variable {lw : Env} {P : Program} {c : Ctx} {S S' : HS} {look : Nat → Option Value} {w : World} {ρ : Nat → Value} {xs : Nat → List Value} {hv : HV} {cnd : Prop}
def eE (ρ : Nat → Value) (id : Nat) (v : Value) : Nat → Value := fun i => if i = id then v else ρ i
theorem aE (ρ : Nat → Value) (id : Nat) (v : Value) : eE ρ id v id = v := by simp [eE]
theorem fF (ρ : Nat → Value) (id : Nat) (v : Value) (i : Nat) (h : i ≠ id) : eE ρ id v i = ρ i := by simp [eE, h]
theorem Good.new (G : Good c S look w ρ xs) (id : Nat) (r : Row) (ys : List Value) (v' : Value) {w' : World} (hb : Below w.heap.size w w') (hblk : ∀ b, v'.ownBlock = some b → w.heap.size ≤ b)
  (hrow : (∀ v x, RepH w (c.A ρ S.st) c.n0 ρ v x → RepH w' (c.A (eE ρ id v') ((id, r) :: cU (only id) S.st)) c.n0 (eE ρ id v') v (x.kill (only id))) →
   (∀ v x, RepF w (c.A ρ S.st) c.n0 v x → RepF w' (c.A (eE ρ id v') ((id, r) :: cU (only id) S.st)) c.n0 v x) → RowOk w' (c.A (eE ρ id v') ((id, r) :: cU (only id) S.st)) c (eE ρ id v') id r ys) :
  Good c ((S.kill (only id)).row id r) look w' (eE ρ id v') (fun i => if i = id then ys else xs i) :=
 G.put id r ys hb.size hb.os hb.tape hb.output none (fun b hb => by cases hb) (fun b hlt _ => hb.block b hlt) (fun i hi => fF ρ id v' i hi) (fun b hb => .inl (hblk b (by rw [aE] at hb; exact hb))) hrow
theorem qAf {A : Nat → Prop} {n0 : Nat} {v : Value} {h : HV} {cs : List HV} (hr : RepH w A n0 ρ v h) (hc : dP h = some cs) :
  v.cells.size = cs.length ∧ (∀ u ∈ v.cells.toList, u.oneCell' = true) ∧ ∀ k (a : k < v.cells.toList.length) (b : k < cs.length), RepH w A n0 ρ v.cells.toList[k] cs[k] := by
 have one : ∀ {u : Value} {x : HV}, RepH w A n0 ρ u x → u.oneCell' = true → u.cells.size = [x].length ∧ (∀ y ∈ u.cells.toList, y.oneCell' = true) ∧ ∀ k (a : k < u.cells.toList.length) (b : k < [x].length), RepH w A n0 ρ u.cells.toList[k] [x][k] := by
  intro u x hx h1
  have e := qR0 h1
  refine ⟨by rw [e]; rfl, fun y hy => by rw [e] at hy; simp at hy; subst hy; exact h1, fun k a b => ?_⟩
  have hk : k = 0 := by simpa using b
  subst hk
  simp only [e, List.getElem_cons_zero]
  exact hx
 cases hr with
 | v =>
  cases v <;> simp only [dP, Option.some.injEq, reduceCtorEq] at hc <;> (subst hc; exact one (.v _) rfl)
 | lst hF => simp only [dP, Option.some.injEq] at hc; subst hc; exact one (.lst hF) (by cases hF; rfl)
 | own id h1 => simp only [dP, Option.some.injEq] at hc; subst hc; exact one (.own id h1) h1
 | vw a b d h1 h2 h3 h4 h5 h6 => simp only [dP, Option.some.injEq] at hc; subst hc; exact one (.vw a b d h1 h2 h3 h4 h5 h6) rfl
 | ptr a b d h => simp only [dP, Option.some.injEq] at hc; subst hc; exact one (.ptr a b d h) rfl
 | elt a b d => simp only [dP, Option.some.injEq] at hc; subst hc; exact one (.elt a b d) rfl
 | agg hn h1 h =>
  simp only [dP, Option.some.injEq] at hc
  subst hc
  rename_i cs0 hs0
  show cs0.size = hs0.length ∧ (∀ u ∈ cs0.toList, u.oneCell' = true) ∧ ∀ k (a : k < cs0.toList.length) (b : k < hs0.length), RepH w A n0 ρ cs0.toList[k] hs0[k]
  refine ⟨hn, fun u hu => ?_, fun k a b => ?_⟩
  ·obtain ⟨j, hj, rfl⟩ := List.getElem_of_mem hu
   rw [Array.getElem_toList]
   exact h1 j (by simpa using hj)
  ·rw [Array.getElem_toList]
   exact h k (by simpa using a) b
 | tup => cases hc
 | junk => cases hc
theorem zJt (G : Good c S look w ρ xs) {id t : Nat} {cs : List HV} {vs : Array Value} (hn : vs.size = cs.length) (h1 : ∀ u ∈ vs.toList, u.oneCell' = true)
  (hr : ∀ k (a : k < vs.toList.length) (b : k < cs.length), RepH w (c.A ρ S.st) c.n0 ρ vs.toList[k] cs[k]) :
  InvV c ((S.kill (only id)).row id (.bx true t (cs.map (HV.kill (only id))))) (.ptr id cs.length 0 0) (.pointer (some ⟨w.heap.size, 0, none⟩)) look (w.alloc (.cells vs t)) := by
 have hb : Below w.heap.size w (w.alloc (.cells vs t)) := (Below.refl _ _).alloc (Nat.le_refl _) _
 refine ⟨_, _, G.new id (.bx true t (cs.map (HV.kill (only id)))) vs.toList (.slice (some ⟨w.heap.size, 0, none⟩) 1 1) hb (fun b hb' => by simp only [Value.ownBlock, Option.some.injEq] at hb'; omega) (fun tr _ => ?_), ?_⟩
 ·refine ⟨?_, ⟨⟨w.heap.size, aE _ _ _, fun h => (by cases h)⟩, fun k hk => ?_⟩, fun b hb' => ?_⟩
  ·rw [aE]
   simp only [Row.ty, Row.sz, Row.len, List.length_map]
   exact qSv w vs t cs.length 1 0 (by omega) (by simp [maxLen]) (Nat.zero_le _)
  ·have hk' : k < cs.length := by simpa using hk
   have ha : k < vs.toList.length := by rw [Array.length_toList]; omega
   refine ⟨vs.toList[k], List.getElem?_eq_getElem ha, h1 _ (List.getElem_mem ha), ?_⟩
   rw [List.getElem_map]
   exact tr _ _ (hr k ha hk')
  ·rw [aE] at hb'
   simp only [Value.ownBlock, Option.some.injEq] at hb'
   have := G.kept.size
   have := c.hn
   exact ⟨.inl (by omega), fun _ => by omega⟩
 ·have := RepH.ptr (w := w.alloc (.cells vs t)) (A := c.A (eE ρ id (.slice (some ⟨w.heap.size, 0, none⟩) 1 1)) ((S.kill (only id)).row id (.bx true t (cs.map (HV.kill (only id))))).st) (n0 := c.n0) (ρ := eE ρ id (.slice (some ⟨w.heap.size, 0, none⟩) 1 1)) cs.length 0 0 (aE ρ id _)
  simpa using this
theorem qT0 (G : Good c S look w ρ xs) (hl : Agr S.env look lw) {id : Nat} {t ty : TypeId} (h : nG S id t (eG P t) = .go cnd hv S') (hc : cnd) :
  aW P lw (.alloc t) ty w (KV c S' hv look) (KV c S' hv look) := by
 unfold nG at h
 split at h
 ·rename_i z hz
  simp only [HOut.go.injEq] at h
  obtain ⟨rfl, rfl, rfl⟩ := h
  have hc' : z.all (·.oneCell') = true := by rw [← lS]; exact hc
  unfold aW
  simp only [aG, bY, hz]
  have := zJt G (id := id) (t := t) (vs := z) (cs := z.toList.map HV.v) (by simp) (fun u hu => by
   rw [← Array.all_toList] at hc'
   exact List.all_eq_true.1 hc' u hu) (fun k a b => by rw [List.getElem_map]; exact .v _)
  have e : (z.toList.map HV.v).map (HV.kill (only id)) = z.toList.map HV.v := by
   rw [List.map_map]; apply List.map_congr_left; intro a _; simp [HV.kill]
  rw [e] at this
  simpa using this
 ·cases h
theorem zDj (G : Good c S look w ρ xs) (hl : Agr S.env look lw) {id : Nat} {t ty : TypeId} {x : Operand} (h : qWp S id t (hev S.env x) = .go cnd hv S') (hc : cnd) :
  aW P lw (.box t x) ty w (KV c S' hv look) (KV c S' hv look) := by
 unfold qWp at h
 split at h
 ·rename_i y hx
  obtain ⟨v, e1, e2⟩ := G.ev hl hx
  unfold qL4 at h
  split at h
  ·rename_i cs hcs
   simp only [HOut.go.injEq] at h
   obtain ⟨rfl, rfl, rfl⟩ := h
   obtain ⟨r1, r2, r3⟩ := qAf e2 hcs
   unfold aW
   simp only [aG, bY, e1]
   exact zJt G r1 r2 r3
  ·cases h
 ·cases h
theorem Good.parts (G : Good c S look w ρ xs) (hl : Agr S.env look lw) : ∀ {l : List (Nat × Operand)} {hs : List (Nat × HV)}, iK S.env l = some hs → ∃ vs, jC lw l = some vs ∧ vs.length = hs.length ∧ ∀ i (h1 : i < vs.length) (h2 : i < hs.length), vs[i].1 = hs[i].1 ∧ RepH w (c.A ρ S.st) c.n0 ρ vs[i].2 hs[i].2
 | [], hs, h => by simp only [iK, Option.some.injEq] at h; subst h; exact ⟨[], rfl, rfl, fun i h1 => absurd h1 (by simp)⟩
 | (k, x) :: r, hs, h => by
  simp only [iK] at h
  split at h
  ·rename_i v hv
   split at h
   ·rename_i us hus
    simp only [Option.some.injEq] at h; subst h
    obtain ⟨u, h1, h2⟩ := G.ev hl hv
    obtain ⟨vs, h3, h4, h5⟩ := G.parts hl hus
    refine ⟨(k, u) :: vs, by simp only [jC, h1, h3], by simp [h4], fun i a b => ?_⟩
    cases i with
    | zero => exact ⟨rfl, h2⟩
    | succ i => exact h5 i (by simpa using a) (by simpa using b)
   ·cases h
  ·cases h
theorem qDd (off : Nat) : ∀ (L : List Value) (s : Nat) (arr : Array Value), off + s + L.length ≤ arr.size → ((L.zipIdx s).foldl (fun cs (x : Value × Nat) => cs.setIfInBounds (off + x.2) x.1) arr).toList = splice arr.toList (off + s) L
 | [], s, arr, h => by simp [splice]
 | x :: r, s, arr, h => by
  simp only [List.length_cons] at h
  rw [List.zipIdx_cons, List.foldl_cons, qDd off r (s + 1) _ (by simp; omega)]
  apply List.ext_getElem?
  intro j
  rw [cY _ _ _ (by simp; omega), cY _ _ _ (by simp; omega)]
  simp only [Array.toList_setIfInBounds, List.getElem?_set, Array.length_toList, List.length_cons]
  by_cases e : j = off + s
  ·subst e
   rw [if_neg (by omega), if_pos rfl, if_pos (by omega), if_pos (by omega)]
   simp
  ·by_cases e2 : off + (s + 1) ≤ j ∧ j < off + (s + 1) + r.length
   ·rw [if_pos e2, if_pos (by omega), show j - (off + s) = (j - (off + (s + 1))) + 1 by omega, List.getElem?_cons_succ]
   ·rw [if_neg e2, if_neg (by omega), if_neg (by omega)]
theorem qL9 (arr : Array Value) (off : Nat) (v : Value) (h : off + v.cells.size ≤ arr.size) : (v.cells.zipIdx.foldl (fun cs (x : Value × Nat) => cs.setIfInBounds (off + x.2) x.1) arr) = (splice arr.toList off v.cells.toList).toArray := by
 apply Array.toList_inj.1
 have := qDd off v.cells.toList 0 arr (by simpa using h)
 rw [← Array.foldl_toList, Array.toList_zipIdx]
 simpa using this
def Pair (R : Value → HV → Prop) (arr : List Value) (hs : List HV) : Prop := arr.length = hs.length ∧ (∀ u ∈ arr, u.oneCell' = true) ∧ ∀ k (a : k < arr.length) (b : k < hs.length), R arr[k] hs[k]
theorem Pair.splice {R : Value → HV → Prop} {arr vs : List Value} {hs cs : List HV} {k : Nat} (h : Pair R arr hs) (h' : Pair R vs cs) (hk : k + cs.length ≤ hs.length) : Pair R (Eng.splice arr k vs) (Eng.splice hs k cs) := by
 obtain ⟨a1, a2, a3⟩ := h
 obtain ⟨b1, b2, b3⟩ := h'
 have e1 := cH arr k vs (by omega)
 have e2 := cH hs k cs hk
 refine ⟨by omega, fun u hu => ?_, fun j p q => ?_⟩
 ·simp only [Eng.splice, List.mem_append] at hu
  rcases hu with (hu | hu) | hu
  ·exact a2 u (List.mem_of_mem_take hu)
  ·exact b2 u hu
  ·exact a2 u (List.mem_of_mem_drop hu)
 ·rcases jX arr k vs (by omega) j p with ⟨x1, x2, x3⟩ | ⟨x1, x2, x3⟩
  ·rcases jX hs k cs hk j q with ⟨y1, y2, y3⟩ | ⟨y1, y2, y3⟩
   ·rw [x3, y3]; exact b3 _ _ _
   ·omega
  ·rcases jX hs k cs hk j q with ⟨y1, y2, y3⟩ | ⟨y1, y2, y3⟩
   ·omega
   ·rw [x3, y3]; exact a3 _ _ _
theorem qW0 {R : Value → HV → Prop} {aQ : Nat → Option (Nat × Nat)} (hR : ∀ v h cs, R v h → dP h = some cs → Pair R v.cells.toList cs) : ∀ (ps : List (Nat × Value)) (hs : List (Nat × HV)) (arr : Array Value) (cells out : List HV) (cnd : Prop), ps.length = hs.length →
  (∀ i (h1 : i < ps.length) (h2 : i < hs.length), ps[i].1 = hs[i].1 ∧ R ps[i].2 hs[i].2) → Pair R arr.toList cells → qC5 aQ cells hs = some (cnd, out) → cnd → ∃ arr', Instr.fill aQ arr ps = some arr' ∧ Pair R arr'.toList out
 | [], [], arr, cells, out, cnd, _, _, hp, h, hc => by
  simp only [qC5, Option.some.injEq, Prod.mk.injEq] at h
  obtain ⟨-, rfl⟩ := h
  exact ⟨arr, rfl, hp⟩
 | (i, v) :: ps, (j, y) :: hs, arr, cells, out, cnd, hl, he, hp, h, hc => by
  have e0 := he 0 (by simp) (by simp)
  simp only [List.getElem_cons_zero] at e0
  obtain ⟨rfl, hr⟩ := e0
  simp only [qC5] at h
  split at h
  ·rename_i off n hpl
   split at h
   ·rename_i cs hcs
    split at h
    ·rename_i c' out' hf
     simp only [Option.some.injEq, Prod.mk.injEq] at h
     obtain ⟨rfl, rfl⟩ := h
     obtain ⟨⟨hn, hfit⟩, hc2⟩ := hc
     subst hn
     have hP := hR v y cs hr hcs
     have h1 := hP.1
     have h2 := hp.1
     simp only [Array.length_toList] at h1 h2
     have hfo := qL9 arr off v (by omega)
     obtain ⟨arr', r1, r2⟩ := qW0 hR ps hs (Eng.splice arr.toList off v.cells.toList).toArray (Eng.splice cells off cs) out' c' (by simpa using hl) (fun i a b => by
      have := he (i + 1) (by simpa using a) (by simpa using b)
      simpa using this) (by simpa using hp.splice hP hfit) hf hc2
     refine ⟨arr', ?_, r2⟩
     simp only [Instr.fill, hpl]
     rw [if_neg (by simp; omega)]
     rw [← r1, ← hfo]
    ·cases h
   ·cases h
  ·cases h
theorem zAv {α β : Type} (f : α → Sem β) (g : α → β) (w : World) : ∀ (l : List α), (∀ x ∈ l, (f x).run P w = .ok (g x) w) → (l.mapM f).run P w = .ok (l.map g) w
 | [], _ => by simp
 | x :: r, h => by
  rw [List.mapM_cons, Sem.run_bind, h x (by simp)]
  simp only [Result.andThen_ok]
  rw [Sem.run_bind, zAv f g w r (fun y hy => h y (by simp [hy]))]
  rfl
theorem zDn {t : TypeId} {z arr : Array Value} {ps : Array (Nat × Value)} (hb : cW P t = true) (hz : eG P t = some z) (hf : Instr.fill (cZ P t) z ps.toList = some arr) (w : World) :
  (Instr.build t ps).run P w = .ok (.agg arr) w := by
 unfold eG at hz
 split at hz
 ·rename_i i hi
  cases hzz : i.zero with
  | none => simp [hzz] at hz
  | some u =>
   simp only [hzz, Option.map_some, Option.some.injEq] at hz
   subst hz
   unfold cW at hb
   split at hb
   ·rename_i fs hu
    have hm : (fs.mapM fun (f : Field) => do pure (f.offset, ← sizeOf f.type)).run P w = .ok (fs.map fun (f : Field) => (f.offset, ((P.info? f.type).map (·.size)).getD 0)) w := by
     rw [Array.mapM_eq_mapM_toList]
     have := zAv (P := P) (fun f : Field => do pure (f.offset, ← sizeOf f.type)) (fun f : Field => (f.offset, ((P.info? f.type).map (·.size)).getD 0)) w fs.toList (fun f hf' => by
      rw [← Array.all_toList] at hb
      have := List.all_eq_true.1 hb f hf'
      obtain ⟨x, hx⟩ := Option.isSome_iff_exists.1 this
      simp [sizeOf, typeInfo, hx])
     simp only [Sem.run_map, this]
     simp only [Result.andThen]
     congr 1
     apply Array.toList_inj.1
     simp
    have hm' : (fs.mapM fun (f : Field) => Functor.map (Prod.mk f.offset) (sizeOf f.type)).run P w = .ok (fs.map fun (f : Field) => (f.offset, ((P.info? f.type).map (·.size)).getD 0)) w := by
     rw [← hm]
     congr 1
    have hp : (fun x => Option.map (fun (f : Field) => (f.offset, ((P.info? f.type).map (·.size)).getD 0)) fs[x]?) = cZ P t := by
     funext x
     simp only [cZ, hu]
     cases hx : fs[x]? with
     | none => rfl
     | some f =>
      have hmem : f ∈ fs.toList := by
       obtain ⟨h1, rfl⟩ := Array.getElem?_eq_some_iff.1 hx
       simp
      rw [← Array.all_toList] at hb
      have := List.all_eq_true.1 hb f hmem
      obtain ⟨y, hy⟩ := Option.isSome_iff_exists.1 this
      simp [hy]
    unfold Instr.build
    simp only [Sem.run_bind, zeroValue, typeInfo, hi, hzz, run_underlying hu, Sem.run_pure, Result.andThen_ok, hm]
    simp [hi, hzz, Sem.run_bind, hm, hm', hp, hf]
   ·rename_i n e hu
    obtain ⟨x, hx⟩ := Option.isSome_iff_exists.1 hb
    have hp : (fun i => some (i * x.size, x.size)) = cZ P t := by
     funext i
     simp [cZ, hu, hx]
    unfold Instr.build
    simp [zeroValue, typeInfo, hi, hzz, run_underlying hu, sizeOf, hx, Sem.run_bind, hp, hf]
   ·cases hb
 ·cases hz
theorem qEz (G : Good c S look w ρ xs) (hl : Agr S.env look lw) {t ty : TypeId} {ps : Array (Nat × Operand)} (h : uK S (cW P t) (cZ P t) (eG P t) (iK S.env ps.toList) = .go cnd hv S') (hc : cnd) :
  aW P lw (.build t ps) ty w (KVs c S' hv look ρ xs w) (KVs c S' hv look ρ xs w) := by
 unfold uK at h
 split at h
 ·rename_i z qs hz hq
  unfold rK at h
  split at h
  ·rename_i c' cs hf
   simp only [HOut.go.injEq] at h
   obtain ⟨rfl, rfl, rfl⟩ := h
   obtain ⟨hok, hc'⟩ := hc
   have hok' : (cW P t && z.all (·.oneCell')) = true := by rw [← lS]; exact hok
   simp only [Bool.and_eq_true] at hok'
   obtain ⟨vs, p1, p2, p3⟩ := G.parts hl hq
   obtain ⟨arr, f1, f2, f3, f4⟩ := qW0 (R := RepH w (c.A ρ S.st) c.n0 ρ) (fun v h cs hr hcs => by
    obtain ⟨a1, a2, a3⟩ := qAf hr hcs
    exact ⟨by simpa using a1, a2, a3⟩) vs qs z _ cs c' p2 p3 ⟨by simp, fun u hu => by
     have := hok'.2
     rw [← Array.all_toList] at this
     exact List.all_eq_true.1 this u hu, fun k a b => by rw [List.getElem_map]; exact .v _⟩ hf hc'
   unfold aW
   simp only [aG, bY, p1]
   refine ⟨.agg arr, fun w => zDn hok'.1 hz (by simpa using f1) w, rfl, G, .agg (by simpa using f2) (fun j hj => f3 _ (by simp)) (fun j a b => ?_)⟩
   have := f4 j (by simpa using a) b
   simpa using this
  ·cases h
 ·cases h
end
end Go.Eng
end
