/-
  Values as one thinks of them: lists that stand, rows of one's own, structs; how they read in memory, and that they go on reading so.
-/
import Derived.Test.YtppnicpbncfhnaaSlice
set_option linter.unusedSimpArgs false
set_option linter.unusedVariables false
namespace Go.Eng
open Go Go.RowKit

/-- what stands and is not written any more -/
inductive FV where
  | v (x : Value)
  | lst (fr : Bool) (xs : List (List FV))
instance : Inhabited FV := ⟨.v (.bool false)⟩
inductive HV where
  | v (x : Value)
  | lst (fr : Bool) (xs : List (List FV))
  | own (id : Nat)
  | vw (id sz off n : Nat)
  | ptr (id sz i k : Nat)
  | elt (fr : Bool) (xs : List (List FV)) (sz i k : Nat)
  | agg (cs : List HV)
  | tup (vs : List HV)
  | junk
instance : Inhabited HV := ⟨.junk⟩
def FV.h : FV → HV
  | .v x => .v x
  | .lst fr xs => .lst fr xs
/-- what the call may write: a slice's row, of things that stand; a variable of its own -/
inductive Row where
  | sl (nw : Bool) (ty sz : Nat) (els : List (List FV))
  | bx (nw : Bool) (ty : Nat) (cells : List HV)
def Row.nw : Row → Bool | .sl n _ _ _ => n | .bx n _ _ => n
def Row.ty : Row → Nat | .sl _ t _ _ => t | .bx _ t _ => t
def Row.sz : Row → Nat | .sl _ _ s _ => s | .bx _ _ cs => cs.length
def Row.len : Row → Nat | .sl _ _ _ xs => xs.length | .bx _ _ _ => 1
abbrev HEnv := List (Nat × HV)
abbrev Store := List (Nat × Row)
structure HS where
  env : HEnv
  st : Store
def hlk : HEnv → Nat → Option HV
  | [], _ => none
  | (k, v) :: r, t => if k = t then some v else hlk r t
def rlk : Store → Nat → Option Row
  | [], _ => none
  | (k, v) :: r, t => if k = t then some v else rlk r t

/-- What reads: the blocks that are looked at are none that may be written (A), and lie at n0 or above where it says so. -/
inductive RepF (w : World) (A : Nat → Prop) (n0 : Nat) : Value → FV → Prop
  | v (x : Value) : RepF w A n0 x (.v x)
  | lst {a : Option Addr} {n cap : Nat} {fr : Bool} {xs : List (List FV)} (sz : Nat) (vals : Nat → Nat → Value)
      (hn : xs.length = n) (hc : n ≤ cap) (hm : cap ≤ maxLen) (hnil : a = none → cap = 0) (hsz : ∀ x ∈ xs, x.length = sz)
      (ha : 0 < n → ∃ b off, a = some ⟨b, off, none⟩ ∧ ¬ A b ∧ b < w.heap.size ∧ (fr = true → n0 ≤ b) ∧ ∀ i k, i < n → k < sz → w.cell? ⟨b, off + (i * sz + k), none⟩ = some (vals i k))
      (h1 : ∀ i k, i < n → k < sz → (vals i k).oneCell' = true)
      (hr : ∀ i k (hi : i < xs.length) (hk : k < xs[i].length), RepF w A n0 (vals i k) (xs[i][k])) : RepF w A n0 (.slice a n cap) (.lst fr xs)
inductive RepH (w : World) (A : Nat → Prop) (n0 : Nat) (ρ : Nat → Value) : Value → HV → Prop
  | v (x : Value) : RepH w A n0 ρ x (.v x)
  | lst {v : Value} {fr : Bool} {xs : List (List FV)} (h : RepF w A n0 v (.lst fr xs)) : RepH w A n0 ρ v (.lst fr xs)
  | own (id : Nat) (h1 : (ρ id).oneCell' = true) : RepH w A n0 ρ (ρ id) (.own id)
  | vw {id n c c' : Nat} {a a' : Option Addr} (sz off m : Nat) (h : ρ id = .slice a n c) (hm : off + m ≤ n) (hc : c' = c - off) (hn : a' = none → c' = 0) (hx : c' ≤ maxLen) (ha : off < c → ∃ g, a = some ⟨g, 0, none⟩ ∧ a' = some ⟨g, off * sz, none⟩) : RepH w A n0 ρ (.slice a' m c') (.vw id sz off m)
  | ptr {id g n c : Nat} (sz i k : Nat) (h : ρ id = .slice (some ⟨g, 0, none⟩) n c) : RepH w A n0 ρ (.pointer (some ⟨g, i * sz + k, none⟩)) (.ptr id sz i k)
  | elt {b off n cap : Nat} {fr : Bool} {xs : List (List FV)} {sz i k : Nat} (h : RepF w A n0 (.slice (some ⟨b, off, none⟩) n cap) (.lst fr xs)) (hsz : ∀ x ∈ xs, x.length = sz) (hi : i < xs.length) :
      RepH w A n0 ρ (.pointer (some ⟨b, off + (i * sz + k), none⟩)) (.elt fr xs sz i k)
  | agg {cs : Array Value} {hs : List HV} (hn : cs.size = hs.length) (h1 : ∀ j (h : j < cs.size), (cs[j]).oneCell' = true) (h : ∀ j (h1 : j < cs.size) (h2 : j < hs.length), RepH w A n0 ρ cs[j] hs[j]) : RepH w A n0 ρ (.agg cs) (.agg hs)
  | tup {cs : Array Value} {hs : List HV} (hn : cs.size = hs.length) (h : ∀ j (h1 : j < cs.size) (h2 : j < hs.length), RepH w A n0 ρ cs[j] hs[j]) : RepH w A n0 ρ (.tuple cs) (.tup hs)
  | junk (v : Value) : RepH w A n0 ρ v .junk

theorem cell_block {w w' : World} {b o : Nat} (h : w'.heap[b]? = w.heap[b]?) : w'.cell? ⟨b, o, none⟩ = w.cell? ⟨b, o, none⟩ := World.cell?_of_block (a := ⟨b, o, none⟩) h
theorem RepF.up {w w' : World} {A A' : Nat → Prop} {n0 n1 : Nat} {v : Value} {x : FV} (h : RepF w A n0 v x) (hs : w.heap.size ≤ w'.heap.size)
    (hb : ∀ b, b < w.heap.size → ¬ A b → w'.heap[b]? = w.heap[b]?) (hA : ∀ b, b < w.heap.size → A' b → A b) (hn : n1 ≤ n0) : RepF w' A' n1 v x := by
  induction h with
  | v x => exact .v x
  | lst sz vals hn hc hm hnil hsz ha h1 hr ih =>
    refine .lst sz vals hn hc hm hnil hsz (fun h0 => ?_) h1 (fun i k hi hk => ih i k hi hk)
    obtain ⟨b, off, ea, h2, h3, h4, h5⟩ := ha h0
    exact ⟨b, off, ea, fun hA' => h2 (hA b h3 hA'), by omega, fun hf => by have := h4 hf; omega, fun i k hi hk => by rw [cell_block (hb b h3 h2)]; exact h5 i k hi hk⟩
/-- the names that are forgotten: one; eight from n on -/
def only (id : Nat) : Nat → Bool := fun i => i == id
def eight (n : Nat) : Nat → Bool := fun i => Nat.ble n i && Nat.blt i (n + 8)
theorem only_ne {id i : Nat} (h : i ≠ id) : only id i = false := by simpa [only] using h
theorem only_self (id : Nat) : only id id = true := by simp [only]
theorem eq_of_only {id i : Nat} (h : only id i = true) : i = id := by simpa [only] using h
theorem ne_of_only {id i : Nat} (h : only id i = false) : i ≠ id := by simpa [only] using h
def HV.kill (p : Nat → Bool) : HV → HV
  | .own i => bif p i then .junk else .own i
  | .vw i sz o n => bif p i then .junk else .vw i sz o n
  | .ptr i sz j k => bif p i then .junk else .ptr i sz j k
  | .agg cs => .agg (cs.map (kill p))
  | .tup cs => .tup (cs.map (kill p))
  | .v x => .v x
  | .lst fr xs => .lst fr xs
  | .elt fr xs sz i k => .elt fr xs sz i k
  | .junk => .junk
section
variable {w w' : World} {A A' : Nat → Prop} {n0 n1 : Nat} {ρ ρ' : Nat → Value}
theorem RepH.up {v : Value} {x : HV} (h : RepH w A n0 ρ v x) (hs : w.heap.size ≤ w'.heap.size)
    (hb : ∀ b, b < w.heap.size → ¬ A b → w'.heap[b]? = w.heap[b]?) (hA : ∀ b, b < w.heap.size → A' b → A b) (hn : n1 ≤ n0) : RepH w' A' n1 ρ v x := by
  induction h with
  | v x => exact .v x
  | lst h => exact .lst (h.up hs hb hA hn)
  | own id h1 => exact .own id h1
  | vw sz off m h a b d x e => exact .vw sz off m h a b d x e
  | ptr sz i k h => exact .ptr sz i k h
  | elt h h1 h2 => exact .elt (h.up hs hb hA hn) h1 h2
  | agg hn h1 h ih => exact .agg hn h1 ih
  | tup hn h ih => exact .tup hn ih
  | junk v => exact .junk v
/-- what does not name a row reads on while that row's value turns -/
theorem RepH.kill {v : Value} {x : HV} {p : Nat → Bool} (h : RepH w A n0 ρ v x) (hρ : ∀ j, p j = false → ρ' j = ρ j) : RepH w A n0 ρ' v (x.kill p) := by
  induction h with
  | v x => rw [HV.kill]; exact .v x
  | lst h => rw [HV.kill]; exact .lst h
  | own j h1 =>
    rw [HV.kill]
    cases h : p j with
    | true => exact .junk _
    | false => rw [← hρ j h]; exact .own j (by rw [hρ j h]; exact h1)
  | vw sz off m h a b d x e =>
    rename_i id _ _ _ _ _
    rw [HV.kill]
    cases hne : p id with
    | true => exact .junk _
    | false => exact .vw sz off m (by rw [hρ _ hne]; exact h) a b d x e
  | ptr sz i k h =>
    rename_i id _ _ _
    rw [HV.kill]
    cases hne : p id with
    | true => exact .junk _
    | false => exact .ptr sz i k (by rw [hρ _ hne]; exact h)
  | elt h h1 h2 => rw [HV.kill]; exact .elt h h1 h2
  | agg hn h1 h ih =>
    rw [HV.kill]
    exact .agg (by simpa using hn) h1 (fun j a b => by rw [List.getElem_map]; exact ih j a (by simpa using b))
  | tup hn h ih =>
    rw [HV.kill]
    exact .tup (by simpa using hn) (fun j a b => by rw [List.getElem_map]; exact ih j a (by simpa using b))
  | junk v => rw [HV.kill]; exact .junk v
theorem RepF.h {v : Value} {x : FV} (h : RepF w A n0 v x) : RepH w A n0 ρ v x.h := by
  cases h with
  | v => exact .v _
  | lst sz vals a b c d e f g i => exact .lst (.lst sz vals a b c d e f g i)
end
/-- where a function began: the world; the blocks that were handed in to be written; what else may not be looked at; from where on a block is new; where the handed-in variables lie -/
structure Ctx where
  w0 : World
  T : Nat → Prop
  A0 : Nat → Prop
  n0 : Nat
  hn : n0 ≤ w0.heap.size
  B : Nat → Nat → Prop
abbrev cx (w : World) (T A0 : Nat → Prop) : Ctx := ⟨w, T, A0, w.heap.size, Nat.le_refl _, fun _ _ => False⟩
/-- a row of one's own -/
structure RowOk (w : World) (A : Nat → Prop) (c : Ctx) (ρ : Nat → Value) (id : Nat) (r : Row) (xs : List Value) : Prop where
  own : Own w 0 r.ty r.sz (ρ id) r.len xs
  rep : match r with
    | .sl _ _ sz els => (∀ x ∈ els, x.length = sz) ∧ ∀ i k (hi : i < els.length) (hk : k < els[i].length), ∃ u, xs[i * sz + k]? = some u ∧ u.oneCell' = true ∧ RepF w A c.n0 u els[i][k]
    | .bx nw _ cells => (∃ g, ρ id = .slice (some ⟨g, 0, none⟩) 1 1 ∧ (nw = false → c.B id g)) ∧ ∀ k (hk : k < cells.length), ∃ u, xs[k]? = some u ∧ u.oneCell' = true ∧ RepH w A c.n0 ρ u cells[k]
  new : ∀ b, (ρ id).ownBlock = some b → (c.w0.heap.size ≤ b ∨ c.T b) ∧ (r.nw = true → c.n0 ≤ b)
def Owns (ρ : Nat → Value) (st : Store) (b : Nat) : Prop := ∃ id r, rlk st id = some r ∧ (ρ id).ownBlock = some b
/-- what has been left alone since w -/
structure Kept (T : Nat → Prop) (w w' : World) : Prop where
  os : w'.os = w.os
  tape : w'.tape = w.tape
  output : w'.output = w.output
  size : w.heap.size ≤ w'.heap.size
  block : ∀ b, b < w.heap.size → ¬ T b → w'.heap[b]? = w.heap[b]?
theorem Kept.refl (T : Nat → Prop) (w : World) : Kept T w w := ⟨rfl, rfl, rfl, Nat.le_refl _, fun _ _ _ => rfl⟩
theorem Kept.trans {T T' : Nat → Prop} {a b c : World} (h : Kept T a b) (h' : Kept T' b c) (hT : ∀ k, k < a.heap.size → T' k → T k) : Kept T a c :=
  ⟨h'.os.trans h.os, h'.tape.trans h.tape, h'.output.trans h.output, Nat.le_trans h.size h'.size, fun k hk hT' =>
    (h'.block k (Nat.lt_of_lt_of_le hk h.size) (fun e => hT' (hT k hk e))).trans (h.block k hk hT')⟩
theorem Kept.below {w w' : World} {T : Nat → Prop} (h : Kept T w w') (hT : ∀ b, b < w.heap.size → ¬ T b) : Below w.heap.size w w' := ⟨h.os, h.tape, h.output, h.size, fun k hk => h.block k hk (hT k hk)⟩

def Ctx.A (c : Ctx) (ρ : Nat → Value) (st : Store) (b : Nat) : Prop := c.A0 b ∨ Owns ρ st b
structure Good (c : Ctx) (S : HS) (look : Nat → Option Value) (w : World) (ρ : Nat → Value) (xs : Nat → List Value) : Prop where
  rows : ∀ id r, rlk S.st id = some r → RowOk w (c.A ρ S.st) c ρ id r (xs id)
  apart : ∀ i j r s b, i ≠ j → rlk S.st i = some r → rlk S.st j = some s → (ρ i).ownBlock = some b → (ρ j).ownBlock = some b → False
  env : ∀ k h, hlk S.env k = some h → ∃ v, look k = some v ∧ RepH w (c.A ρ S.st) c.n0 ρ v h
  kept : Kept c.T c.w0 w
  a0 : ∀ b, c.A0 b → b < c.w0.heap.size ∧ ¬ c.T b
def Inv (c : Ctx) (S : HS) (look : Nat → Option Value) (w : World) : Prop := ∃ ρ xs, Good c S look w ρ xs
/-- with a value that is at hand -/
def InvV (c : Ctx) (S : HS) (h : HV) (v : Value) (look : Nat → Option Value) (w : World) : Prop := ∃ ρ xs, Good c S look w ρ xs ∧ RepH w (c.A ρ S.st) c.n0 ρ v h

def Row.kill (p : Nat → Bool) : Row → Row
  | .sl n t s xs => .sl n t s xs
  | .bx n t cs => .bx n t (cs.map (HV.kill p))
def skill (p : Nat → Bool) : Store → Store
  | [] => []
  | (k, r) :: s => bif p k then skill p s else (k, r.kill p) :: skill p s
def ekill (p : Nat → Bool) : HEnv → HEnv
  | [] => []
  | (k, h) :: s => (k, h.kill p) :: ekill p s
def HS.kill (S : HS) (p : Nat → Bool) : HS := ⟨ekill p S.env, skill p S.st⟩
def HS.row (S : HS) (id : Nat) (r : Row) : HS := ⟨S.env, (id, r) :: S.st⟩
theorem hlk_ekill (p : Nat → Bool) : ∀ (l : HEnv) (k : Nat), hlk (ekill p l) k = (hlk l k).map (HV.kill p)
  | [], k => rfl
  | (j, h) :: r, k => by
    simp only [ekill, hlk]
    split
    · rfl
    · exact hlk_ekill p r k
theorem rlk_skill (p : Nat → Bool) : ∀ (l : Store) (k : Nat), rlk (skill p l) k = bif p k then none else (rlk l k).map (Row.kill p)
  | [], k => by cases p k <;> rfl
  | (j, h) :: r, k => by
    simp only [skill, rlk]
    by_cases e2 : j = k
    · subst e2
      rw [if_pos rfl]
      cases e : p j with
      | true => simp only [cond_true]; rw [rlk_skill p r j, e, cond_true]
      | false => simp only [cond_false, rlk, if_true, Option.map_some]
    · rw [if_neg e2]
      cases e : p j with
      | true => simp only [cond_true]; exact rlk_skill p r k
      | false => simp only [cond_false, rlk, if_neg e2]; exact rlk_skill p r k
theorem Row.kill_ty (p : Nat → Bool) (r : Row) : (r.kill p).ty = r.ty := by cases r <;> rfl
theorem Row.kill_sz (p : Nat → Bool) (r : Row) : (r.kill p).sz = r.sz := by cases r <;> simp [Row.kill, Row.sz]
theorem Row.kill_len (p : Nat → Bool) (r : Row) : (r.kill p).len = r.len := by cases r <;> rfl
theorem Row.kill_nw (p : Nat → Bool) (r : Row) : (r.kill p).nw = r.nw := by cases r <;> rfl
section
variable {w w' : World} {A A' : Nat → Prop} {c : Ctx} {ρ ρ' : Nat → Value} {id : Nat} {r : Row} {xs : List Value}
theorem Own.block {base : Nat} {e : TypeId} {sz n : Nat} {v : Value} (h : Own w base e sz v n xs) (hb : ∀ b, v.ownBlock = some b → w'.heap[b]? = w.heap[b]?) : Own w' base e sz v n xs := by
  refine ⟨h.1, ?_⟩
  rcases h.2 with hn | ⟨g, cap, cur, rfl, hbg, hg, r⟩
  · exact .inl hn
  · exact .inr ⟨g, cap, cur, rfl, hbg, by rw [hb g rfl]; exact hg, r⟩
/-- a row that has not been touched goes on -/
theorem RowOk.up (h : RowOk w A c ρ id r xs) (hs : w.heap.size ≤ w'.heap.size) (hb : ∀ b, b < w.heap.size → ¬ A b → w'.heap[b]? = w.heap[b]?) (hA : ∀ b, b < w.heap.size → A' b → A b)
    (ho : ∀ b, (ρ id).ownBlock = some b → w'.heap[b]? = w.heap[b]?) : RowOk w' A' c ρ id r xs := by
  refine ⟨h.own.block ho, ?_, h.new⟩
  have := h.rep
  cases r with
  | sl n t s els =>
    refine ⟨this.1, fun i k hi hk => ?_⟩
    obtain ⟨u, h1, h2, h3⟩ := this.2 i k hi hk
    exact ⟨u, h1, h2, h3.up hs hb hA (Nat.le_refl _)⟩
  | bx n t cs =>
    refine ⟨this.1, fun k hk => ?_⟩
    obtain ⟨u, h1, h2, h3⟩ := this.2 k hk
    exact ⟨u, h1, h2, h3.up hs hb hA (Nat.le_refl _)⟩
theorem RowOk.kill {p : Nat → Bool} (h : RowOk w A c ρ id r xs) (hρ : ∀ i, p i = false → ρ' i = ρ i) (hne : p id = false) : RowOk w A c ρ' id (r.kill p) xs := by
  refine ⟨by rw [Row.kill_ty, Row.kill_sz, Row.kill_len, hρ id hne]; exact h.own, ?_, fun b hb => by rw [Row.kill_nw]; rw [hρ id hne] at hb; exact h.new b hb⟩
  have := h.rep
  cases r with
  | sl n t s els => exact this
  | bx n t cs =>
    refine ⟨by rw [hρ id hne]; exact this.1, fun k hk => ?_⟩
    obtain ⟨u, h1, h2, h3⟩ := this.2 k (by simpa using hk)
    refine ⟨u, h1, h2, ?_⟩
    rw [List.getElem_map]
    exact h3.kill hρ
end
section
variable {c : Ctx} {S : HS} {look : Nat → Option Value} {w w' : World} {ρ ρ' : Nat → Value} {xs : Nat → List Value}
theorem Good.lt (h : Good c S look w ρ xs) {id : Nat} {r : Row} {b : Nat} (hr : rlk S.st id = some r) (hb : (ρ id).ownBlock = some b) : b < w.heap.size := ((h.rows id r hr).own.lt b hb).2
/-- above: what is new leaves all as it was -/
theorem Good.below (h : Good c S look w ρ xs) (hb : Below w.heap.size w w') : Good c S look w' ρ xs :=
  ⟨fun id r hr => (h.rows id r hr).up hb.size (fun b hlt _ => hb.block b hlt) (fun b _ h => h) (fun b hb' => hb.block b (h.lt hr hb')), h.apart,
    fun k x hk => by obtain ⟨v, h1, h2⟩ := h.env k x hk; exact ⟨v, h1, h2.up hb.size (fun b hlt _ => hb.block b hlt) (fun b _ h => h) (Nat.le_refl _)⟩,
    h.kept.trans (T' := fun _ => False) ⟨hb.os, hb.tape, hb.output, hb.size, fun b hlt _ => hb.block b hlt⟩ (fun _ _ h => h.elim), h.a0⟩
/-- a row is laid down under a name: a new one, or what the named one has become -/
theorem Good.put (h : Good c S look w ρ xs) (id : Nat) (r : Row) (ys : List Value) (hs : w.heap.size ≤ w'.heap.size) (hos : w'.os = w.os) (htape : w'.tape = w.tape) (hout : w'.output = w.output)
    (old : Option Nat) (hold : ∀ b, old = some b → ∃ r0, rlk S.st id = some r0 ∧ (ρ id).ownBlock = some b)
    (hb : ∀ b, b < w.heap.size → some b ≠ old → w'.heap[b]? = w.heap[b]?) (hρ : ∀ i, i ≠ id → ρ' i = ρ i)
    (hblk : ∀ b, (ρ' id).ownBlock = some b → w.heap.size ≤ b ∨ old = some b)
    (hrow : (∀ v x, RepH w (c.A ρ S.st) c.n0 ρ v x → RepH w' (c.A ρ' ((id, r) :: skill (only id) S.st)) c.n0 ρ' v (x.kill (only id))) →
      (∀ v x, RepF w (c.A ρ S.st) c.n0 v x → RepF w' (c.A ρ' ((id, r) :: skill (only id) S.st)) c.n0 v x) → RowOk w' (c.A ρ' ((id, r) :: skill (only id) S.st)) c ρ' id r ys) :
    Good c ((S.kill (only id)).row id r) look w' ρ' (fun i => if i = id then ys else xs i) := by
  have hA : ∀ b, b < w.heap.size → c.A ρ' ((id, r) :: skill (only id) S.st) b → c.A ρ S.st b := by
    rintro b hlt (h0 | ⟨i, s, hi, hbi⟩)
    · exact .inl h0
    · right
      simp only [rlk] at hi
      by_cases e : id = i
      · subst e
        rcases hblk b hbi with hge | ho
        · omega
        · obtain ⟨r0, h1, h2⟩ := hold b ho
          exact ⟨id, r0, h1, h2⟩
      · rw [if_neg e, rlk_skill, only_ne (by omega), cond_false] at hi
        cases hs0 : rlk S.st i with
        | none => rw [hs0] at hi; cases hi
        | some s0 => rw [hρ i (by omega)] at hbi; exact ⟨i, s0, hs0, hbi⟩
  have hb' : ∀ b, b < w.heap.size → ¬ c.A ρ S.st b → w'.heap[b]? = w.heap[b]? := fun b hlt hn => hb b hlt fun e => hn (.inr (by
    obtain ⟨r0, h1, h2⟩ := hold b e.symm
    exact ⟨id, r0, h1, h2⟩))
  have hoth : ∀ i s b, i ≠ id → rlk S.st i = some s → (ρ i).ownBlock = some b → w'.heap[b]? = w.heap[b]? := fun i s b hne hi hbi =>
    hb b (h.lt hi hbi) fun e => by
      obtain ⟨r0, h1, h2⟩ := hold b e.symm
      exact h.apart i id s r0 b hne hi h1 hbi h2
  have tr : ∀ v x, RepH w (c.A ρ S.st) c.n0 ρ v x → RepH w' (c.A ρ' ((id, r) :: skill (only id) S.st)) c.n0 ρ' v (x.kill (only id)) := fun v x hv => (hv.up hs hb' hA (Nat.le_refl _)).kill (fun j hj => hρ j (ne_of_only hj))
  have trF : ∀ v x, RepF w (c.A ρ S.st) c.n0 v x → RepF w' (c.A ρ' ((id, r) :: skill (only id) S.st)) c.n0 v x := fun v x hv => hv.up hs hb' hA (Nat.le_refl _)
  refine ⟨?_, ?_, ?_, ?_, h.a0⟩
  · intro i s hi
    simp only [HS.row, HS.kill, rlk] at hi
    by_cases e : id = i
    · subst e
      rw [if_pos rfl] at hi
      simp only [Option.some.injEq] at hi
      subst hi
      rw [if_pos rfl]
      exact hrow tr trF
    · rw [if_neg e, rlk_skill, only_ne (by omega), cond_false] at hi
      rw [if_neg (by omega)]
      cases hs0 : rlk S.st i with
      | none => rw [hs0] at hi; cases hi
      | some s0 =>
        rw [hs0] at hi
        simp only [Option.map_some, Option.some.injEq] at hi
        subst hi
        exact ((h.rows i s0 hs0).up hs hb' hA (fun b hbi => hoth i s0 b (by omega) hs0 hbi)).kill (fun j hj => hρ j (ne_of_only hj)) (only_ne (by omega))
  · have key : ∀ i s b, i ≠ id → rlk ((id, r) :: skill (only id) S.st) i = some s → (ρ' i).ownBlock = some b → ∃ s0, rlk S.st i = some s0 ∧ (ρ i).ownBlock = some b := by
      intro i s b hne hi hbi
      simp only [rlk] at hi
      rw [if_neg (by omega), rlk_skill, only_ne hne, cond_false] at hi
      cases hs0 : rlk S.st i with
      | none => rw [hs0] at hi; cases hi
      | some s0 => rw [hρ i hne] at hbi; exact ⟨s0, rfl, hbi⟩
    intro i j ri rj b hne hi hj hbi hbj
    by_cases ei : i = id
    · subst ei
      obtain ⟨s0, h1, h2⟩ := key j rj b (by omega) hj hbj
      rcases hblk b hbi with hge | ho
      · have := h.lt h1 h2; omega
      · obtain ⟨r0, h3, h4⟩ := hold b ho
        exact h.apart i j r0 s0 b hne h3 h1 h4 h2
    · by_cases ej : j = id
      · subst ej
        obtain ⟨s0, h1, h2⟩ := key i ri b ei hi hbi
        rcases hblk b hbj with hge | ho
        · have := h.lt h1 h2; omega
        · obtain ⟨r0, h3, h4⟩ := hold b ho
          exact h.apart i j s0 r0 b hne h1 h3 h2 h4
      · obtain ⟨s0, h1, h2⟩ := key i ri b ei hi hbi
        obtain ⟨s1, h3, h4⟩ := key j rj b ej hj hbj
        exact h.apart i j s0 s1 b hne h1 h3 h2 h4
  · intro k x hk
    simp only [HS.row, HS.kill, hlk_ekill] at hk
    cases hx : hlk S.env k with
    | none => rw [hx] at hk; cases hk
    | some x0 =>
      rw [hx] at hk
      simp only [Option.map_some, Option.some.injEq] at hk
      subst hk
      obtain ⟨v, h1, h2⟩ := h.env k x0 hx
      exact ⟨v, h1, tr v x0 h2⟩
  · refine h.kept.trans (T' := fun b => old = some b) ⟨hos, htape, hout, hs, fun b hlt hn => hb b hlt fun e => hn e.symm⟩ fun b hlt e => ?_
    obtain ⟨r0, h1, h2⟩ := hold b e
    rcases ((h.rows id r0 h1).new b h2).1 with hge | hT
    · omega
    · exact hT
/-- a row's content turns, where it lies -/
theorem Good.upd (h : Good c S look w ρ xs) (id : Nat) (r0 r : Row) (ys : List Value) (hs : w.heap.size = w'.heap.size) (hos : w'.os = w.os) (htape : w'.tape = w.tape) (hout : w'.output = w.output)
    (hr0 : rlk S.st id = some r0) (hnw : r.nw = r0.nw) (hb : ∀ b, (ρ id).ownBlock ≠ some b → w'.heap[b]? = w.heap[b]?)
    (st' : Store) (hst : ∀ i, rlk st' i = if i = id then some r else rlk S.st i)
    (hrow : (∀ v x, RepH w (c.A ρ S.st) c.n0 ρ v x → RepH w' (c.A ρ st') c.n0 ρ v x) →
      (∀ v x, RepF w (c.A ρ S.st) c.n0 v x → RepF w' (c.A ρ st') c.n0 v x) → RowOk w' (c.A ρ st') c ρ id r ys) :
    Good c ⟨S.env, st'⟩ look w' ρ (fun i => if i = id then ys else xs i) := by
  have hA : ∀ b, c.A ρ st' b → c.A ρ S.st b := by
    rintro b (h0 | ⟨i, s, hi, hbi⟩)
    · exact .inl h0
    · right
      rw [hst] at hi
      by_cases e : i = id
      · subst e; exact ⟨i, r0, hr0, hbi⟩
      · rw [if_neg e] at hi; exact ⟨i, s, hi, hbi⟩
  have hb' : ∀ b, b < w.heap.size → ¬ c.A ρ S.st b → w'.heap[b]? = w.heap[b]? := fun b _ hn => hb b fun e => hn (.inr ⟨id, r0, hr0, e⟩)
  have tr : ∀ v x, RepH w (c.A ρ S.st) c.n0 ρ v x → RepH w' (c.A ρ st') c.n0 ρ v x := fun v x hv => hv.up (Nat.le_of_eq hs) hb' (fun b _ => hA b) (Nat.le_refl _)
  have trF : ∀ v x, RepF w (c.A ρ S.st) c.n0 v x → RepF w' (c.A ρ st') c.n0 v x := fun v x hv => hv.up (Nat.le_of_eq hs) hb' (fun b _ => hA b) (Nat.le_refl _)
  have back : ∀ i s, rlk st' i = some s → ∃ s0, rlk S.st i = some s0 := by
    intro i s hi
    rw [hst] at hi
    by_cases e : i = id
    · subst e; exact ⟨r0, hr0⟩
    · rw [if_neg e] at hi; exact ⟨s, hi⟩
  refine ⟨?_, ?_, ?_, ?_, h.a0⟩
  · intro i s hi
    rw [hst] at hi
    by_cases e : i = id
    · subst e
      rw [if_pos rfl] at hi
      simp only [Option.some.injEq] at hi
      subst hi
      rw [if_pos rfl]
      exact hrow tr trF
    · rw [if_neg e] at hi
      rw [if_neg e]
      exact (h.rows i s hi).up (Nat.le_of_eq hs) hb' (fun b _ => hA b) (fun b hbi => hb b fun e2 => h.apart i id s r0 b e hi hr0 hbi e2)
  · intro i j ri rj b hne hi hj hbi hbj
    obtain ⟨s0, h1⟩ := back i ri hi
    obtain ⟨s1, h2⟩ := back j rj hj
    exact h.apart i j s0 s1 b hne h1 h2 hbi hbj
  · intro k x hk
    obtain ⟨v, h1, h2⟩ := h.env k x hk
    exact ⟨v, h1, tr v x h2⟩
  · refine h.kept.trans (T' := fun b => (ρ id).ownBlock = some b) ⟨hos, htape, hout, Nat.le_of_eq hs, fun b hlt hn => hb b hn⟩ fun b hlt e => ?_
    rcases ((h.rows id r0 hr0).new b e).1 with hge | hT
    · omega
    · exact hT
end
end Go.Eng
