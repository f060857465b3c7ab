/- What the walk of the law stands on. -/
import Derived.Test.YtlfenddhppoflaaGa
import Derived.ProofKit
import Derived.OpenShut
import Derived.ShutString
import Derived.ChangeOld
import Derived.Below
import Derived.Test.YtlfenddhppoflaaGc
import Derived.SizedLaws
section
set_option linter.unusedVariables false
namespace Go.Eng
open Go Go.RowKit Go.ChangeShapes Go.WideShapes
theorem trodAll_kept {H : Type} {enc : TypeId × Value → H} {P : Program} {W W' : World} (hl : laidOutB P = true) (hb : Below W.heap.size W W') :
  ∀ (ts : List TypeId) (vs : List Value) (ds : List (DataW H)) (ps : List MemPlace), (ts.all fun t => P.readableRec t && decide (t < P.types.size)) = true →
   DataW.TrodAll enc P W 0 (fun _ => true) true ts vs ds ps → DataW.TrodAll enc P W' 0 (fun b => decide (b < W.heap.size)) true ts vs ds ps
 | [], vs, ds, ps, _, h => by
  obtain ⟨rfl, rfl, rfl⟩ := trodAll_nil h
  exact trodAll_mk0
 | t :: ts, vs, ds, ps, ht, h => by
  obtain ⟨v, vs', d, ds', p, q, rfl, rfl, rfl, h0, hr⟩ := trodAll_cons h
  simp only [List.all_cons, Bool.and_eq_true, decide_eq_true_eq] at ht
  have hlt : ∀ x ∈ p, x.block < W.heap.size := by obtain ⟨m, hm⟩ := h0; exact DataW.trod_lt m _ _ _ hm
  exact trodAll_cons_mk (Below.trod hl ht.1.1 ht.1.2 h0 hb hlt) (trodAll_kept hl hb ts vs' ds' q ht.2 hr)
theorem ret_calls {P : Program} {f : FuncId} {args : Array Value} {w : World} {K : Value → World → Prop} (h : Calls P f args w (Ret K)) : Calls P f args w fun e w' => ∃ v, e = .returned v ∧ K v w' :=
 h.mono fun e w' he => by
  cases e with
  | returned v => exact ⟨v, rfl, he⟩
  | _ => exact he.elim
end Go.Eng
end

section
set_option linter.unusedVariables false
set_option linter.unusedSimpArgs false
namespace Go.Eng
open Go Go.RowKit Go.ChangeShapes Go.WideShapes
inductive Sh where
 | int (k : IntKind)
 | bool
 | str
 | sl (by' : Nat) (ss : List Sh)
instance : Inhabited Sh := ⟨.bool⟩
inductive Fit : Sh → FV → Prop
 | int {k : IntKind} {n : Int} (h : (Lit.int k n).wf = true) : Fit (.int k) (.v (.int k n))
 | bool (b : Bool) : Fit .bool (.v (.bool b))
 | str {s : ByteArray} (h : s.size ≤ reachBytes) : Fit .str (.v (.string s))
 | sl {by' : Nat} {ss : List Sh} {xs : List (List FV)} (hb : xs.length * by' ≤ reachBytes) (hl : ∀ x ∈ xs, x.length = ss.length) (h : ∀ x ∈ xs, ∀ i (h1 : i < ss.length) (h2 : i < x.length), Fit ss[i] x[i]) : Fit (.sl by' ss) (.lst false xs)
def segOk (P : Program) (o : Nat) : List (Nat × TypeId) → List (List Sh) → Bool
 | [], [] => true
 | (off, t) :: r, s :: rs => off == o && s.length == P.cellsOf t && segOk P (o + s.length) r rs
 | _, _ => false
def mapO {α β : Type} (f : α → Option β) : List α → Option (List β)
 | [] => some []
 | a :: r => match f a, mapO f r with
  | some b, some bs => some (b :: bs)
  | _, _ => none
def shOf (P : Program) : Nat → TypeId → Option (List Sh)
 | 0, _ => none
 | n + 1, t => match P.underlying t with
  | some .bool => some [.bool]
  | some (.int k) => some [.int k]
  | some .string => some [.str]
  | some (.slice e) => match shOf P n e with
   | some ss => if ss.length == P.cellsOf e && Nat.blt 0 ss.length then some [.sl (P.bytesOf e) ss] else none
   | none => none
  | some (.struct fs) => match mapO (fun f : Field => shOf P n f.type) fs.toList with
   | some sss => if segOk P 0 (fs.toList.map fun f => (f.offset, f.type)) sss && sss.flatten.length == P.cellsOf t then some sss.flatten else none
   | none => none
  | some (.array k e) => match mapO (fun _ : Nat => shOf P n e) (List.range k) with
   | some sss => if segOk P 0 ((List.range k).map fun i => (i * P.cellsOf e, e)) sss && sss.flatten.length == P.cellsOf t then some sss.flatten else none
   | none => none
  | _ => none
inductive All3 (w : World) (n0 : Nat) : List Value → List FV → List Sh → Prop
 | nil : All3 w n0 [] [] []
 | cons {v : Value} {f : FV} {s : Sh} {vs : List Value} {fs : List FV} {ss : List Sh} (a : RepF w (fun _ => False) n0 v f) (b : v.oneCell' = true) (c : Fit s f) (r : All3 w n0 vs fs ss) : All3 w n0 (v :: vs) (f :: fs) (s :: ss)
theorem All3.append {w : World} {n0 : Nat} {v1 v2 : List Value} {f1 f2 : List FV} {s1 s2 : List Sh} (h : All3 w n0 v1 f1 s1) (h' : All3 w n0 v2 f2 s2) : All3 w n0 (v1 ++ v2) (f1 ++ f2) (s1 ++ s2) := by
 induction h with
 | nil => exact h'
 | cons a b c r ih => exact .cons a b c ih
theorem All3.len {w : World} {n0 : Nat} {v : List Value} {f : List FV} {s : List Sh} (h : All3 w n0 v f s) : v.length = s.length ∧ f.length = s.length := by
 induction h with
 | nil => exact ⟨rfl, rfl⟩
 | cons a b c r ih => simp [ih.1, ih.2]
theorem All3.get {w : World} {n0 : Nat} {v : List Value} {f : List FV} {s : List Sh} (h : All3 w n0 v f s) : ∀ i (h1 : i < v.length) (h2 : i < f.length) (h3 : i < s.length), RepF w (fun _ => False) n0 v[i] f[i] ∧ (v[i]).oneCell' = true ∧ Fit s[i] f[i] := by
 induction h with
 | nil => intro i h1; exact absurd h1 (by simp)
 | cons a b c r ih =>
  intro i h1 h2 h3
  cases i with
  | zero => exact ⟨a, b, c⟩
  | succ i => exact ih i (by simpa using h1) (by simpa using h2) (by simpa using h3)
section
variable {H : Type} {enc : TypeId × Value → H} {P : Program} {w : World} {n0 : Nat}
theorem mapO_get {α β : Type} {f : α → Option β} : ∀ {l : List α} {bs : List β}, mapO f l = some bs → bs.length = l.length ∧ ∀ i (h1 : i < l.length) (h2 : i < bs.length), f l[i] = some bs[i]
 | [], bs, h => by simp only [mapO, Option.some.injEq] at h; subst h; exact ⟨rfl, fun i h1 => absurd h1 (by simp)⟩
 | a :: r, bs, h => by
  simp only [mapO] at h
  split at h
  ·rename_i b cs hb hc
   simp only [Option.some.injEq] at h; subst h
   obtain ⟨h1, h2⟩ := mapO_get hc
   refine ⟨by simp [h1], fun i p q => ?_⟩
   cases i with
   | zero => exact hb
   | succ i => exact h2 i (by simpa using p) (by simpa using q)
  ·cases h
theorem weightsEach_mem {ts : List TypeId} {ds : List (DataW H)} {m : Nat} : ∀ {i : Nat} {t : TypeId} {d : DataW H}, ts[i]? = some t → ds[i]? = some d → m ∈ d.weights P t → m ∈ DataW.weightsEach P ts ds := fun ht hd hm => DataW.weights_mem_each ht hd m hm
theorem weightsAll_mem {e : TypeId} {m : Nat} : ∀ {ds : List (DataW H)} {i : Nat} {d : DataW H}, ds[i]? = some d → m ∈ d.weights P e → m ∈ DataW.weightsAll P e ds
 | [], i, d, h, _ => by simp at h
 | x :: r, i, d, h, hm => by
  simp only [DataW.weightsAll, List.mem_append]
  cases i with
  | zero => simp only [List.getElem?_cons_zero, Option.some.injEq] at h; subst h; exact .inl hm
  | succ i => exact .inr (weightsAll_mem (by simpa using h) hm)
theorem spot_of {a : Addr} {v : Value} (h : w.cell? a = some v) : a.spot = none := by
 unfold World.cell? at h
 split at h
 ·cases hs : a.spot with
  | none => rfl
  | some k => simp [hs] at h
 ·cases h
theorem reps_nil' {A : Nat → Prop} {ρ : Nat → Value} : Reps w A n0 ρ [] [] := ⟨rfl, fun i a => absurd a (by simp)⟩
theorem reps_cons' {A : Nat → Prop} {ρ : Nat → Value} {v : Value} {h : HV} {vs : List Value} {hs : List HV} (a : RepH w A n0 ρ v h) (b : Reps w A n0 ρ vs hs) : Reps w A n0 ρ (v :: vs) (h :: hs) :=
 ⟨by simp [b.1], fun i p q => by
  cases i with
  | zero => exact a
  | succ i => exact b.2 i (by simpa using p) (by simpa using q)⟩
theorem cell_string {t : TypeId} {v : Value} {r : Reach} {b0 : Nat} (ht : P.underlying t = some .string) (hv : Value.okWide P w r b0 t v) : v.oneCell' = true := by obtain ⟨s, rfl⟩ := okWide_string ht hv; rfl
theorem all_le {l : List Nat} {m : Nat} (h : l.all (· ≤ reachBytes) = true) (hm : m ∈ l) : m ≤ reachBytes := by simpa using List.all_eq_true.1 h m hm
end
theorem fit_str {f : FV} (h : Fit .str f) : ∃ s : ByteArray, f = .v (.string s) ∧ s.size ≤ reachBytes := by cases h with | str h => exact ⟨_, rfl, h⟩
end Go.Eng
end

section
set_option linter.unusedVariables false
set_option linter.unusedSimpArgs false
namespace Go.Eng
open Go Go.RowKit Go.ChangeShapes Go.WideShapes
def fw : FV → Nat
 | .v (.string s) => s.size + 1
 | .v _ => 1
 | .lst _ xs => 1 + (xs.map fun x => (x.map fw).sum).sum
termination_by x => SizeOf.sizeOf x
decreasing_by
 rename_i h1 _ h2
 have a := List.sizeOf_lt_of_mem h1
 have b := List.sizeOf_lt_of_mem h2
 simp only [FV.lst.sizeOf_spec]
 omega
def fws (l : List FV) : Nat := (l.map fw).sum
theorem fw_lst (fr : Bool) (xs : List (List FV)) : fw (.lst fr xs) = 1 + (xs.map fws).sum := by rw [fw]; rfl
theorem fws_app (a b : List FV) : fws (a ++ b) = fws a + fws b := by simp [fws]
theorem sum_le : ∀ (a b : List Nat), a.length = b.length → (∀ i (h1 : i < a.length) (h2 : i < b.length), a[i] ≤ b[i]) → a.sum ≤ b.sum
 | [], [], _, _ => Nat.le_refl _
 | x :: a, y :: b, h, hi => by
  have h0 := hi 0 (by simp) (by simp)
  have := sum_le a b (by simpa using h) (fun i p q => by have := hi (i + 1) (by simpa using p) (by simpa using q); simpa using this)
  simp only [List.getElem_cons_zero] at h0
  simp only [List.sum_cons]; omega
 | [], y :: b, h, _ => by simp at h
 | x :: a, [], h, _ => by simp at h
structure Bulk {H : Type} (BK : DataW H → Nat) : Prop where
 one : ∀ d, 1 ≤ BK d
 str : ∀ b, b.length + 1 ≤ BK (.lit (.string b))
 sl : ∀ es rest, 1 + (es.map BK).sum ≤ BK (.slice es rest)
 ag : ∀ xs, (xs.map BK).sum ≤ BK (.agg xs)
section
variable {H : Type} {enc : TypeId × Value → H} {P : Program} {w : World} {n0 : Nat}
theorem segs_fitU (cs : List Value) : ∀ (segs : List (Nat × TypeId)) (sss : List (List Sh)) (bs : List Nat) (o : Nat), segs.length = bs.length → segOk P o segs sss = true → (cs.drop o).length = sss.flatten.length →
  (∀ i (h1 : i < segs.length) (h2 : i < sss.length) (h3 : i < bs.length), ∃ fs, All3 w n0 ((cs.drop segs[i].1).take (P.cellsOf segs[i].2)) fs sss[i] ∧ fws fs ≤ bs[i]) → ∃ fs, All3 w n0 (cs.drop o) fs sss.flatten ∧ fws fs ≤ bs.sum
 | [], [], [], o, _, _, hl, _ => by
  have : cs.drop o = [] := List.eq_nil_of_length_eq_zero (by simpa using hl)
  rw [this]; exact ⟨[], .nil, by simp [fws]⟩
 | [], _, b :: bs, o, h, _, _, _ => by simp at h
 | [], s :: rs, [], o, _, h, _, _ => by simp [segOk] at h
 | p :: r, _, [], o, h, _, _, _ => by simp at h
 | p :: r, [], b :: bs, o, _, h, _, _ => by obtain ⟨a, b⟩ := p; simp [segOk] at h
 | (off, t) :: r, s :: rs, b :: bs, o, hbl, h, hl, hs => by
  simp only [segOk, Bool.and_eq_true, beq_iff_eq] at h
  obtain ⟨⟨rfl, h2⟩, h3⟩ := h
  obtain ⟨f0, a0, c0⟩ := hs 0 (by simp) (by simp) (by simp)
  simp only [List.getElem_cons_zero, ← h2] at a0 c0
  simp only [List.flatten_cons, List.length_append] at hl
  have hl' : (cs.drop (off + s.length)).length = rs.flatten.length := by simp at hl ⊢; omega
  obtain ⟨f1, a1, c1⟩ := segs_fitU cs r rs bs (off + s.length) (by simpa using hbl) h3 hl' (fun i p q z => by
   have := hs (i + 1) (by simpa using p) (by simpa using q) (by simpa using z)
   simpa using this)
  refine ⟨f0 ++ f1, ?_, by rw [fws_app, List.sum_cons]; omega⟩
  have e : cs.drop off = (cs.drop off).take s.length ++ cs.drop (off + s.length) := by
   rw [← List.drop_drop, List.take_append_drop]
  rw [e, List.flatten_cons]
  exact a0.append a1
theorem trod_fitU {BK : DataW H → Nat} (hB : Bulk BK) : ∀ (n : Nat) (t : TypeId) (ss : List Sh) (fuel : Nat) (cs : List Value) (x : DataW H × List MemPlace), shOf P n t = some ss → DataW.trod enc P w 0 (fun _ => true) true fuel t cs = some x → (∀ m ∈ x.1.weights P t, m ≤ reachBytes) →
  ∃ fs, All3 w n0 cs fs ss ∧ fws fs ≤ BK x.1
 | 0, t, ss, fuel, cs, x, h, _, _ => by simp [shOf] at h
 | n + 1, t, ss, fuel, cs, x, h, ht, hw => by
  rw [shOf] at h
  split at h
  ·rename_i hu
   simp only [Option.some.injEq] at h; subst h
   obtain ⟨b, rfl, -⟩ := DataW.trod_bool hu ht
   exact ⟨_, .cons (.v _) rfl (.bool b) .nil, by simp [fws, fw]; exact hB.one _⟩
  ·rename_i k hu
   simp only [Option.some.injEq] at h; subst h
   obtain ⟨m, rfl, -, hwf⟩ := DataW.trod_int hu ht
   exact ⟨_, .cons (.v _) rfl (.int hwf) .nil, by simp [fws, fw]; exact hB.one _⟩
  ·rename_i hu
   simp only [Option.some.injEq] at h; subst h
   obtain ⟨s, rfl, rfl, hs⟩ := DataW.trod_string hu ht
   have := hw s.size (by simp [DataW.weights])
   exact ⟨_, .cons (.v _) rfl (.str this) .nil, by simp [fws, fw]; have := hB.str s.data.toList; simpa using this⟩
  ·rename_i e hu
   split at h
   ·rename_i es hes
    split at h
    ·rename_i hc
     simp only [Bool.and_eq_true, beq_iff_eq, Nat.blt_eq] at hc
     obtain ⟨hc1, hc2⟩ := hc
     simp only [Option.some.injEq] at h; subst h
     rcases DataW.trod_slice hu ht with ⟨rfl, -⟩ | ⟨a, len, cap, elems, rest, m, rfl, rfl, rfl, -, hlc, hcm, hel, hat, -, -⟩
     ·exact ⟨_, .cons (.lst (xs := []) 0 (fun _ _ => .bool false) rfl (Nat.le_refl _) (Nat.zero_le _) (fun _ => rfl) (by simp) (fun h => absurd h (Nat.lt_irrefl _)) (fun i k hi => absurd hi (Nat.not_lt_zero _)) (fun i k hi => absurd hi (by simp))) rfl (.sl (by simp) (by simp) (by simp)) .nil, by simp [fws, fw]; exact hB.one _⟩
     ·have hwt := hw ((elems.length + rest.length) * P.bytesOf e) (by simp [DataW.weights, hu])
      have one : ∀ i, i < len → ∃ ci fi, w.cells? 0 (a.add (i * P.cellsOf e)) (P.cellsOf e) = some ci ∧ All3 w n0 ci fi es ∧ ∀ (h : i < elems.length), fws fi ≤ BK (elems[i]).1 := fun i hi => by
       have hx := hat i hi
       rw [List.getElem?_eq_getElem (by omega)] at hx
       obtain ⟨ci, h1, h2⟩ := Option.bind_eq_some_iff.1 hx
       obtain ⟨fi, h3, h4⟩ := trod_fitU hB n e es m ci elems[i] hes h2 (fun q hq => hw q (by
        simp only [DataW.weights, hu, List.mem_cons, List.mem_append]
        exact .inr (.inl (weightsAll_mem (i := i) (by simp [hel, hi]) hq))))
       exact ⟨ci, fi, h1, h3, fun _ => h4⟩
      have hcs : ∀ i, ∃ p : List Value × List FV, i < len → w.cells? 0 (a.add (i * P.cellsOf e)) (P.cellsOf e) = some p.1 ∧ All3 w n0 p.1 p.2 es ∧ ∀ (h : i < elems.length), fws p.2 ≤ BK (elems[i]).1 := fun i => by
       by_cases hi : i < len
       ·obtain ⟨ci, fi, h1, h2⟩ := one i hi; exact ⟨(ci, fi), fun _ => ⟨h1, h2⟩⟩
       ·exact ⟨([], []), fun h => absurd h hi⟩
      obtain ⟨g, hg⟩ := Classical.axiomOfChoice hcs
      have hlen : ∀ i, i < len → (g i).1.length = es.length ∧ (g i).2.length = es.length := fun i hi => (hg i hi).2.1.len
      have hxl : ((List.range len).map fun i => (g i).2).length = len := by simp
      have hcell : ∀ i k (hi : i < len) (hk : k < es.length), w.cell? ((a.add (i * P.cellsOf e)).add k) = some ((g i).1.getD k (.bool false)) := fun i k hi hk => by
       have h1 := (hg i hi).1
       unfold World.cells? at h1
       rw [if_pos (Nat.zero_le _)] at h1
       have := mapM_some_get h1 k k (by rw [List.getElem?_range (by omega)])
       rw [this]
       have h2 := (hlen i hi).1
       rw [List.getD_eq_getElem?_getD, List.getElem?_eq_getElem (by omega)]; rfl
      have hspot : 0 < len → a.spot = none := fun h0 => by
       have := spot_of (hcell 0 0 h0 hc2)
       obtain ⟨b, o, s⟩ := a
       cases s with
       | none => rfl
       | some y => simp [Addr.add] at this
      refine ⟨_, .cons (.lst (xs := (List.range len).map fun i => (g i).2) es.length (fun i k => (g i).1.getD k (.bool false)) hxl hlc hcm (fun h => by cases h) (fun x hx => ?_) (fun h0 => ?_) (fun i k hi hk => ?_) (fun i k hi hk => ?_)) rfl (.sl ?_ (fun x hx => ?_) (fun x hx i h1 h2 => ?_)) .nil, ?_⟩
      ·obtain ⟨i, hi, rfl⟩ := List.mem_map.1 hx
       exact (hlen i (List.mem_range.1 hi)).2
      ·have hs := hspot h0
       obtain ⟨b, o, s⟩ := a
       simp only at hs
       subst hs
       have h00 := hcell 0 0 h0 hc2
       refine ⟨b, o, rfl, fun h => h, ?_, fun h => by (cases h), fun i k hi hk => ?_⟩
       ·simp only [Addr.add_lit] at h00
        exact World.block_lt_of_cell? w _ h00
       ·have := hcell i k hi hk
        simp only [Addr.add_lit] at this
        rw [← this, hc1, Nat.add_assoc]
      ·have h2 := (hlen i hi).1
       rw [List.getD_eq_getElem?_getD, List.getElem?_eq_getElem (by omega)]
       have := ((hg i hi).2.1.get k (by omega) (by have := (hlen i hi).2; omega) hk).2.1
       exact this
      ·have hi' : i < len := by simpa using hi
       simp only [List.getElem_map, List.getElem_range] at hk ⊢
       have h2 := hlen i hi'
       rw [List.getD_eq_getElem?_getD, List.getElem?_eq_getElem (by omega)]
       exact ((hg i hi').2.1.get k (by omega) hk (by omega)).1
      ·rw [hxl]
       refine Nat.le_trans (Nat.mul_le_mul_right _ (by omega)) hwt
      ·obtain ⟨i, hi, rfl⟩ := List.mem_map.1 hx
       exact (hlen i (List.mem_range.1 hi)).2
      ·obtain ⟨j, hj, rfl⟩ := List.mem_map.1 hx
       have hj' := List.mem_range.1 hj
       have h3 := hlen j hj'
       exact ((hg j hj').2.1.get i (by omega) h2 h1).2.2
      ·have hsum : ((List.range len).map fun i => fws (g i).2).sum ≤ (elems.map fun x => BK x.1).sum := by
        refine sum_le _ _ (by simp [hel]) fun i h1 h2 => ?_
        have hi' : i < len := by simpa using h1
        simp only [List.getElem_map, List.getElem_range]
        exact (hg i hi').2.2 (by omega)
       have h3 := hB.sl (elems.map (·.1)) (rest.map (·.1))
       rw [List.map_map] at h3
       simp only [fws, List.map_cons, List.map_nil, List.sum_cons, List.sum_nil, fw_lst, List.map_map]
       simp only [Function.comp_def] at h3 ⊢
       have : ((List.range len).map fun i => ((g i).2.map fw).sum) = ((List.range len).map fun i => fws (g i).2) := rfl
       simp only [fws] at hsum ⊢
       omega
    ·cases h
   ·cases h
  ·rename_i fs hu
   split at h
   ·rename_i sss hsss
    split at h
    ·rename_i hc
     simp only [Bool.and_eq_true, beq_iff_eq] at hc
     simp only [Option.some.injEq] at h; subst h
     obtain ⟨xs, m, rfl, rfl, hcl, hxl, hat⟩ := DataW.trod_struct hu ht
     obtain ⟨m1, m2⟩ := mapO_get hsss
     obtain ⟨fq, q1, q2⟩ := segs_fitU (P := P) (w := w) (n0 := n0) cs _ sss (xs.map fun x => BK x.1) 0 (by simp [hxl]) hc.1 (by rw [List.drop_zero, hcl, hc.2]) (fun i p q q0 => by
      simp only [List.length_map, Array.length_toList] at p
      simp only [List.getElem_map, Array.getElem_toList]
      have hx := hat i fs[i] (Array.getElem?_eq_getElem p)
      rw [List.getElem?_eq_getElem (by omega)] at hx
      refine trod_fitU hB n _ sss[i] m _ xs[i] ?_ hx (fun z hz => hw z ?_)
      ·have := m2 i (by simpa using p) q
       simpa using this
      ·simp only [DataW.weights, hu]
       exact weightsEach_mem (i := i) (t := fs[i].type) (d := xs[i].1) (by simp [p]) (by simp [hxl, p]) hz)
     refine ⟨fq, by simpa using q1, Nat.le_trans q2 ?_⟩
     have h3 := hB.ag (xs.map (·.1))
     rw [List.map_map] at h3
     exact h3
    ·cases h
   ·cases h
  ·rename_i k e hu
   split at h
   ·rename_i sss hsss
    split at h
    ·rename_i hc
     simp only [Bool.and_eq_true, beq_iff_eq] at hc
     simp only [Option.some.injEq] at h; subst h
     obtain ⟨xs, m, rfl, rfl, hcl, hxl, hat⟩ := DataW.trod_array hu ht
     obtain ⟨m1, m2⟩ := mapO_get hsss
     obtain ⟨fq, q1, q2⟩ := segs_fitU (P := P) (w := w) (n0 := n0) cs _ sss (xs.map fun x => BK x.1) 0 (by simp [hxl]) hc.1 (by rw [List.drop_zero, hcl, hc.2]) (fun i p q q0 => by
      simp only [List.length_map, List.length_range] at p
      simp only [List.getElem_map, List.getElem_range]
      have hx := hat i p
      rw [List.getElem?_eq_getElem (by omega)] at hx
      refine trod_fitU hB n _ sss[i] m _ xs[i] ?_ hx (fun z hz => hw z ?_)
      ·exact m2 i (by simpa using p) q
      ·simp only [DataW.weights, hu]
       exact weightsAll_mem (i := i) (d := xs[i].1) (by simp [hxl, p]) hz)
     refine ⟨fq, by simpa using q1, Nat.le_trans q2 ?_⟩
     have h3 := hB.ag (xs.map (·.1))
     rw [List.map_map] at h3
     exact h3
    ·cases h
   ·cases h
  ·cases h
theorem open_oneU {BK : DataW H → Nat} (hB : Bulk BK) {n : Nat} {t : TypeId} {s : Sh} {v : Value} {d : DataW H} {p : List MemPlace} (hs : shOf P n t = some [s]) (hv : v.oneCell' = true) (h : DataW.Trod enc P w 0 (fun _ => true) true t v d p) (hw : ∀ m ∈ d.weights P t, m ≤ reachBytes) :
  ∃ f, RepF w (fun _ => False) n0 v f ∧ Fit s f ∧ fw f ≤ BK d := by
 obtain ⟨fuel, hf⟩ := h
 obtain ⟨fs, h3, h4⟩ := trod_fitU (n0 := n0) hB n t _ fuel _ _ hs hf hw
 rw [cells_one hv] at h3
 cases h3 with
 | cons a b c r =>
  cases r
  exact ⟨_, a, c, by simpa [fws] using h4⟩
end
end Go.Eng
end
