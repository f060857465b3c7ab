/-
  diff.Script over values; the walk of diff.Kept.
-/
import Derived.Test.YtfojmpimnidmkaaGc
import Derived.Test.YtfojmpimnidmkaaTyH
import Derived.Test.YtfojmpimnidmkaaScript
import Derived.Test.YtfojmpimnidmkaaDiffL
set_option linter.unusedSimpArgs false
set_option linter.unusedVariables false
set_option maxRecDepth 20000
namespace Go.Proofs.Ytfojmpimnidmkaa
open Go Go.Eng Go.RowKit Go.DiffM

def editE (r : Nat × Nat) : List FV := [.v (.int .i64 r.1), .v (.int .i64 r.2)]
def edits (l : List (Nat × Nat)) : List (List FV) := l.map editE
theorem edits_len (l : List (Nat × Nat)) : (edits l).length = l.length := by simp [edits]
theorem edits_get {l : List (Nat × Nat)} {i : Nat} {d : List FV} (h : i < l.length) : (edits l).getD i d = [.v (.int .i64 (l[i].1 : Nat)), .v (.int .i64 (l[i].2 : Nat))] := by unfold edits; rw [getD_map h]; rfl
theorem repF_strs {w : World} {v : Value} {fr : Bool} {a : List ByteArray} {A : Nat → Prop} {n0 : Nat} (h : RepF w A n0 v (.lst fr (strs a))) : SlS w v a := by
 cases h with
 | lst sz vals hn hc hm hnil hsz ha h1 hr =>
 rw [strs_len] at hn
 subst hn
 refine ⟨_, _, rfl, hc, hm, fun h0 => ?_⟩
 obtain ⟨b, off, rfl, -, -, -, hcell⟩ := ha h0
 refine ⟨b, off, rfl, fun j hj => ?_⟩
 have hj' : j < a.length := by omega
 have hsz1 : sz = 1 := by rw [← hsz _ (List.getElem_mem (show 0 < (strs a).length by rw [strs_len]; omega))]; simp [strs, strE]
 subst hsz1
 have := hcell j 0 hj' (by omega)
 simp only [Nat.mul_one, Nat.add_zero] at this
 rw [this]
 have hr' := hr j 0 (by rw [strs_len]; exact hj') (by simp [strs, strE])
 simp only [strs, List.getElem_map, strE, List.getElem_cons_zero] at hr'
 have e : vals j 0 = .string a[j] := by
  generalize vals j 0 = u at hr'
  cases hr'; rfl
 rw [e]
 simp [List.getD_eq_getElem?_getD, hj']
theorem rep_strs {w : World} {v : Value} {fr : Bool} {a : List ByteArray} {A : Nat → Prop} {n0 : Nat} {ρ : Nat → Value} (h : RepH w A n0 ρ v (.lst fr (strs a))) : SlS w v a := by
 cases h with
 | lst h => exact repF_strs h
theorem script_H (a b : List ByteArray) : HFun Try.prog 10 [.lst false (strs a), .lst false (strs b)] (fun h st =>
  (400 < a.length ∨ 400 < b.length) ∧ h = .tup [.v (.slice none 0 0), .v (.int .i64 4)] ∧ st = [] ∨
  a.length ≤ 400 ∧ b.length ≤ 400 ∧ h = .tup [.own 0, .v (.int .i64 0)] ∧ st = [(0, .sl true 42 2 (edits (script a b)))]) := by
 intro w vs R
 obtain ⟨v1, v2, rfl⟩ : ∃ v1 v2, vs = [v1, v2] := by
  match vs, R.1 with
  | [x, y], _ => exact ⟨x, y, rfl⟩
 refine Ret.mono (script_calls w v1 v2 a b (rep_strs (R.2 0 (by simp) (by simp))) (rep_strs (R.2 1 (by simp) (by simp)))) fun v w' ⟨B, h⟩ => ⟨B, ?_⟩
 rcases h with ⟨h1, rfl⟩ | ⟨h1, h2, x, rfl, hE⟩
 ·refine ⟨_, _, fun i r hi => ?_, .inl ⟨h1, rfl, rfl⟩, fun _ => undef, fun _ => [], ⟨fun id r hr => by simp [rlk] at hr, fun i j r s b hne hi => by simp [rlk] at hi, fun k x hk => by simp [hlk] at hk, ⟨B.os, B.tape, B.output, B.size, fun b hlt _ => B.block b hlt⟩, fun b hb => ⟨hb, fun h => h⟩⟩, ?_⟩
  ·simp [rlk] at hi
  ·exact .tup rfl fun j p q => by
    match j, q with
    | 0, _ => exact .v _
    | 1, _ => exact .v _
 ·obtain ⟨ρ, xs, G, hρ⟩ := res_own (P := Try.prog) (els := edits (script a b)) B (show Own w' w.heap.size 42 2 x (edits (script a b)).length (eCells (script a b)) by rw [edits_len]; exact hE) (fun y hy => by
   obtain ⟨r, -, rfl⟩ := List.mem_map.1 hy; rfl) (fun i k hi hk => by
   rw [edits_len] at hi
   have h1 := eCells_one (script a b) i hi
   have hk' : k < 2 := by simpa [edits, editE] using hk
   have : k = 0 ∨ k = 1 := by omega
   rcases this with rfl | rfl
   ·exact ⟨_, h1.1, rfl, by simp [edits, editE]⟩
   ·exact ⟨_, h1.2, rfl, by simp [edits, editE]⟩)
  refine ⟨_, _, fun i r hi => ?_, .inr ⟨h1, h2, rfl, rfl⟩, ρ, xs, G, ?_⟩
  ·simp only [rlk] at hi
   split at hi
   ·omega
   ·cases hi
  ·refine .tup rfl fun j p q => ?_
   match j, q with
   | 0, _ =>
    have hs : x.oneCell' = true := by obtain ⟨a, c, e⟩ := own_shape (base := w.heap.size) hE; rw [e]; rfl
    have := RepH.own (w := w') (A := Ctx.A (cx w (fun _ => False) (fun b => b < w.heap.size)) ρ [(0, .sl true 42 2 (edits (script a b)))]) (n0 := w.heap.size) (ρ := ρ) 0 (by rw [hρ]; exact hs)
    rw [hρ] at this
    exact this
   | 1, _ => exact .v _
def keptR : List (Nat × Nat) → Nat → Nat → List (Int × Int)
 | [], _, _ => []
 | (op, n) :: r, i, j => if op = 0 then (List.range n).map (fun (k : Nat) => (((i + k : Nat) : Int), ((j + k : Nat) : Int))) ++ keptR r (i + n) (j + n) else if op = 1 then keptR r (i + n) j else if op = 2 then keptR r i (j + n) else keptR r i j
def keptP (a b : List ByteArray) : List (Int × Int) := keptR (script a b) 0 0
abbrev rowE (l : List (Nat × Nat)) : Row := .sl true 42 2 (edits l)
abbrev rowP (l : List (Int × Int)) : Row := .sl true 59 2 (int2s l)
end Go.Proofs.Ytfojmpimnidmkaa
