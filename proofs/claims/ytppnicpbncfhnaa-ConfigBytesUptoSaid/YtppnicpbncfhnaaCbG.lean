/-
  Settings that are handed in, opened.
-/
import Derived.Test.YtppnicpbncfhnaaCbF
import Derived.Test.YtppnicpbncfhnaaUpt
import Derived.Test.YtppnicpbncfhnaaGd
set_option linter.unusedVariables false
set_option linter.unusedSimpArgs false
namespace Go.Proofs.Ytppnicpbncfhnaa
open Go Go.Eng Go.RowKit Go.ChangeShapes Go.WideShapes Go.ChangeAt Go.Cb
theorem all_nums {w : World} {n0 : Nat} : ∀ {k : Nat} {cs : List Value} {fs : List FV}, All3 w n0 cs fs (List.replicate k (.int .i64)) → ∃ l : List Int, l.length = k ∧ cs = l.map (fun n => Value.int .i64 n) ∧ ∀ n ∈ l, I64 n
  | 0, cs, fs, h => by
    cases h
    exact ⟨[], rfl, rfl, fun n hn => by cases hn⟩
  | k + 1, cs, fs, h => by
    rw [List.replicate_succ] at h
    cases h with
    | cons a b c r =>
      obtain ⟨l, h1, h2, h3⟩ := all_nums r
      cases c with
      | int hm =>
        cases a
        rename_i n
        refine ⟨n :: l, by simp [h1], by rw [h2]; rfl, fun m hm' => ?_⟩
        rcases List.mem_cons.1 hm' with rfl | hm'
        · simp only [Lit.wf, Bool.and_eq_true, decide_eq_true_eq] at hm; exact hm
        · exact h3 m hm'
theorem open_set {H : Type} {enc : TypeId × Value → H} {P : Program} {w W : World} {n0 n base : Nat} {R : Reach} {BK : DataW H → Nat} (hB : Bulk BK) {t : TypeId} {fs : Array Field} {v : Value} {d : DataW H} {p : List MemPlace}
    (hs : shOf P n t = some (List.replicate 17 (.int .i64))) (hu : P.underlying t = some (.struct fs)) (hv : Value.okWide P W R base t v) (h : DataW.Trod enc P w 0 (fun _ => true) true t v d p) (hw : ∀ m ∈ d.weights P t, m ≤ reachBytes) :
    ∃ a : List Int, RepH w (fun _ => False) n0 (fun _ => undef) v (.agg (nums a)) ∧ a.length = 17 ∧ ∀ n ∈ a, I64 n := by
  unfold Value.okWide at hv
  rw [hu] at hv
  obtain ⟨cs, rfl, -, -⟩ := hv
  obtain ⟨fuel, hf⟩ := h
  obtain ⟨gs, h3, h4⟩ := trod_fitU (n0 := n0) hB n t _ fuel _ _ hs hf hw
  have e : (Value.agg cs).cells.toList = cs.toList := rfl
  rw [e] at h3
  obtain ⟨l⟩ := cs
  dsimp only at h3
  obtain ⟨a, h5, rfl, h6⟩ := all_nums h3
  refine ⟨a, .agg (by simp [nums]) (fun j hj => ?_) (fun j h1 h2 => ?_), h5, h6⟩
  · simp only [List.getElem_toArray, List.getElem_map]; rfl
  · simp only [List.getElem_toArray, List.getElem_map, nums]; exact .v _
theorem configBytes_U (c : List Int) (b : ByteArray) (hc : c.length = 17) (hi : ∀ n ∈ c, I64 n) (hu : fw (.v (.string b)) ≤ 1048576) : HFun Try.prog 13 [.agg (nums c), .v (.string b)] (fun h st => h = .v (.bool true)) := by
  rw [fw_str] at hu
  exact configBytes_H c b hc hi (by omega)
end Go.Proofs.Ytppnicpbncfhnaa
