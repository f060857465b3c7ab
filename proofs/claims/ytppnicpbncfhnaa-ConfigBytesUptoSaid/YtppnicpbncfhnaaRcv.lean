/-
  A function that is handed a variable by pointer, with plain values in it: its body.
-/
import Derived.Test.YtppnicpbncfhnaaGc
set_option linter.unusedSimpArgs false
set_option linter.unusedVariables false
namespace Go.Eng
open Go Go.RowKit
inductive PlainH : HV → Prop
  | v (x : Value) : PlainH (.v x)
  | tup (xs : List Value) : PlainH (.tup (xs.map .v))
/-- the variable that is handed in lies there -/
abbrev cxg (w : World) (g : Nat) : Ctx := ⟨w, fun b => b = g, fun _ => False, w.heap.size, Nat.le_refl _, fun _ g' => g' = g⟩
section
variable {P : Program} {N : Nat} {w w' : World} {A A' : Nat → Prop} {n0 n1 : Nat} {ρ ρ' : Nat → Value}
theorem RepH.plain {v : Value} {h : HV} (hr : RepH w A n0 ρ v h) (hp : PlainH h) : RepH w' A' n1 ρ' v h := by
  cases hp with
  | v x => have := repH_v hr; subst this; exact .v _
  | tup xs =>
    cases hr with
    | tup hn h =>
    refine .tup hn fun j a b => ?_
    have := h j a b
    simp only [List.getElem_map] at this ⊢
    have e := repH_v this
    rw [e]; exact .v _
/-- what it answers, and what stands in the variable then -/
def HRcv (P : Program) (f : FuncId) (ty : Nat) (cells : List Value) (args : List Value) (Q : HV → List Value → Prop) : Prop :=
  ∀ (w : World) (g : Nat), Own w 0 ty cells.length (.slice (some ⟨g, 0, none⟩) 1 1) 1 cells → (∀ u ∈ cells, u.oneCell' = true) →
    Calls P f ((Value.pointer (some ⟨g, 0, none⟩)) :: args).toArray w (Ret fun v w' => Kept (fun b => b = g) w w' ∧ ∃ h cells', Q h cells' ∧ PlainH h ∧ cells'.length = cells.length ∧ (∀ u ∈ cells', u.oneCell' = true) ∧
      Own w' 0 ty cells.length (.slice (some ⟨g, 0, none⟩) 1 1) 1 cells' ∧ RepH w' (fun _ => False) w'.heap.size (fun _ => undef) v h)
def hrcvK (ty n : Nat) (Q : HV → List Value → Prop) (S : HS) (h : HV) : Prop := PlainH h ∧ ∃ cells', rlk S.st 0 = some (.bx false ty (cells'.map .v)) ∧ cells'.length = n ∧ Q h cells'
def hrcvQ (P : Program) (rs : List ResultVar) (ty n : Nat) (Q : HV → List Value → Prop) : HPost
  | .normal, S => resH P S rs fun hs => hrcvK ty n Q S (htup hs)
  | .ret, S => resH P S rs fun hs => hrcvK ty n Q S (htup hs)
  | _, _ => False
theorem rlk_one {r s : Row} {i : Nat} (h : rlk [(0, r)] i = some s) : i = 0 ∧ s = r := by
  simp only [rlk] at h
  by_cases e : 0 = i
  · rw [if_pos e] at h; exact ⟨e.symm, (Option.some.inj h).symm⟩
  · rw [if_neg e] at h; cases h
theorem hrcv {f : FuncId} {fn : Func} {x : Code} {ty : Nat} {cells args : List Value} {rs : Array ResultVar} {Q : HV → List Value → Prop} (hf : P.funcs[f]? = some fn) (hb : fn.body = some x) (hN : fn.ntmps = N) (hrs : fn.results = rs) (hle : args.length + 1 ≤ N)
    (h : HW P N x (hrcvQ P rs.toList ty cells.length Q) ⟨argsH 0 (.ptr 0 cells.length 0 0 :: args.map .v), [(0, .bx false ty (cells.map .v))]⟩) : HRcv P f ty cells args Q := fun w g O h1 => by
  refine calls_W hf hb hN hrs (by simpa using hle) ?_
  have I : Inv (cxg w g) ⟨argsH 0 (.ptr 0 cells.length 0 0 :: args.map .v), [(0, .bx false ty (cells.map .v))]⟩ (lk (argsE 0 (Value.pointer (some ⟨g, 0, none⟩) :: args))) w := by
    refine ⟨fun _ => .slice (some ⟨g, 0, none⟩) 1 1, fun _ => cells, fun id r hr => ?_, fun i j r s b hne hi hj => ?_, fun k hh hk => ?_, Kept.refl _ _, fun b hb => hb.elim⟩
    · obtain ⟨rfl, rfl⟩ := rlk_one hr
      refine ⟨by simpa [Row.ty, Row.sz, Row.len] using O, ⟨⟨g, rfl, fun _ => rfl⟩, fun k hk => ?_⟩, fun b hb => ⟨.inr ?_, fun h => by cases h⟩⟩
      · have hk' : k < cells.length := by simpa using hk
        exact ⟨cells[k], List.getElem?_eq_getElem hk', h1 _ (List.getElem_mem hk'), by rw [List.getElem_map]; exact .v _⟩
      · simp only [Value.ownBlock, Option.some.injEq] at hb; exact hb.symm
    · exact absurd ((rlk_one hi).1.trans (rlk_one hj).1.symm) hne
    · obtain ⟨-, h2⟩ := argsH_get _ 0 k hh hk
      rw [Nat.sub_zero] at h2
      cases k with
      | zero =>
        simp only [List.getElem?_cons_zero, Option.some.injEq] at h2
        subst h2
        refine ⟨.pointer (some ⟨g, 0, none⟩), argsE_at _ 0 0 _ (Nat.le_refl _) rfl, ?_⟩
        have := RepH.ptr (w := w) (A := Ctx.A (cxg w g) (fun _ => .slice (some ⟨g, 0, none⟩) 1 1) [(0, .bx false ty (cells.map .v))]) (n0 := w.heap.size) (ρ := fun _ => .slice (some ⟨g, 0, none⟩) 1 1) (id := 0) cells.length 0 0 rfl
        simpa using this
      | succ k =>
        simp only [List.getElem?_cons_succ, List.getElem?_map, Option.map_eq_some_iff] at h2
        obtain ⟨v, hv, rfl⟩ := h2
        exact ⟨v, argsE_at _ 0 (k + 1) _ (Nat.zero_le _) (by simpa using hv), .v _⟩
  refine (h _ _ _ I).mono fun e l' w' ⟨S', I', q⟩ => ?_
  obtain ⟨ρ, xs, G⟩ := I'
  have fin : resH P S' rs.toList (fun hs => hrcvK ty cells.length Q S' (htup hs)) → resE P l' w' rs.toList fun vs => Kept (fun b => b = g) w w' ∧ ∃ h cells', Q h cells' ∧ PlainH h ∧ cells'.length = cells.length ∧ (∀ u ∈ cells', u.oneCell' = true) ∧
      Own w' 0 ty cells.length (.slice (some ⟨g, 0, none⟩) 1 1) 1 cells' ∧ RepH w' (fun _ => False) w'.heap.size (fun _ => undef) (tup vs) h := fun hr =>
    resH_resE.resE_mono (resH_resE G _ _ hr) fun vs ⟨hs, ⟨hp, cells', hrow, hlen, hq⟩, hv⟩ => by
      have R := G.rows 0 _ hrow
      have o := R.own
      obtain ⟨⟨g', hg, hT⟩, hc⟩ := R.rep
      have : g' = g := hT rfl
      subst this
      simp only [Row.ty, Row.sz, Row.len, List.length_map] at o
      rw [hg] at o
      have hl := o.1
      rw [Nat.one_mul] at hl
      have hx : ∀ k (hk : k < cells'.length), (xs 0)[k]? = some cells'[k] ∧ cells'[k].oneCell' = true := fun k hk => by
        obtain ⟨u, u1, u2, u3⟩ := hc k (by simpa using hk)
        rw [List.getElem_map] at u3
        have := repH_v u3
        subst this
        exact ⟨u1, u2⟩
      have e : xs 0 = cells' := by
        apply List.ext_getElem?
        intro k
        by_cases hk : k < cells'.length
        · rw [(hx k hk).1, List.getElem?_eq_getElem hk]
        · rw [List.getElem?_eq_none (by omega), List.getElem?_eq_none (by omega)]
      rw [e, hlen] at o
      refine ⟨G.kept, _, cells', hq, hp, hlen, fun u hu => ?_, o, (htup_rep hv).plain hp⟩
      obtain ⟨k, hk, rfl⟩ := List.getElem_of_mem hu
      exact (hx k hk).2
  cases e with
  | normal => exact fin q
  | ret => exact fin q
  | _ => exact q.elim
end
end Go.Eng
