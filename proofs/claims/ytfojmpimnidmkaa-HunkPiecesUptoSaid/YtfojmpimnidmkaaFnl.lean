/-
  Leaves: a nil slice that is answered, as a row without elements; functions that make leaves and answer one plain value.
-/
import Derived.Test.YtfojmpimnidmkaaFvw
set_option linter.unusedSimpArgs false
set_option linter.unusedVariables false
namespace Go.Eng
open Go Go.RowKit
section
variable {P : Program} {N : Nat} {c c1 : Ctx} {F : List Leaf} {S S' : HS} {l : Env} {look look' : Nat → Option Value} {w w' : World} {ρ ρ' : Nat → Value} {xs xs' : Nat → List Value}
theorem tup_nil_rep {A : Nat → Prop} {n0 : Nat} {v cd : Value} (h : RepH w A n0 ρ v (.tup [.v (.slice none 0 0), .v cd])) : RepH w A n0 (fun _ => .slice none 0 0) v (.tup [.own 0, .v cd]) := by
 cases h with
 | tup hn h =>
 refine .tup hn fun j a b => ?_
 match j, b with
 | 0, _ =>
  have := h 0 a (by simp)
  simp only [List.getElem_cons_zero] at this ⊢
  have e := repH_v this
  rw [e]
  exact RepH.own (ρ := fun _ => .slice none 0 0) 0 rfl
 | 1, _ =>
  have := h 1 a (by simp)
  simp only [List.getElem_cons_succ, List.getElem_cons_zero] at this ⊢
  have e := repH_v this
  rw [e]
  exact .v _
theorem HFunF.nilOr {f : FuncId} {args : List HV} {E : Value → Prop} {R : HV → Store → List Leaf → Prop} (ty sz : Nat) (H : HFunF P f args (fun h st F => (∃ cd, E cd ∧ h = .tup [.v (.slice none 0 0), .v cd] ∧ st = [] ∧ F = []) ∨ R h st F)) :
  HFunF P f args (fun h st F => (∃ cd, E cd ∧ h = .tup [.own 0, .v cd] ∧ st = [(0, .hl true ty sz [])] ∧ F = []) ∨ R h st F) := fun w vs hr => Ret.mono (H w vs hr) fun v w' ⟨B, h, st, F, ρ, xs, h8, q, M, r⟩ => by
 rcases q with ⟨cd, hE, rfl, rfl, rfl⟩ | q
 ·refine ⟨B, .tup [.own 0, .v cd], [(0, .hl true ty sz [])], [], fun _ => .slice none 0 0, fun _ => [], fun i r hi => ?_, .inl ⟨cd, hE, rfl, rfl, rfl⟩, ⟨fun i r hi => ?_, fun i j r s b hne hi hj hb => (by cases hb), fun f hf => (by simp at hf), fun b ⟨f, hf, _⟩ => (by simp at hf), List.Pairwise.nil, fun b ⟨f, hf, _⟩ => (by simp at hf)⟩, tup_nil_rep r⟩
  ·simp only [rlk] at hi
   by_cases e : 0 = i
   ·omega
   ·rw [if_neg e] at hi; cases hi
  ·simp only [rlk] at hi
   by_cases e : 0 = i
   ·rw [if_pos e] at hi
    cases hi
    exact ⟨World.ownsRow_nil w' 0 ty sz, ⟨by simp, fun i k hi => absurd hi (by simp)⟩, fun b hb => by cases hb⟩
   ·rw [if_neg e] at hi; cases hi
 ·exact ⟨B, h, st, F, ρ, xs, h8, .inr q, M, r⟩
theorem HFunF.mono {f : FuncId} {args : List HV} {Q Q' : HV → Store → List Leaf → Prop} (h : HFunF P f args Q) (hq : ∀ h st F, Q h st F → Q' h st F) : HFunF P f args Q' :=
 fun w vs hr => Ret.mono (h w vs hr) fun v w' ⟨B, x, st', F, ρ, xs, h8, q, I⟩ => ⟨B, x, st', F, ρ, xs, h8, hq _ _ _ q, I⟩
theorem HFunV.mono {f : FuncId} {args : List HV} {Q Q' : HV → Store → Prop} (h : HFunV P f args Q) (hq : ∀ h st, Q h st → Q' h st) : HFunV P f args Q' :=
 fun w vs A n0 hn hA hr => Ret.mono (h w vs A n0 hn hA hr) fun v w' ⟨B, x, st', h8, q, I⟩ => ⟨B, x, st', h8, hq _ _ q, I⟩
theorem HFunV.nilOr {f : FuncId} {args : List HV} {E : Value → Prop} {R : HV → Store → Prop} (ty sz : Nat) (H : HFunV P f args (fun h st => (∃ cd, E cd ∧ h = .tup [.v (.slice none 0 0), .v cd] ∧ st = []) ∨ R h st)) :
  HFunV P f args (fun h st => (∃ cd, E cd ∧ h = .tup [.own 0, .v cd] ∧ st = [(0, .sl true ty sz [])]) ∨ R h st) := fun w vs A n0 hn hA hr => Ret.mono (H w vs A n0 hn hA hr) fun v w' ⟨B, h, st, h8, q, ρ, xs, G, r⟩ => by
 rcases q with ⟨cd, hE, rfl, rfl⟩ | q
 ·refine ⟨B, .tup [.own 0, .v cd], [(0, .sl true ty sz [])], fun i r hi => ?_, .inl ⟨cd, hE, rfl, rfl⟩, fun _ => .slice none 0 0, fun _ => [], ⟨fun i r hi => ?_, fun i j r s b hne hi hj hb => (by cases hb), fun k x hk => (by simp [hlk] at hk), G.kept, G.a0⟩, (tup_nil_rep r).up (Nat.le_refl _) (fun _ _ _ => rfl) (fun b _ hb => ?_) (Nat.le_refl _)⟩
  ·simp only [rlk] at hi
   by_cases e : 0 = i
   ·rw [if_pos e] at hi; cases hi; exact ⟨by omega, _, _, _, _, rfl⟩
   ·rw [if_neg e] at hi; cases hi
  ·simp only [rlk] at hi
   by_cases e : 0 = i
   ·rw [if_pos e] at hi
    cases hi
    exact ⟨World.ownsRow_nil w' 0 ty sz, ⟨by simp, fun i k hi => absurd hi (by simp)⟩, fun b hb => by cases hb⟩
   ·rw [if_neg e] at hi; cases hi
  ·rcases hb with hb | ⟨i, r, hi, hb⟩
   ·exact .inl hb
   ·cases hb
 ·exact ⟨B, h, st, h8, .inr q, ρ, xs, G, r⟩
def ffunLQ (P : Program) (rs : List ResultVar) (x : Value) : FPost
 | .normal, _, S => resH P S rs fun hs => htup hs = .v x
 | .ret, _, S => resH P S rs fun hs => htup hs = .v x
 | _, _, _ => False
theorem hfunL {f : FuncId} {fn : Func} {x : Code} {args : List HV} {rs : Array ResultVar} {u : Value} (hf : P.funcs[f]? = some fn) (hb : fn.body = some x) (hN : fn.ntmps = N) (hrs : fn.results = rs) (hle : args.length ≤ N)
  (h : HWF P N x (ffunLQ P rs.toList u) [] ⟨argsH 0 args, []⟩) : HFun P f args (fun h st => h = .v u ∧ st = []) := fun w vs R => by
 refine calls_W hf hb hN hrs (by rw [R.1]; exact hle) ?_
 have I : Inv (cx w (fun _ => False) (fun _ => False)) ⟨argsH 0 args, []⟩ (lk (argsE 0 vs)) w := by
  refine ⟨fun _ => undef, fun _ => [], fun id r hr => by simp [rlk] at hr, fun i j r s b hne hi => by simp [rlk] at hi, fun k h hk => ?_, Kept.refl _ _, fun b hb => hb.elim⟩
  obtain ⟨-, h2⟩ := argsH_get args 0 k h hk
  rw [Nat.sub_zero] at h2
  obtain ⟨hlt, rfl⟩ := List.getElem?_eq_some_iff.1 h2
  have hlt' : k < vs.length := by rw [R.1]; exact hlt
  refine ⟨vs[k], argsE_at vs 0 k _ (Nat.zero_le _) (by simp [hlt']), (R.2 k hlt' hlt).up (Nat.le_refl _) (fun _ _ _ => rfl) (fun b _ hA => ?_) (Nat.le_refl _)⟩
  rcases hA with h0 | ⟨i, r, hi, -⟩
  ·exact h0
  ·simp [rlk] at hi
 refine (h _ _ _ (InvF.of I)).mono fun e l' w' ⟨F', S', ⟨c1, hs, ρ, xs, G⟩, q⟩ => ?_
 have kept : Kept (fun _ => False) w w' := hs.kept.trans G.kept fun b hb ht => by
  rcases hs.T b ht with h | h
  ·exact absurd (show w.heap.size ≤ b from h) (by omega)
  ·exact h
 have fin : resH P S' rs.toList (fun hs => htup hs = .v u) → resE P l' w' rs.toList fun vs => Below w.heap.size w w' ∧ ∃ h st', (∀ i r, rlk st' i = some r → i < 8) ∧ (h = .v u ∧ st' = []) ∧ InvV (cx w (fun _ => False) (fun b => b < w.heap.size)) ⟨[], st'⟩ h (tup vs) (fun _ => none) w' := fun hr =>
  resH_resE.resE_mono (resH_resE G _ _ hr) fun vs ⟨hs', hR, hv⟩ => by
   have r := htup_rep hv
   rw [hR] at r
   have e := repH_v r
   refine ⟨kept.below (fun _ _ h => h), .v u, [], fun i r hi => by simp [rlk] at hi, ⟨rfl, rfl⟩, ρ, xs, ⟨fun i r hi => by simp [rlk] at hi, fun i j r s b _ hi => by simp [rlk] at hi, fun k x hk => by simp [hlk] at hk, kept, fun b hb => ⟨hb, fun h => h⟩⟩, by rw [e]; exact .v _⟩
 cases e with
 | normal => exact fin q
 | ret => exact fin q
 | _ => exact q.elim
end
end Go.Eng
