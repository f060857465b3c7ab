/-
  Regions that draw their order, over values: heads answer by relations, so that they may make memory (a slice that is written out, what a call makes); what they make stands from then on.
-/
import Derived.Test.YtppnicpbncfhnaaRel
import Derived.Test.YtppnicpbncfhnaaHg
set_option linter.unusedSimpArgs false
set_option linter.unusedVariables false
namespace Go.Eng
open Go Go.RowKit

/-! ### what an operation looks at -/
def slotX : Operand → List Nat
  | .tmp t => [t]
  | _ => []
def slotsL : List Operand → List Nat
  | [] => []
  | x :: r => slotX x ++ slotsL r
def slotsP : List (Nat × Operand) → List Nat
  | [] => []
  | (_, x) :: r => slotX x ++ slotsP r
def slotO : Option Operand → List Nat
  | some x => slotX x
  | none => []
def slotsOf : Op → List Nat
  | .move x => slotX x
  | .assign x => slotX x
  | .nilCheck x => slotX x
  | .pick c a b => slotX c ++ (slotX a ++ slotX b)
  | .extract x _ => slotX x
  | .field _ x _ => slotX x
  | .fieldAddr _ x _ => slotX x
  | .load _ x => slotX x
  | .unOp _ _ x => slotX x
  | .convert _ _ x => slotX x
  | .indexAddr _ x i => slotX x ++ slotX i
  | .index _ x i => slotX x ++ slotX i
  | .slice _ x l h none => slotX x ++ (slotO l ++ slotO h)
  | .binOp _ _ x y _ => slotX x ++ slotX y
  | .build _ ps => slotsP ps.toList
  | .buildSlice _ _ ps => slotsP ps.toList
  | .makeSlice _ x y => slotX x ++ slotX y
  | .call ⟨_, args, _⟩ => slotsL args.toList
  | _ => []
theorem slotX_mem {x : Operand} {t : Nat} (h : t ∈ slotX x) : x = .tmp t := by
  cases x <;> simp [slotX] at h
  subst h; rfl
theorem slotsL_mem : ∀ {l : List Operand} {t : Nat}, t ∈ slotsL l → Operand.tmp t ∈ l
  | [], t, h => by simp [slotsL] at h
  | x :: r, t, h => by
    simp only [slotsL, List.mem_append] at h
    rcases h with h | h
    · rw [slotX_mem h]; exact List.mem_cons_self ..
    · exact List.mem_cons_of_mem _ (slotsL_mem h)
theorem slotsP_mem : ∀ {l : List (Nat × Operand)} {t : Nat}, t ∈ slotsP l → Operand.tmp t ∈ l.map (·.2)
  | [], t, h => by simp [slotsP] at h
  | (k, x) :: r, t, h => by
    simp only [slotsP, List.mem_append] at h
    rcases h with h | h
    · rw [List.map_cons, slotX_mem h]; exact List.mem_cons_self ..
    · rw [List.map_cons]; exact List.mem_cons_of_mem _ (slotsP_mem h)
theorem slotO_mem {x : Option Operand} {t : Nat} (h : t ∈ slotO x) : x = some (.tmp t) := by
  cases x with
  | none => simp [slotO] at h
  | some x => rw [slotX_mem h]
theorem slotsOf_mem {o : Op} {t : Nat} (h : t ∈ slotsOf o) : Operand.tmp t ∈ o.operands := by
  unfold slotsOf at h
  split at h
  all_goals try simp only [List.mem_append] at h
  case h_13 => 
    simp only [Op.operands]
    rcases h with h | h | h
    · rw [slotX_mem h]; simp
    · rw [slotO_mem h]; simp
    · rw [slotO_mem h]; simp
  case h_15 => simpa [Op.operands] using slotsP_mem h
  case h_16 => simpa [Op.operands] using slotsP_mem h
  case h_18 => simp only [Op.operands, Call.operands, Array.mem_append]; exact .inr (by simpa using slotsL_mem h)
  case h_19 => simp at h
  all_goals
    simp only [Op.operands]
    first
    | (rw [slotX_mem h]; simp; done)
    | (rcases h with h | h <;> (rw [slotX_mem h]; simp))
    | (rcases h with h | h | h <;> (rw [slotX_mem h]; simp))
def slotG (ds : List (Option Nat)) : Option (Nat × Bool) → List Nat
  | none => []
  | some (g, _) => match ds[g]? with
    | some (some d) => [d]
    | _ => []
def pickE (e : HEnv) : List Nat → HEnv
  | [] => []
  | t :: r => match hlk e t with
    | some h => (t, h) :: pickE e r
    | none => pickE e r
theorem pickE_get {e : HEnv} : ∀ {l : List Nat} {t : Nat} {h : HV}, hlk (pickE e l) t = some h → t ∈ l ∧ hlk e t = some h
  | [], t, h, hh => by simp [pickE, hlk] at hh
  | k :: r, t, h, hh => by
    simp only [pickE] at hh
    split at hh
    · rename_i x hx
      simp only [hlk] at hh
      by_cases ek : k = t
      · subst ek; rw [if_pos rfl] at hh; exact ⟨List.mem_cons_self .., by rw [hx]; exact hh⟩
      · rw [if_neg ek] at hh
        obtain ⟨a, b⟩ := pickE_get hh
        exact ⟨List.mem_cons_of_mem _ a, b⟩
    · obtain ⟨a, b⟩ := pickE_get hh
      exact ⟨List.mem_cons_of_mem _ a, b⟩
/-! ### the rules -/
/-- a call among heads: what it answers stands -/
def HAtR (P : Program) (f : FuncId) (args : List HV) (T : HS) (K : HV → Prop) : Prop :=
  callable P f = true ∧ ∃ h, K h ∧ ∀ (c : Ctx) (look : Nat → Option Value) (w : World) (ρ : Nat → Value) (xs : Nat → List Value) (vs : List Value), Good c T look w ρ xs → Reps w (c.A ρ T.st) c.n0 ρ vs args →
    Calls P f vs.toArray w (Ret fun u w' => RepH w' (c.A ρ T.st) c.n0 ρ u h ∧ Below w.heap.size w w')
def plainE : HEnv → Bool
  | [] => true
  | (_, .v _) :: r => plainE r
  | _ => false
def HMade (d : Option Nat) (S : HS) (K : HS → Prop) : HOut → Prop
  | .go c (.own i) S' => match rlk S'.st i with
    | some (.sl _ _ _ els) => c ∧ K (S.set d (.lst true els))
    | _ => False
  | _ => False
def made : Op → Bool
  | .buildSlice .. => true
  | .makeSlice .. => true
  | _ => false
def HGoROut (P : Program) (o : Oper) (S T : HS) (K : HS → Prop) : HOut → Prop
  | .go c h _ => match quiet o.op with
    | true => c ∧ K (S.set o.dst h)
    | false => match made o.op && plainE T.env with
      | true => HMade o.dst S K (hop P ⟨T.env, []⟩ (idOf o.dst) o.op)
      | false => False
  | .call f args => HAtR P f args T (fun x => HStop K (S.set o.dst x))
  | .eqn t x y neg => ∃ r, EqR P t x.toArray y.toArray r ∧ HStop K (S.set o.dst (.v (.bool (neg ^^ r))))
  | .bad => False
def HGoR (P : Program) (N : Nat) (o : Oper) (S T : HS) (K : HS → Prop) : Prop := match dstOk N o.dst with
  | true => HGoROut P o S T K (hop P T (idOf o.dst) o.op)
  | false => False
def HStepR (P : Program) (N : Nat) (o : Oper) (S T : HS) (K : HS → Prop) : GOut → Prop
  | .yes => HGoR P N o S T K
  | .no => HSkip N o.dst S K
  | .ask d b want => match b == want with
    | true => HGoR P N o (S.rep d (.v (.bool want))) (T.rep d (.v (.bool want))) K
    | false => HSkip N o.dst (S.rep d (.v (.bool (!want)))) K
  | .bad => False
def HVr (P : Program) (N : Nat) (ds : List (Option Nat)) (K : HS → Prop) : List Oper → HS → Prop
  | [], S => K S
  | o :: rest, S => HStepR P N o S ⟨pickE S.env (slotG ds o.guard ++ slotsOf o.op), S.st⟩ (HVr P N ds K rest) (hG (pickE S.env (slotG ds o.guard ++ slotsOf o.op)) ds o.guard)
end Go.Eng
