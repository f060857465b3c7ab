/-
  Regions that draw their order, one of whose heads copies over (and might do so again); the other heads are moves and the like. Of no program.
-/
import Derived.Test.YtfojmpimnidmkaaGd
set_option linter.unusedSimpArgs false
set_option linter.unusedVariables false
namespace Go.Eng
open Go Go.RowKit
section
variable {P : Program} {N : Nat} {Q : HPost} {c : Ctx} {S : HS}
def thin : HV → Bool
 | .v _ => true
 | .own _ => true
 | .vw _ _ _ _ => true
 | .ptr _ _ _ _ => true
 | _ => false
structure HeadO (P : Program) (N : Nat) (ops : List Oper) (E0 : HEnv) (st st' : Store) (hs : Nat → HV) (k i : Nat) (o : Oper) : Prop where
 guard : o.guard = none
 lt : dstLt N o.dst
 thin : thin (hs i) = true
 head : ∃ T : HEnv, FrOk ops E0 hs i T ∧ (∀ t x, hlk T t = some x → t ∈ slotsOf o.op) ∧
  (i ≠ k → quiet o.op = true ∧ (∃ cnd, cnd ∧ hop P ⟨T, st⟩ 0 o.op = .go cnd (hs i) ⟨T, st⟩) ∧ ∃ cnd, cnd ∧ hop P ⟨T, st'⟩ 0 o.op = .go cnd (hs i) ⟨T, st'⟩) ∧
  (i = k → ∃ args ats, o.op = .call ⟨.builtin .copy, args, ats⟩ ∧ (∃ cnd, cnd ∧ hCopy ⟨T, st⟩ (ats == #[ats0 ats, ats0 ats]) (uSlice P (ats0 ats)) (hevs T args.toList) = .go cnd (hs i) ⟨T, st'⟩) ∧
   ∃ cnd, cnd ∧ hCopy ⟨T, st'⟩ (ats == #[ats0 ats, ats0 ats]) (uSlice P (ats0 ats)) (hevs T args.toList) = .go cnd (hs i) ⟨T, st'⟩)
end
end Go.Eng
