/-
  Ways that go on alike, joined.
-/
import Derived.Test.YtppnicpbncfhnaaSte
set_option linter.unusedSimpArgs false
set_option linter.unusedVariables false
namespace Go.Eng
open Go Go.RowKit
def hmeetQ (R : HS → Prop) (Q : HPost) : HPost
  | .normal, S => R S
  | e, S => Q e S
section
variable {P : Program} {N : Nat} {x : Code} {Q : HPost} {S : HS} {R : HS → Prop}
theorem hmeetQ_normal (h : R S) : hmeetQ R Q .normal S := h
theorem hmeetQ_ret (h : Q .ret S) : hmeetQ R Q .ret S := h
theorem hmeetQ_exit {i : Nat} (h : Q (.exit i) S) : hmeetQ R Q (.exit i) S := h
/-- all ways that go on bring what I says -/
theorem HW_meet {ι : Type} (E : ι → HS) (I : ι → Prop) (ks ids : List Nat) (hx : HW P N x (hmeetQ (fun S' => ∃ j, S'.keep ks ids = E j ∧ I j) Q) S) (hy : ∀ S' j, S'.keep ks ids = E j → I j → Q .normal S') : HW P N x Q S :=
  hx.mono fun e S' h => by
    cases e with
    | normal => obtain ⟨j, hE, hI⟩ := h; exact hy S' j hE hI
    | _ => exact h
end
theorem HW_ownS {P : Program} {N : Nat} {x : Code} {Q : HPost} {S S' : HS} (k id ty sz : Nat) (hk : hlk S.env k = some (.v (.slice none 0 0))) (hs : ((S.kill (only id)).row id (.sl true ty sz [])).rep k (.own id) = S') (h : HW P N x Q S') : HW P N x Q S := HW_own k id ty sz hk (hs ▸ h)
end Go.Eng
