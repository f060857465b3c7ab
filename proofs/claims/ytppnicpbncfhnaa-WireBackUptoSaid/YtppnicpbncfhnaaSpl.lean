/-
  Long regions, piece by piece.
-/
import Derived.Test.YtppnicpbncfhnaaSte
set_option linter.unusedSimpArgs false
set_option linter.unusedVariables false
namespace Go.Eng
open Go Go.RowKit
theorem VC_append {P : Program} {N : Nat} {ds : List (Option Nat)} {K : Env → World → Prop} : ∀ {ops more : List Oper} {l : Env} {w : World}, VC P N ds (fun l w => VC P N ds K more l w) ops l w → VC P N ds K (ops ++ more) l w
  | [], more, l, w, h => by rw [VC] at h; exact h
  | o :: rest, more, l, w, h => by
    rw [List.cons_append]
    rw [VC] at h ⊢
    obtain ⟨b, hb, hd, h⟩ := gd_val h
    have conv : ∀ {k : Bool → Prop}, k b → gd l ds o.guard k := by
      intro k hkb
      unfold gd at hb ⊢
      split
      · rename_i hg; rw [hg] at hb; dsimp only at hb; rw [hb]; exact hkb
      · rename_i j want hg
        rw [hg] at hb
        dsimp only at hb
        split
        · rename_i d hd'
          rw [hd'] at hb
          dsimp only at hb
          split
          · rename_i b' hb'; rw [hb'] at hb; dsimp only at hb; rw [hb]; exact hkb
          · rename_i v hv hb'
            rw [hb'] at hb
            cases v <;> dsimp only at hb <;> first | (exact (hv _ rfl).elim) | (rw [hb]; exact hkb)
          · rename_i hb'; rw [hb'] at hb; exact hb.elim
        · rename_i hn
          split at hb
          · rename_i d hd'; exact (hn d hd').elim
          · exact hb.elim
    refine conv ⟨hd, ?_⟩
    cases b with
    | true => exact vcOp_mono h fun v w' hv => VC_append hv
    | false => exact VC_append h
section
variable {P : Program} {N : Nat} {ds : List (Option Nat)} {K : HS → Prop} {S : HS} {Q : HPost}
/-- what the operations do, said of memory -/
def HV2s (P : Program) (N : Nat) (ds : List (Option Nat)) (K : HS → Prop) (ops : List Oper) (S : HS) : Prop :=
  ∀ (c : Ctx) (l : Env) (w : World), Inv c S (lk l) w → VC P N ds (fun l w => ∃ S', Inv c S' (lk l) w ∧ K S') ops l w
theorem HV2s_end {ops : List Oper} (h : HV2 P N ds K ops S) : HV2s P N ds K ops S := fun c l w I => HV2_VC (c := c) ops S l w h I
theorem HV2s_cut {ops : List Oper} (n : Nat) (ks ids : List Nat) (h : HV2 P N ds (fun S' => HStop (HV2s P N ds K (ops.drop n)) (S'.keep ks ids)) (ops.take n) S) : HV2s P N ds K ops S := fun c l w I => by
  have := HV2_VC (c := c) (ops.take n) S l w h I
  rw [← List.take_append_drop n ops]
  exact VC_append (HW_reg.V.mono this fun l' w' ⟨S', I', q⟩ => (show HV2s P N ds K (ops.drop n) (S'.keep ks ids) from q) c l' w' (I'.keep ks ids))
theorem HW_regS {id : Nat} {ops : List Oper} (h : ∀ K : HS → Prop, (∀ S', Q .normal S' → K S') → HV2s P N (dsts ops) K ops S) : HW P N (.region id ops.toArray false) Q S := fun c l w I =>
  W_region fun K hK => by
    have := h (Q .normal) (fun _ h => h) c l w I
    exact (HW_reg.V.mono this fun l' w' h => hK l' w' h)
end
end Go.Eng
