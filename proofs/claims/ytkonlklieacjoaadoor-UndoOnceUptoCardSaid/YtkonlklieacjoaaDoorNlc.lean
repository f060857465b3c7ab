/-
  A list that stands held against nil: it may be nil only if it is empty.
-/
import Derived.Test.YtkonlklieacjoaaDoorTrM
import Derived.Test.YtkonlklieacjoaaDoorSl
import Derived.Test.YtkonlklieacjoaaDoorGd
section
set_option linter.unusedSimpArgs false
set_option linter.unusedVariables false
set_option maxRecDepth 20000
namespace Go.Proofs.YtkonlklieacjoaaDoor
open Go Go.Eng Go.RowKit Go.Tr
end Go.Proofs.YtkonlklieacjoaaDoor
end
section
set_option linter.unusedSimpArgs false
set_option linter.unusedVariables false
namespace Go.Eng
open Go Go.RowKit
theorem HW_nilc {P : Program} {N : Nat} {Q : HPost} {S : HS} {id a d1 d2 : Nat} {t u ty1 ty2 : TypeId} {p1 p2 : String} {af1 af2 : Array Edge} {fr : Bool} {ys : List (List FV)}
  (ha : hlk S.env a = some (.lst fr ys)) (h1 : dstOk N (some d1) = true) (h2 : dstOk N (some d2) = true) (hu : (uSlice P t).isSome = true)
  (h : ∀ b : Bool, (b = true → ys = []) → Q .normal ⟨(d2, .v (.bool b)) :: (d1, .lst fr ys) :: S.env, S.st⟩) :
  HW P N (.region id #[⟨some d1, .move (.tmp a), ty1, p1, af1, none⟩, ⟨some d2, .binOp .eql t (.tmp d1) (.const (.slice none 0 0)) u, ty2, p2, af2, none⟩] false) Q S := fun c l w I => by
 obtain ⟨ρ, xs, G⟩ := I
 obtain ⟨v, hv, hr⟩ := G.env a _ ha
 have hr0 := hr
 cases hr with
 | lst hF =>
 cases hF with
 | lst sz vals hn hc hm hnil hsz hadd h1' hr' =>
 rename_i ad n cap
 refine W_region (ops := [⟨some d1, .move (.tmp a), ty1, p1, af1, none⟩, ⟨some d2, .binOp .eql t (.tmp d1) (.const (.slice none 0 0)) u, ty2, p2, af2, none⟩]) fun K hK => ?_
 simp only [VC_cons, VC_nil, gd, doOr, vcOp, po_move, po_bin, ev, hv, stp, lk, if_true, pureBin_seq]
 refine ⟨dstOk_lt h1, trivial, dstOk_lt h2, hu, hK _ _ ?_⟩
 have I1 : Inv c (S.set (some d1) (.lst fr ys)) (lk (stp (some d1) (.slice ad n cap) l)) w := InvV.set ⟨ρ, xs, G, hr0⟩ (some d1)
 obtain ⟨ρ2, xs2, G2⟩ := I1
 have I2 := InvV.set (l := stp (some d1) (.slice ad n cap) l) (h := .v (.bool ad.isNone)) (v := .bool ad.isNone) ⟨ρ2, xs2, G2, .v _⟩ (some d2)
 refine ⟨_, I2, h ad.isNone fun e => ?_⟩
 cases ad with
 | some _ => cases e
 | none =>
  have := hnil rfl
  exact List.eq_nil_of_length_eq_zero (by omega)
end Go.Eng
end
