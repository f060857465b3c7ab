/-
  A call that hands a variable of plain values in by pointer.
-/
import Derived.Test.YtdfjeokjmigkaaaGreatMt
import Derived.Test.YtdfjeokjmigkaaaGreatDk
import Derived.Test.YtdfjeokjmigkaaaGreatTrH
import Derived.Test.YtdfjeokjmigkaaaGreatMs
import Derived.Test.YtdfjeokjmigkaaaGreatGc
section
set_option linter.unusedSimpArgs false
set_option linter.unusedVariables false
set_option maxRecDepth 20000
namespace Go.Proofs.YtdfjeokjmigkaaaGreat
open Go Go.Eng Go.RowKit Go.Tr Go.Dk
abbrev kS : TypeId := 9
theorem mtL : MapTy Tryz.prog 64 9 3 (.int .i64 0) := ⟨by kernel_rfl, by kernel_rfl, fun w => by kernel_rfl⟩
end Go.Proofs.YtdfjeokjmigkaaaGreat
end
section
set_option linter.unusedSimpArgs false
set_option linter.unusedVariables false
namespace Go.Eng
open Go Go.RowKit Go.Maps
structure HeadM (P : Program) (N : Nat) (ops : List Oper) (E0 : HEnv) (st : Store) (g : MS) (hs : Nat → HV) (i : Nat) (o : Oper) : Prop where
 lt : dstLt N o.dst
 head : ∃ T : HEnv, FrOk ops E0 hs i T ∧ (∀ t h, hlk T t = some h → t ∈ o.looksAt ops.toArray) ∧ ∀ (c : Ctx) (l : Env) (w : World) (ρ : Nat → Value) (xs : Nat → List Value), Good c ⟨T, st⟩ (lk l) w ρ xs → MsOk P c w g →
  ∃ b, gd l (dsts ops) o.guard (· = b) ∧ (b = true → Yields P (execOp (evD l) o) w fun u w' => RepH w' (c.A ρ st) c.n0 ρ u (hs i) ∧ Below w.heap.size w w') ∧ (b = false → hs i = .v undef)
theorem HeadM.congr {P : Program} {N : Nat} {ops : List Oper} {E0 : HEnv} {st : Store} {g : MS} {hs hs' : Nat → HV} {i : Nat} {o : Oper} (h : HeadM P N ops E0 st g hs i o) (he : ∀ j, j ≤ i → hs' j = hs j) : HeadM P N ops E0 st g hs' i o := by
 obtain ⟨T, TF, TS, run⟩ := h.head
 refine ⟨h.lt, T, TF.congr fun j hj => he j (by omega), TS, ?_⟩
 rw [he i (Nat.le_refl _)]
 exact run
section
variable {P : Program} {N : Nat} {all : List Oper} {g : MS} {K : HS → Prop} {n i : Nat} {S : HS} {Q : MPost}
end
end Go.Eng
end
section
set_option linter.unusedSimpArgs false
set_option linter.unusedVariables false
namespace Go.Eng
open Go Go.RowKit
inductive PlainH : HV → Prop
 | v (x : Value) : PlainH (.v x)
 | tup (xs : List Value) : PlainH (.tup (xs.map .v))
section
variable {P : Program} {N : Nat} {w w' : World} {A A' : Nat → Prop} {n0 n1 : Nat} {ρ ρ' : Nat → Value}
theorem RepH.plain {v : Value} {h : HV} (hr : RepH w A n0 ρ v h) (hp : PlainH h) : RepH w' A' n1 ρ' v h := by
 cases hp with
 | v x => have := repH_v hr; subst this; exact .v _
 | tup xs =>
  cases hr with
  | tup hn h =>
  refine .tup hn fun j a b => ?_
  have := h j a b
  simp only [List.getElem_map] at this ⊢
  have e := repH_v this
  rw [e]; exact .v _
end
end Go.Eng
end
section
set_option linter.unusedSimpArgs false
set_option linter.unusedVariables false
namespace Go.Eng
open Go Go.RowKit
section
variable {P : Program} {N : Nat} {c : Ctx} {S : HS} {look : Nat → Option Value} {w w' : World} {ρ : Nat → Value} {xs : Nat → List Value}
theorem hatt {f : FuncId} {args args' : List HV} {xs : List Value} {K : HV → HS → Prop} (hc : callable P f = true) (H : HFun P f args' (fun h st => h = .tup (xs.map .v))) (hl : Lends S.st args args') (hK : K (.tup (xs.map .v)) S) : HAt P f args S K :=
 ⟨hc, fun c look w ρ xs' vs G R => Ret.mono (H w vs (lends_rep G R hl)) fun v w' ⟨B, h, st, h8, q, ρ', xs', G', hr⟩ => ⟨_, _, hK, ρ, _, G.below B, by subst q; exact hr.plain (.tup xs)⟩⟩
end
end Go.Eng
end
