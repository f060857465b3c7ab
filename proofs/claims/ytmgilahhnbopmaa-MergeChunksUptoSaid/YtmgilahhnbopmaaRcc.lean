/-
  A call that hands a variable of plain values in by pointer.
-/
import Derived.Test.YtmgilahhnbopmaaRows
import Derived.Test.YtmgilahhnbopmaaGd
import Derived.JoinedCond
import Derived.Deep.CondSized
import Derived.Test.YtmgilahhnbopmaaGc
set_option linter.unusedVariables false
set_option linter.unusedSimpArgs false
section
namespace Go.Proofs.Ytmgilahhnbopmaa
open Go Go.Eng Go.RowKit Go.ChangeShapes Go.WideShapes Go.ChangeAt
theorem qYw {H:Type}:∀ (l:List (DataW H)),Rows.uptoBulkAll l=(l.map Rows.uptoBulk).sum
|[]=>by simp [Rows.uptoBulkAll]
|d :: r=>by rw [Rows.uptoBulkAll,qYw r];rfl
theorem zJ1 {H:Type}:∀ (d:DataW H),1≤Rows.uptoBulk d:=fun d=>by
 cases d with
|lit l=>cases l <;> simp [Rows.uptoBulk]
|_=>simp [Rows.uptoBulk]
theorem qXg {H:Type}:Bulk (H:=H) Rows.uptoBulk:=by
 refine ⟨zJ1,fun b=>?_,fun es rest=>?_,fun xs=>?_⟩
 ·rw [Rows.uptoBulk];exact Nat.le_refl _
 ·rw [Rows.uptoBulk,qYw];omega
 ·rw [Rows.uptoBulk,qYw];omega
theorem zJ2 {H:Type} {ds gs:List (DataW H)} (hk:Rows.uptoSmall H (ds ++ gs)=true):(ds.map Rows.uptoBulk).sum≤1048576:=by
 have h:Rows.uptoBulkAll (ds ++ gs)≤1048576:=of_decide_eq_true hk
 rw [qYw,List.map_append,List.sum_append] at h;omega
end Go.Proofs.Ytmgilahhnbopmaa
end
section
namespace Go.Eng
open Go Go.RowKit
inductive PlainH:HV→Prop
|v (x:Value):PlainH (.v x)
|tup (xs:List Value):PlainH (.tup (xs.map .v))
section
variable {P:Program} {N:Nat} {w w':World} {A A':Nat→Prop} {n0 n1:Nat} {ρ ρ':Nat→Value}
theorem RepH.plain {v:Value} {h:HV} (hr:RepH w A n0 ρ v h) (hp:PlainH h):RepH w' A' n1 ρ' v h:=by
 cases hp with
|v x=>have:=cW hr;subst this;exact .v _
|tup xs =>
  cases hr with
 |tup hn h =>
  refine .tup hn fun j a b=>?_
  have:=h j a b
  simp only [List.getElem_map] at this ⊢
  have e:=cW this
  rw [e];exact .v _
end
end Go.Eng
end
section
namespace Go.Eng
open Go Go.RowKit
section
variable {P:Program} {N:Nat} {c:Ctx} {S:HS} {look:Nat→Option Value} {w w':World} {ρ:Nat→Value} {xs:Nat→List Value}
theorem zJb {f:FuncId} {args args':List HV} {xs:List Value} {K:HV→HS→Prop} (hc:aM P f=true) (H:HFun P f args' (fun h st=>h=.tup (xs.map .v))) (hl:Lends S.st args args') (hK:K (.tup (xs.map .v)) S):HAt P f args S K :=
 ⟨hc,fun c look w ρ xs' vs G R=>Ret.mono (H w vs (nL G R hl)) fun v w' ⟨B,h,st,h8,q,ρ',xs',G',hr⟩=>⟨_,_,hK,ρ,_,G.below B,by subst q;exact hr.plain (.tup xs)⟩⟩
end
end Go.Eng
end
