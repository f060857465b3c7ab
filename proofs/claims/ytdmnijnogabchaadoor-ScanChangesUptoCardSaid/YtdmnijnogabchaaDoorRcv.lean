/-
  A function that is handed a variable by pointer, with plain values in it: its body.
-/
import Derived.Test.YtdmnijnogabchaaDoorMt
import Derived.Test.YtdmnijnogabchaaDoorDk
import Derived.Test.YtdmnijnogabchaaDoorTrH
import Derived.Test.YtdmnijnogabchaaDoorGc
set_option linter.unusedSimpArgs false
set_option linter.unusedVariables false
section
set_option maxRecDepth 20000
namespace Go.Proofs.YtdmnijnogabchaaDoor
open Go Go.Eng Go.RowKit Go.Tr Go.Dk
abbrev kS:TypeId:=9
theorem mtI:MapTy Tryd.prog 47 9 53 itm0.val:=⟨by kernel_rfl,by kernel_rfl,fun w=>by kernel_rfl⟩
theorem mtL:MapTy Tryd.prog 48 9 3 (.int .i64 0):=⟨by kernel_rfl,by kernel_rfl,fun w=>by kernel_rfl⟩
theorem zFc (p:ByteArray) (hs:p.size≤1048576):HFun Tryd.prog 28 [.v (.string p)] (fun h st=>h=.v (.int .i64 (qK4 p))):=by
 refine kG (N:=8) Tryd.func28 rfl Tryd.ntmps28 Tryd.results28 (by simp) ?_
 have hc:=qZv p
 have hle:p.data.toList.count 47≤p.size:=by rw [Lib.size_eq];exact List.count_le_length
 unfold qK4
 by_cases e:p={ data:=#[] }
 ·subst e;refine zE ?_;refine zJ (fun K hK=>?_);simp (disch:=omega) only [push_cast,↓iC9,simprocAttr];refine hK _ ?_;clear hK K
  refine zE ?_;refine zE ?_;refine zJ (fun K hK=>?_);simp (disch:=omega) only [push_cast,↓iC9,simprocAttr];refine hK _ ?_;clear hK K
  refine zA ?_;refine yD rfl ?_;refine zE ?_;refine zJ (fun K hK=>?_);simp (disch:=omega) only [push_cast,↓iC9,simprocAttr];refine hK _ ?_;clear hK K
  refine zA ?_;refine zW ?_;refine zK ?_;simp only [yA,yM,yH,yE,aH,aT,yK,yJ,zS,zM,Nat.reduceEqDiff,reduceIte,reduceCtorEq];exact bD rfl
 ·rw [if_neg e]
  have e':decide (p={ data:=#[] })=false:=decide_eq_false e
  refine zE ?_;refine zJ (fun K hK=>?_);simp (disch:=omega) only [push_cast,↓iC9,simprocAttr];refine hK _ ?_;clear hK K
  refine zE ?_;refine zE ?_;refine zJ (fun K hK=>?_);simp (disch:=omega) only [push_cast,↓iC9,simprocAttr,e'];refine hK _ ?_;clear hK K
  refine zA ?_;refine yC rfl ?_;refine zC ?_;refine zE ?_;refine zJ (fun K hK=>?_);simp (disch:=omega) only [push_cast,↓iC9,simprocAttr]
  refine cU zLh hc (.cons (.v _) (.cons (.v _) .nil)) ?_;with_reducible refine aP ?_;simp (disch:=omega) only [push_cast,↓iC9,simprocAttr]
  refine hK _ ?_;clear hK K;refine zA ?_;refine zW ?_;simp only [yA,yM,yH,yE,aH,aT,yK,yJ,zS,zM,Nat.reduceEqDiff,reduceIte,reduceCtorEq];exact bD rfl
theorem zHh (d:Dk) (p:ByteArray) (k:Int) (r1 r2:Nat) (hs:p.size≤1048576):HFunS Tryd.prog 20 [.ptr 0 6 0 0,.v (.string p),.v (.int .i64 k)] [(0,.bx false 50 (d.cells r1 r2))] (fun h st=>h=.v (.int .i64 (may d p k))∧st=[(0,.bx false 50 (d.cells r1 r2))]):=by
 refine zDw (N:=25) Tryd.func20 rfl Tryd.ntmps20 Tryd.results20 (by simp) ?_
 rw [bW]
 have hc:HFun Tryd.prog 27 [.v (.string p),.v (.int .i64 6)] (fun h st=>h=.v (.int .i64 (okN (pOk p 6)))):=qSg p 6 hs (by decide)
 have hde:=zFc p hs
 unfold may;refine zE ?_;refine zJ (fun K hK=>?_);simp (disch:=omega) only [push_cast,↓iC9,simprocAttr];refine hK _ ?_;clear hK K
 refine zE ?_;refine zD ?_;refine zE ?_;refine zJ (fun K hK=>?_);simp (disch:=omega) only [push_cast,↓iC9,simprocAttr];refine hK _ ?_;clear hK K
 refine zA ?_;refine yC rfl ?_;refine zE ?_;refine zJ (fun K hK=>?_);simp (disch:=omega) only [push_cast,↓iC9,simprocAttr];refine hK _ ?_;clear hK K
 refine zA ?_
 cases hd:d.down with
|true =>
  refine yD rfl ?_;refine zE ?_;refine zJ (fun K hK=>?_);simp (disch:=omega) only [push_cast,↓iC9,simprocAttr];refine hK _ ?_;clear hK K
  refine zA ?_;refine zW ?_;refine zL ?_;refine zK ?_;simp only [dJ,fN,yH,yE,yK,yJ,aW,zS,zM,Nat.reduceEqDiff,reduceIte,reduceCtorEq];refine qC8 [0] (by decide) (by decide) (by simp only [push_cast,simprocAttr]) (by simp only [push_cast,simprocAttr]) (by simp only [push_cast,simprocAttr];rfl) (by simp only [push_cast,simprocAttr];rfl) ?_
  exact ⟨rfl,rfl⟩
|false =>
  refine yC rfl ?_
  cases hp:pOk p 6 with
 |false =>
   rw [hp] at hc
   have hc:HFun Tryd.prog 27 [.v (.string p),.v (.int .i64 6)] (fun h st=>h=.v (.int .i64 10)):=hc
   refine zE ?_;refine zJ (fun K hK=>?_);simp (disch:=omega) only [push_cast,↓iC9,simprocAttr]
   refine cU zGv hc (.cons (.v _) (.cons (.v _) .nil)) ?_;with_reducible refine aP ?_;simp (disch:=omega) only [push_cast,↓iC9,simprocAttr]
   refine hK _ ?_;clear hK K;refine zA ?_;refine yD rfl ?_;refine zE ?_;refine zJ (fun K hK=>?_);simp (disch:=omega) only [push_cast,↓iC9,simprocAttr];refine hK _ ?_;clear hK K
   refine zA ?_;refine zW ?_;refine zL ?_;refine zK ?_;simp only [dJ,fN,yH,yE,yK,yJ,aW,zS,zM,Nat.reduceEqDiff,reduceIte,reduceCtorEq];refine qC8 [0] (by decide) (by decide) (by simp only [push_cast,simprocAttr]) (by simp only [push_cast,simprocAttr]) (by simp only [push_cast,simprocAttr];rfl) (by simp only [push_cast,simprocAttr];rfl) ?_
   exact ⟨by simp,rfl⟩
 |true =>
   rw [hp] at hc
   have hc:HFun Tryd.prog 27 [.v (.string p),.v (.int .i64 6)] (fun h st=>h=.v (.int .i64 0)):=hc
   refine zE ?_;refine zJ (fun K hK=>?_);simp (disch:=omega) only [push_cast,↓iC9,simprocAttr]
   refine cU zGv hc (.cons (.v _) (.cons (.v _) .nil)) ?_;with_reducible refine aP ?_;simp (disch:=omega) only [push_cast,↓iC9,simprocAttr]
   refine cU zJm hde (.cons (.v _) .nil) ?_;with_reducible refine aP ?_;simp (disch:=omega) only [push_cast,↓iC9,simprocAttr]
   refine hK _ ?_;clear hK K;refine zA ?_
   by_cases hk:qK4 p≤k
   ·refine nU rfl (fun ht=>?_) (fun hf=>by simp [hk] at hf)
    refine zE ?_;refine zJ (fun K hK=>?_);simp (disch:=omega) only [push_cast,↓iC9,simprocAttr];refine hK _ ?_;clear hK K
    refine zA ?_;refine zW ?_;refine zL ?_;refine zK ?_;simp only [dJ,fN,yH,yE,yK,yJ,aW,zS,zM,Nat.reduceEqDiff,reduceIte,reduceCtorEq];refine qC8 [0] (by decide) (by decide) (by simp only [push_cast,simprocAttr]) (by simp only [push_cast,simprocAttr]) (by simp only [push_cast,simprocAttr];rfl) (by simp only [push_cast,simprocAttr];rfl) ?_
    exact ⟨by simp [hk],rfl⟩
   ·refine nU rfl (fun ht=>by simp [hk] at ht) (fun hf=>?_)
    refine zC ?_;refine zE ?_;refine zJ (fun K hK=>?_);simp (disch:=omega) only [push_cast,↓iC9,simprocAttr];refine hK _ ?_;clear hK K
    refine zA ?_;refine zW ?_;simp only [dJ,fN,yH,yE,yK,yJ,aW,zS,zM,Nat.reduceEqDiff,reduceIte,reduceCtorEq];refine qC8 [0] (by decide) (by decide) (by simp only [push_cast,simprocAttr]) (by simp only [push_cast,simprocAttr]) (by simp only [push_cast,simprocAttr];rfl) (by simp only [push_cast,simprocAttr];rfl) ?_
    exact ⟨by simp [hk],rfl⟩
theorem zB5 (d:Dk) (r1 r2:Nat) (h1:0≤d.steps∧d.steps < 4611686018427387904) (h2:-1≤d.armed∧d.armed≤9223372036854775807):HFunS Tryd.prog 22 [.ptr 0 6 0 0] [(0,.bx false 50 (d.cells r1 r2))] (fun h st=>h=.v (.int .i64 (dR d).1)∧st=[(0,.bx false 50 ((dR d).2.cells r1 r2))]):=by
 refine zDw (N:=33) Tryd.func22 rfl Tryd.ntmps22 Tryd.results22 (by simp) ?_
 obtain ⟨L,R,steps,stamps,armed,down,n,m⟩:=d;simp only at h1 h2;simp only [bW];unfold dR;refine zE ?_;refine zJ (fun K hK=>?_);simp (disch:=omega) only [push_cast,↓iC9,simprocAttr];refine hK _ ?_;clear hK K
 refine zE ?_;refine zE ?_;refine zJ (fun K hK=>?_);simp (disch:=omega) only [push_cast,↓iC9,simprocAttr];refine hK _ ?_;clear hK K
 refine zA ?_
 by_cases ha:armed=0
 ·subst ha;refine yD rfl ?_;refine zE ?_;refine zJ (fun K hK=>?_);simp (disch:=omega) only [push_cast,↓iC9,simprocAttr];refine hK _ ?_;clear hK K
  refine zE ?_;refine zJ (fun K hK=>?_);simp (disch:=omega) only [push_cast,↓iC9,simprocAttr];refine hK _ ?_;clear hK K
  refine zA ?_;refine zW ?_;refine zK ?_;simp only [dJ,fN,yH,yE,yK,yJ,aW,zS,zM,Nat.reduceEqDiff,reduceIte,reduceCtorEq];refine qC8 [0] (by decide) (by decide) (by simp only [push_cast,simprocAttr]) (by simp only [push_cast,simprocAttr]) (by simp only [push_cast,simprocAttr];rfl) (by simp only [push_cast,simprocAttr];rfl) ?_
  exact ⟨rfl,rfl⟩
 ·refine nU rfl (fun ht=>by simp [ha] at ht) (fun _=>?_)
  by_cases hg:0 < armed
  ·refine zC ?_;refine zE ?_;refine zE ?_;refine zJ (fun K hK=>?_);simp (disch:=omega) only [push_cast,↓iC9,simprocAttr,hg];refine hK _ ?_;clear hK K
   refine zA ?_;refine nU rfl (fun _=>?_) (fun hf=>by simp [hg] at hf)
   refine zJ (fun K hK=>?_);simp (disch:=omega) only [push_cast,↓iC9,simprocAttr];refine hK _ ?_;clear hK K
   refine zE ?_;refine zJ (fun K hK=>?_);simp (disch:=omega) only [push_cast,↓iC9,simprocAttr];refine hK _ ?_;clear hK K
   refine zE ?_;refine zJ (fun K hK=>?_);simp (disch:=omega) only [push_cast,↓iC9,simprocAttr];refine hK _ ?_;clear hK K
   refine zA ?_;refine zW ?_;simp only [dJ,fN,yH,yE,yK,yJ,aW,zS,zM,Nat.reduceEqDiff,reduceIte,reduceCtorEq];refine qC8 [0] (by decide) (by decide) (by simp only [push_cast,simprocAttr]) (by simp only [push_cast,simprocAttr]) (by simp only [push_cast,simprocAttr];rfl) (by simp only [push_cast,simprocAttr];rfl) ?_
   rw [if_neg ha];exact ⟨rfl,by simp [hg]⟩
  ·refine zC ?_;refine zE ?_;refine zE ?_;refine zJ (fun K hK=>?_);simp (disch:=omega) only [push_cast,↓iC9,simprocAttr];refine hK _ ?_;clear hK K
   refine zA ?_;refine nU rfl (fun ht=>by simp [hg] at ht) (fun _=>?_)
   refine zC ?_;refine zE ?_;refine zJ (fun K hK=>?_);simp (disch:=omega) only [push_cast,↓iC9,simprocAttr];refine hK _ ?_;clear hK K
   refine zE ?_;refine zJ (fun K hK=>?_);simp (disch:=omega) only [push_cast,↓iC9,simprocAttr];refine hK _ ?_;clear hK K
   refine zA ?_;refine zW ?_;simp only [dJ,fN,yH,yE,yK,yJ,aW,zS,zM,Nat.reduceEqDiff,reduceIte,reduceCtorEq];refine qC8 [0] (by decide) (by decide) (by simp only [push_cast,simprocAttr]) (by simp only [push_cast,simprocAttr]) (by simp only [push_cast,simprocAttr];rfl) (by simp only [push_cast,simprocAttr];rfl) ?_
   rw [if_neg ha];exact ⟨rfl,by simp [hg]⟩
end Go.Proofs.YtdmnijnogabchaaDoor
end
section
namespace Go.Eng
open Go Go.RowKit
inductive PlainH:HV→Prop
|v (x:Value):PlainH (.v x)
|tup (xs:List Value):PlainH (.tup (xs.map .v))
section
variable {P:Program} {N:Nat} {w w':World} {A A':Nat→Prop} {n0 n1:Nat} {ρ ρ':Nat→Value}
theorem RepH.plain {v:Value} {h:HV} (hr:RepH w A n0 ρ v h) (hp:PlainH h):RepH w' A' n1 ρ' v h:=by
 cases hp with
|v x=>have:=bB hr;subst this;exact .v _
|tup xs =>
  cases hr with
 |tup hn h =>
  refine .tup hn fun j a b=>?_
  have:=h j a b
  simp only [List.getElem_map] at this ⊢
  have e:=bB this
  rw [e];exact .v _
end
end Go.Eng
end
