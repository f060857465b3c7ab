/-
  A call that hands a variable of plain values in by pointer.
-/
import Derived.Test.YtlihpgmgiehjkaaGreatDoorDk
import Derived.Test.YtlihpgmgiehjkaaGreatDoorTrH
import Derived.Test.YtlihpgmgiehjkaaGreatDoorGc
set_option linter.unusedSimpArgs false
set_option linter.unusedVariables false
section
set_option maxRecDepth 20000
namespace Go.Proofs.YtlihpgmgiehjkaaGreatDoor
open Go Go.Eng Go.RowKit Go.Tr Go.Dk
abbrev kS:TypeId:=9
theorem mtI:MapTy Tryz.prog 61 9 97 itm0.val:=⟨by kernel_rfl,by kernel_rfl,fun w=>by kernel_rfl⟩
theorem mtL:MapTy Tryz.prog 62 9 3 (.int .i64 0):=⟨by kernel_rfl,by kernel_rfl,fun w=>by kernel_rfl⟩
theorem zLa (p:ByteArray) (hs:p.size≤1048576):HFun Tryz.prog 96 [.v (.string p)] (fun h st=>h=.v (.int .i64 (qDx p))):=by
 refine jP (N:=8) Tryz.func96 rfl Tryz.ntmps96 Tryz.results96 (by simp) ?_
 have hc:=zCt p
 have hle:p.data.toList.count 47≤p.size:=by rw [Lib.size_eq];exact List.count_le_length
 unfold qDx
 by_cases e:p={ data:=#[] }
 ·subst e;refine zE ?_;refine zJ (fun K hK=>?_);simp (disch:=omega) only [push_cast,↓iC9,simprocAttr];refine hK _ ?_;clear hK K
  refine zE ?_;refine zE ?_;refine zJ (fun K hK=>?_);simp (disch:=omega) only [push_cast,↓iC9,simprocAttr];refine hK _ ?_;clear hK K
  refine zA ?_;refine yD rfl ?_;refine zE ?_;refine zJ (fun K hK=>?_);simp (disch:=omega) only [push_cast,↓iC9,simprocAttr];refine hK _ ?_;clear hK K
  refine zA ?_;refine zW ?_;refine zK ?_;simp only [yA,yM,yH,yE,aL,aV,yK,yJ,zS,zM,Nat.reduceEqDiff,reduceIte,reduceCtorEq];exact bQ rfl
 ·rw [if_neg e]
  have e':decide (p={ data:=#[] })=false:=decide_eq_false e
  refine zE ?_;refine zJ (fun K hK=>?_);simp (disch:=omega) only [push_cast,↓iC9,simprocAttr];refine hK _ ?_;clear hK K
  refine zE ?_;refine zE ?_;refine zJ (fun K hK=>?_);simp (disch:=omega) only [push_cast,↓iC9,simprocAttr,e'];refine hK _ ?_;clear hK K
  refine zA ?_;refine yC rfl ?_;refine zC ?_;refine zE ?_;refine zJ (fun K hK=>?_);simp (disch:=omega) only [push_cast,↓iC9,simprocAttr]
  refine dJ zPu hc (.cons (.v _) (.cons (.v _) .nil)) ?_;with_reducible refine aU ?_;simp (disch:=omega) only [push_cast,↓iC9,simprocAttr]
  refine hK _ ?_;clear hK K;refine zA ?_;refine zW ?_;simp only [yA,yM,yH,yE,aL,aV,yK,yJ,zS,zM,Nat.reduceEqDiff,reduceIte,reduceCtorEq];exact bQ rfl
theorem zBa (d:Dk) (p:ByteArray) (k:Int) (r1 r2:Nat) (hs:p.size≤1048576):HFunS Tryz.prog 61 [.ptr 0 6 0 0,.v (.string p),.v (.int .i64 k)] [(0,.bx false 64 (d.cells r1 r2))] (fun h st=>h=.v (.int .i64 (may d p k))∧st=[(0,.bx false 64 (d.cells r1 r2))]):=by
 refine zJb (N:=25) Tryz.func61 rfl Tryz.ntmps61 Tryz.results61 (by simp) ?_
 rw [bM]
 have hc:HFun Tryz.prog 43 [.v (.string p),.v (.int .i64 6)] (fun h st=>h=.v (.int .i64 (okN (pOk p 6)))):=qUw p 6 hs (by decide)
 have hde:=zLa p hs
 unfold may;refine zE ?_;refine zJ (fun K hK=>?_);simp (disch:=omega) only [push_cast,↓iC9,simprocAttr];refine hK _ ?_;clear hK K
 refine zE ?_;refine zD ?_;refine zE ?_;refine zJ (fun K hK=>?_);simp (disch:=omega) only [push_cast,↓iC9,simprocAttr];refine hK _ ?_;clear hK K
 refine zA ?_;refine yC rfl ?_;refine zE ?_;refine zJ (fun K hK=>?_);simp (disch:=omega) only [push_cast,↓iC9,simprocAttr];refine hK _ ?_;clear hK K
 refine zA ?_
 cases hd:d.down with
|true =>
  refine yD rfl ?_;refine zE ?_;refine zJ (fun K hK=>?_);simp (disch:=omega) only [push_cast,↓iC9,simprocAttr];refine hK _ ?_;clear hK K
  refine zA ?_;refine zW ?_;refine zL ?_;refine zK ?_;simp only [dR,fL,yH,yE,yK,yJ,aS,zS,zM,Nat.reduceEqDiff,reduceIte,reduceCtorEq];refine qF7 [0] (by decide) (by decide) (by simp only [push_cast,simprocAttr]) (by simp only [push_cast,simprocAttr]) (by simp only [push_cast,simprocAttr];rfl) (by simp only [push_cast,simprocAttr];rfl) ?_
  exact ⟨rfl,rfl⟩
|false =>
  refine yC rfl ?_
  cases hp:pOk p 6 with
 |false =>
   rw [hp] at hc
   have hc:HFun Tryz.prog 43 [.v (.string p),.v (.int .i64 6)] (fun h st=>h=.v (.int .i64 10)):=hc
   refine zE ?_;refine zJ (fun K hK=>?_);simp (disch:=omega) only [push_cast,↓iC9,simprocAttr]
   refine dJ zNk hc (.cons (.v _) (.cons (.v _) .nil)) ?_;with_reducible refine aU ?_;simp (disch:=omega) only [push_cast,↓iC9,simprocAttr]
   refine hK _ ?_;clear hK K;refine zA ?_;refine yD rfl ?_;refine zE ?_;refine zJ (fun K hK=>?_);simp (disch:=omega) only [push_cast,↓iC9,simprocAttr];refine hK _ ?_;clear hK K
   refine zA ?_;refine zW ?_;refine zL ?_;refine zK ?_;simp only [dR,fL,yH,yE,yK,yJ,aS,zS,zM,Nat.reduceEqDiff,reduceIte,reduceCtorEq];refine qF7 [0] (by decide) (by decide) (by simp only [push_cast,simprocAttr]) (by simp only [push_cast,simprocAttr]) (by simp only [push_cast,simprocAttr];rfl) (by simp only [push_cast,simprocAttr];rfl) ?_
   exact ⟨by simp,rfl⟩
 |true =>
   rw [hp] at hc
   have hc:HFun Tryz.prog 43 [.v (.string p),.v (.int .i64 6)] (fun h st=>h=.v (.int .i64 0)):=hc
   refine zE ?_;refine zJ (fun K hK=>?_);simp (disch:=omega) only [push_cast,↓iC9,simprocAttr]
   refine dJ zNk hc (.cons (.v _) (.cons (.v _) .nil)) ?_;with_reducible refine aU ?_;simp (disch:=omega) only [push_cast,↓iC9,simprocAttr]
   refine dJ zQ0 hde (.cons (.v _) .nil) ?_;with_reducible refine aU ?_;simp (disch:=omega) only [push_cast,↓iC9,simprocAttr]
   refine hK _ ?_;clear hK K;refine zA ?_
   by_cases hk:qDx p≤k
   ·refine lM rfl (fun ht=>?_) (fun hf=>by simp [hk] at hf)
    refine zE ?_;refine zJ (fun K hK=>?_);simp (disch:=omega) only [push_cast,↓iC9,simprocAttr];refine hK _ ?_;clear hK K
    refine zA ?_;refine zW ?_;refine zL ?_;refine zK ?_;simp only [dR,fL,yH,yE,yK,yJ,aS,zS,zM,Nat.reduceEqDiff,reduceIte,reduceCtorEq];refine qF7 [0] (by decide) (by decide) (by simp only [push_cast,simprocAttr]) (by simp only [push_cast,simprocAttr]) (by simp only [push_cast,simprocAttr];rfl) (by simp only [push_cast,simprocAttr];rfl) ?_
    exact ⟨by simp [hk],rfl⟩
   ·refine lM rfl (fun ht=>by simp [hk] at ht) (fun hf=>?_)
    refine zC ?_;refine zE ?_;refine zJ (fun K hK=>?_);simp (disch:=omega) only [push_cast,↓iC9,simprocAttr];refine hK _ ?_;clear hK K
    refine zA ?_;refine zW ?_;simp only [dR,fL,yH,yE,yK,yJ,aS,zS,zM,Nat.reduceEqDiff,reduceIte,reduceCtorEq];refine qF7 [0] (by decide) (by decide) (by simp only [push_cast,simprocAttr]) (by simp only [push_cast,simprocAttr]) (by simp only [push_cast,simprocAttr];rfl) (by simp only [push_cast,simprocAttr];rfl) ?_
    exact ⟨by simp [hk],rfl⟩
theorem qSs (d:Dk) (r1 r2:Nat) (h1:0≤d.steps∧d.steps < 4611686018427387904) (h2:-1≤d.armed∧d.armed≤9223372036854775807):HFunS Tryz.prog 63 [.ptr 0 6 0 0] [(0,.bx false 64 (d.cells r1 r2))] (fun h st=>h=.v (.int .i64 (bJ d).1)∧st=[(0,.bx false 64 ((bJ d).2.cells r1 r2))]):=by
 refine zJb (N:=33) Tryz.func63 rfl Tryz.ntmps63 Tryz.results63 (by simp) ?_
 obtain ⟨L,R,steps,stamps,armed,down,n,m⟩:=d;simp only at h1 h2;simp only [bM];unfold bJ;refine zE ?_;refine zJ (fun K hK=>?_);simp (disch:=omega) only [push_cast,↓iC9,simprocAttr];refine hK _ ?_;clear hK K
 refine zE ?_;refine zE ?_;refine zJ (fun K hK=>?_);simp (disch:=omega) only [push_cast,↓iC9,simprocAttr];refine hK _ ?_;clear hK K
 refine zA ?_
 by_cases ha:armed=0
 ·subst ha;refine yD rfl ?_;refine zE ?_;refine zJ (fun K hK=>?_);simp (disch:=omega) only [push_cast,↓iC9,simprocAttr];refine hK _ ?_;clear hK K
  refine zE ?_;refine zJ (fun K hK=>?_);simp (disch:=omega) only [push_cast,↓iC9,simprocAttr];refine hK _ ?_;clear hK K
  refine zA ?_;refine zW ?_;refine zK ?_;simp only [dR,fL,yH,yE,yK,yJ,aS,zS,zM,Nat.reduceEqDiff,reduceIte,reduceCtorEq];refine qF7 [0] (by decide) (by decide) (by simp only [push_cast,simprocAttr]) (by simp only [push_cast,simprocAttr]) (by simp only [push_cast,simprocAttr];rfl) (by simp only [push_cast,simprocAttr];rfl) ?_
  exact ⟨rfl,rfl⟩
 ·refine lM rfl (fun ht=>by simp [ha] at ht) (fun _=>?_)
  by_cases hg:0 < armed
  ·refine zC ?_;refine zE ?_;refine zE ?_;refine zJ (fun K hK=>?_);simp (disch:=omega) only [push_cast,↓iC9,simprocAttr,hg];refine hK _ ?_;clear hK K
   refine zA ?_;refine lM rfl (fun _=>?_) (fun hf=>by simp [hg] at hf)
   refine zJ (fun K hK=>?_);simp (disch:=omega) only [push_cast,↓iC9,simprocAttr];refine hK _ ?_;clear hK K
   refine zE ?_;refine zJ (fun K hK=>?_);simp (disch:=omega) only [push_cast,↓iC9,simprocAttr];refine hK _ ?_;clear hK K
   refine zE ?_;refine zJ (fun K hK=>?_);simp (disch:=omega) only [push_cast,↓iC9,simprocAttr];refine hK _ ?_;clear hK K
   refine zA ?_;refine zW ?_;simp only [dR,fL,yH,yE,yK,yJ,aS,zS,zM,Nat.reduceEqDiff,reduceIte,reduceCtorEq];refine qF7 [0] (by decide) (by decide) (by simp only [push_cast,simprocAttr]) (by simp only [push_cast,simprocAttr]) (by simp only [push_cast,simprocAttr];rfl) (by simp only [push_cast,simprocAttr];rfl) ?_
   rw [if_neg ha];exact ⟨rfl,by simp [hg]⟩
  ·refine zC ?_;refine zE ?_;refine zE ?_;refine zJ (fun K hK=>?_);simp (disch:=omega) only [push_cast,↓iC9,simprocAttr];refine hK _ ?_;clear hK K
   refine zA ?_;refine lM rfl (fun ht=>by simp [hg] at ht) (fun _=>?_)
   refine zC ?_;refine zE ?_;refine zJ (fun K hK=>?_);simp (disch:=omega) only [push_cast,↓iC9,simprocAttr];refine hK _ ?_;clear hK K
   refine zE ?_;refine zJ (fun K hK=>?_);simp (disch:=omega) only [push_cast,↓iC9,simprocAttr];refine hK _ ?_;clear hK K
   refine zA ?_;refine zW ?_;simp only [dR,fL,yH,yE,yK,yJ,aS,zS,zM,Nat.reduceEqDiff,reduceIte,reduceCtorEq];refine qF7 [0] (by decide) (by decide) (by simp only [push_cast,simprocAttr]) (by simp only [push_cast,simprocAttr]) (by simp only [push_cast,simprocAttr];rfl) (by simp only [push_cast,simprocAttr];rfl) ?_
   rw [if_neg ha];exact ⟨rfl,by simp [hg]⟩
end Go.Proofs.YtlihpgmgiehjkaaGreatDoor
end
section
namespace Go.Eng
open Go Go.RowKit
inductive PlainH:HV→Prop
|v (x:Value):PlainH (.v x)
|tup (xs:List Value):PlainH (.tup (xs.map .v))
section
variable {P:Program} {N:Nat} {w w':World} {A A':Nat→Prop} {n0 n1:Nat} {ρ ρ':Nat→Value}
theorem RepH.plain {v:Value} {h:HV} (hr:RepH w A n0 ρ v h) (hp:PlainH h):RepH w' A' n1 ρ' v h:=by
 cases hp with
|v x=>have:=bD hr;subst this;exact .v _
|tup xs =>
  cases hr with
 |tup hn h =>
  refine .tup hn fun j a b=>?_
  have:=h j a b
  simp only [List.getElem_map] at this ⊢
  have e:=bD this
  rw [e];exact .v _
end
end Go.Eng
end
section
namespace Go.Eng
open Go Go.RowKit
section
variable {P:Program} {N:Nat} {c:Ctx} {S:HS} {look:Nat→Option Value} {w w':World} {ρ:Nat→Value} {xs:Nat→List Value}
theorem Good.upds (h:Good c S look w ρ xs) (id:Nat) (r0 r:Row) (ys:List Value) (hs:w.heap.size≤w'.heap.size) (hos:w'.os=w.os) (htape:w'.tape=w.tape) (hout:w'.output=w.output)
  (hr0:rlk S.st id=some r0) (hnw:r.nw=r0.nw) (hb:∀ b,b < w.heap.size→(ρ id).ownBlock≠some b→w'.heap[b]?=w.heap[b]?)
  (st':aF) (hst:∀ i,rlk st' i=if i=id then some r else rlk S.st i)
  (hrow:RowOk w' (c.A ρ st') c ρ id r ys) :
  Good c ⟨S.env,st'⟩ look w' ρ (fun i=>if i=id then ys else xs i):=by
 have hA:∀ b,c.A ρ st' b→c.A ρ S.st b:=by
  rintro b (h0|⟨i,s,hi,hbi⟩)
  ·exact .inl h0
  ·right
   rw [hst] at hi
   by_cases e:i=id
   ·subst e;exact ⟨i,r0,hr0,hbi⟩
   ·rw [if_neg e] at hi;exact ⟨i,s,hi,hbi⟩
 have hb':∀ b,b < w.heap.size→¬ c.A ρ S.st b→w'.heap[b]?=w.heap[b]?:=fun b hl hn=>hb b hl fun e=>hn (.inr ⟨id,r0,hr0,e⟩)
 have tr:∀ v x,RepH w (c.A ρ S.st) c.n0 ρ v x→RepH w' (c.A ρ st') c.n0 ρ v x:=fun v x hv=>hv.up hs hb' (fun b _=>hA b) (Nat.le_refl _)
 have back:∀ i s,rlk st' i=some s→∃ s0,rlk S.st i=some s0:=by
  intro i s hi;rw [hst] at hi
  by_cases e:i=id
  ·subst e;exact ⟨r0,hr0⟩
  ·rw [if_neg e] at hi;exact ⟨s,hi⟩
 refine ⟨?_,?_,?_,?_,h.a0⟩
 ·intro i s hi;rw [hst] at hi
  by_cases e:i=id
  ·subst e;rw [if_pos rfl] at hi;simp only [Option.some.injEq] at hi;subst hi;rw [if_pos rfl];exact hrow
  ·rw [if_neg e] at hi;rw [if_neg e];exact (h.rows i s hi).up hs hb' (fun b _=>hA b) (fun b hbi=>hb b (h.lt hi hbi) fun e2=>h.apart i id s r0 b e hi hr0 hbi e2)
 ·intro i j ri rj b hne hi hj hbi hbj;obtain ⟨s0,h1⟩:=back i ri hi;obtain ⟨s1,h2⟩:=back j rj hj;exact h.apart i j s0 s1 b hne h1 h2 hbi hbj
 ·intro k x hk;obtain ⟨v,h1,h2⟩:=h.env k x hk;exact ⟨v,h1,tr v x h2⟩
 ·refine h.kept.trans (T':=fun b=>(ρ id).ownBlock=some b) ⟨hos,htape,hout,hs,fun b hlt hn=>hb b hlt hn⟩ fun b hlt e=>?_
  rcases ((h.rows id r0 hr0).new b e).1 with hge|hT
  ·omega
  ·exact hT
theorem zM7 {f:FuncId} {args args':List HV} {xs:List Value} {K:HV→HS→Prop} (hc:aK P f=true) (H:HFun P f args' (fun h st=>h=.tup (xs.map .v))) (hl:Lends S.st args args') (hK:K (.tup (xs.map .v)) S):HAt P f args S K :=
 ⟨hc,fun c look w ρ xs' vs G R=>Ret.mono (H w vs (sK G R hl)) fun v w' ⟨B,h,st,h8,q,ρ',xs',G',hr⟩=>⟨_,_,hK,ρ,_,G.below B,by subst q;exact hr.plain (.tup xs)⟩⟩
end
end Go.Eng
end
