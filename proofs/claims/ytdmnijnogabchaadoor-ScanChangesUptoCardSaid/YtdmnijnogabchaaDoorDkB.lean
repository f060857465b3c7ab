/-
  The disk's functions: the volume of a path; is qLe a folder; a file's new state.
-/
import Derived.Test.YtdmnijnogabchaaDoorRcv
import Derived.Test.YtdmnijnogabchaaDoorMu
set_option linter.unusedSimpArgs false
set_option linter.unusedVariables false
section
namespace Go.Eng
open Go Go.RowKit
section
variable {P:Program} {N:Nat} {c:Ctx} {S:HS} {look:Nat→Option Value} {w w':World} {ρ:Nat→Value} {xs:Nat→List Value}
theorem Good.upds (h:Good c S look w ρ xs) (id:Nat) (r0 r:Row) (ys:List Value) (hs:w.heap.size≤w'.heap.size) (hos:w'.os=w.os) (htape:w'.tape=w.tape) (hout:w'.output=w.output)
  (hr0:rlk S.st id=some r0) (hnw:r.nw=r0.nw) (hb:∀ b,b < w.heap.size→(ρ id).ownBlock≠some b→w'.heap[b]?=w.heap[b]?)
  (st':aC) (hst:∀ i,rlk st' i=if i=id then some r else rlk S.st i)
  (hrow:RowOk w' (c.A ρ st') c ρ id r ys) :
  Good c ⟨S.env,st'⟩ look w' ρ (fun i=>if i=id then ys else xs i):=by
 have hA:∀ b,c.A ρ st' b→c.A ρ S.st b:=by
  rintro b (h0|⟨i,s,hi,hbi⟩)
  ·exact .inl h0
  ·right
   rw [hst] at hi
   by_cases e:i=id
   ·subst e;exact ⟨i,r0,hr0,hbi⟩
   ·rw [if_neg e] at hi;exact ⟨i,s,hi,hbi⟩
 have hb':∀ b,b < w.heap.size→¬ c.A ρ S.st b→w'.heap[b]?=w.heap[b]?:=fun b hl hn=>hb b hl fun e=>hn (.inr ⟨id,r0,hr0,e⟩)
 have tr:∀ v x,RepH w (c.A ρ S.st) c.n0 ρ v x→RepH w' (c.A ρ st') c.n0 ρ v x:=fun v x hv=>hv.up hs hb' (fun b _=>hA b) (Nat.le_refl _)
 have back:∀ i s,rlk st' i=some s→∃ s0,rlk S.st i=some s0:=by
  intro i s hi;rw [hst] at hi
  by_cases e:i=id
  ·subst e;exact ⟨r0,hr0⟩
  ·rw [if_neg e] at hi;exact ⟨s,hi⟩
 refine ⟨?_,?_,?_,?_,h.a0⟩
 ·intro i s hi;rw [hst] at hi
  by_cases e:i=id
  ·subst e;rw [if_pos rfl] at hi;simp only [Option.some.injEq] at hi;subst hi;rw [if_pos rfl];exact hrow
  ·rw [if_neg e] at hi;rw [if_neg e];exact (h.rows i s hi).up hs hb' (fun b _=>hA b) (fun b hbi=>hb b (h.lt hi hbi) fun e2=>h.apart i id s r0 b e hi hr0 hbi e2)
 ·intro i j ri rj b hne hi hj hbi hbj;obtain ⟨s0,h1⟩:=back i ri hi;obtain ⟨s1,h2⟩:=back j rj hj;exact h.apart i j s0 s1 b hne h1 h2 hbi hbj
 ·intro k x hk;obtain ⟨v,h1,h2⟩:=h.env k x hk;exact ⟨v,h1,tr v x h2⟩
 ·refine h.kept.trans (T':=fun b=>(ρ id).ownBlock=some b) ⟨hos,htape,hout,hs,fun b hlt hn=>hb b hlt hn⟩ fun b hlt e=>?_
  rcases ((h.rows id r0 hr0).new b e).1 with hge|hT
  ·omega
  ·exact hT
theorem zLb {f:FuncId} {args args':List HV} {xs:List Value} {K:HV→HS→Prop} (hc:aL P f=true) (H:HFun P f args' (fun h st=>h=.tup (xs.map .v))) (hl:Lends S.st args args') (hK:K (.tup (xs.map .v)) S):HAt P f args S K :=
 ⟨hc,fun c look w ρ xs' vs G R=>Ret.mono (H w vs (tA G R hl)) fun v w' ⟨B,h,st,h8,q,ρ',xs',G',hr⟩=>⟨_,_,hK,ρ,_,G.below B,by subst q;exact hr.plain (.tup xs)⟩⟩
end
end Go.Eng
end
section
set_option maxRecDepth 20000
namespace Go.Proofs.YtdmnijnogabchaaDoor
open Go Go.Eng Go.RowKit Go.Tr Go.Dk
theorem uJ:∀ (l:List UInt8),(Lib.indexByte l 47=-1∧qD9 l=l.length)∨(Lib.indexByte l 47=(qD9 l:Int)∧qD9 l < l.length)
|[]=>.inl ⟨rfl,rfl⟩
|c :: r=>by
  rw [Lib.indexByte,qD9]
  by_cases h:c=47
  ·subst h
   right
   simp
  ·have hc:(c == 47)=false:=beq_eq_false_iff_ne.2 h
   rw [hc,if_neg h]
   rcases uJ r with ⟨a,b⟩|⟨a,b⟩
   ·left
    rw [a,b];exact ⟨rfl,by simp⟩
   ·right
    rw [a]
    have:((qD9 r:Int) == -1)=false:=beq_eq_false_iff_ne.2 (by omega)
    rw [this];simp only [Bool.false_eq_true,if_false,List.length_cons];exact ⟨rfl,by omega⟩
theorem zB0 {p:ByteArray} (h:Lib.indexByte p.data.toList 47=-1):vol p=p:=by
 rcases uJ p.data.toList with ⟨a,b⟩|⟨a,b⟩
 ·rw [vol,b,← Lib.size_eq];exact ByteArray.extract_zero_size
 ·omega
theorem zBz (p:ByteArray):(vol p).size≤p.size:=by
 rw [vol,ByteArray.size_extract];omega
def aft (p:ByteArray):ByteArray:=if qD9 p.data.toList < p.size then p.extract (qD9 p.data.toList + 1) p.size else { data:=#[] }
def fnd (p:ByteArray):Bool:=decide (qD9 p.data.toList < p.size)
set_option maxHeartbeats 1000000 in
theorem zLe (s:ByteArray) (hs:s.size≤1048576):HFun Tryd.prog 53 [.v (.string s),.v (.string { data:=#[47] })] (fun h st=>h=.tup ([.string (vol s),.string (aft s),.bool (fnd s)].map .v)):=by
 refine kG (N:=23) Tryd.func53 rfl Tryd.ntmps53 Tryd.results53 (by simp) ?_
 have hc:=qR5 s
 unfold aft fnd
 rcases uJ s.data.toList with ⟨a,b⟩|⟨a,b⟩
 ·rw [a] at hc;rw [← Lib.size_eq] at b;refine zE ?_;refine zJ (fun K hK=>?_);simp (disch:=omega) only [push_cast,↓iC9,simprocAttr];refine hK _ ?_;clear hK K
  refine zE ?_;refine zE ?_;refine zJ (fun K hK=>?_);simp (disch:=omega) only [push_cast,↓iC9,simprocAttr]
  refine cU zJj hc (.cons (.v _) (.cons (.v _) .nil)) ?_;with_reducible refine aP ?_;simp (disch:=omega) only [push_cast,↓iC9,simprocAttr]
  refine hK _ ?_;clear hK K;refine zE ?_;refine zJ (fun K hK=>?_);simp (disch:=omega) only [push_cast,↓iC9,simprocAttr];refine hK _ ?_;clear hK K
  refine zA ?_;refine yC rfl ?_;refine zC ?_;refine zE ?_;refine zJ (fun K hK=>?_);simp (disch:=omega) only [push_cast,↓iC9,simprocAttr];refine hK _ ?_;clear hK K
  refine zA ?_;refine zW ?_;simp only [yA,yM,yH,yE,aH,aT,yK,yJ,zS,zM,Nat.reduceEqDiff,reduceIte,reduceCtorEq];refine qG2 ?_;rw [zB0 a,b];simp
 ·rw [a] at hc;rw [← Lib.size_eq] at b;obtain ⟨k,hk⟩:∃ k,qD9 s.data.toList=k:=⟨_,rfl⟩
  have hv:vol s=s.extract 0 k:=by rw [vol,hk]
  rw [hk] at hc b ⊢;rw [hv,if_pos b];refine zE ?_;refine zJ (fun K hK=>?_);simp (disch:=omega) only [push_cast,↓iC9,simprocAttr];refine hK _ ?_;clear hK K
  refine zE ?_;refine zE ?_;refine zJ (fun K hK=>?_);simp (disch:=omega) only [push_cast,↓iC9,simprocAttr]
  refine cU zJj hc (.cons (.v _) (.cons (.v _) .nil)) ?_;with_reducible refine aP ?_;simp (disch:=omega) only [push_cast,↓iC9,simprocAttr]
  refine hK _ ?_;clear hK K;refine zE ?_;refine zJ (fun K hK=>?_);simp (disch:=omega) only [push_cast,↓iC9,simprocAttr];refine hK _ ?_;clear hK K
  refine zA ?_;refine nU rfl (fun _=>?_) (fun hf=>by simp at hf)
  refine zE ?_;refine HW_drw 10 mixed (by kernel_rfl) (fun K hK=>?_);simp (disch:=omega) only [push_cast,↓iC9,simprocAttr,mZ]
  refine ⟨by omega,by omega,?_⟩
  with_reducible refine aP ?_;simp (disch:=omega) only [push_cast,↓iC9,simprocAttr]
  refine hK _ ?_;clear hK K;refine zA ?_;refine zW ?_;refine zK ?_;simp only [yA,yM,yH,yE,aH,aT,yK,yJ,zS,zM,Nat.reduceEqDiff,reduceIte,reduceCtorEq];refine qG2 ?_;simp [b]
set_option maxHeartbeats 1000000 in
theorem zHy (s:ByteArray) (hs:s.size≤1048576):HFun Tryd.prog 41 [.v (.string s),.v (.string { data:=#[47] })] (fun h st=>h=.tup ([.string (vol s),.string (aft s),.bool (fnd s)].map .v)):=by
 refine kG (N:=13) Tryd.func41 rfl Tryd.ntmps41 Tryd.results41 (by simp) ?_
 refine zE ?_;refine zJ (fun K hK=>?_);simp (disch:=omega) only [push_cast,↓iC9,simprocAttr];refine hK _ ?_;clear hK K
 refine zE ?_;refine zJ (fun K hK=>?_);simp (disch:=omega) only [push_cast,↓iC9,simprocAttr]
 refine zLb zL9 (zLe s hs) (.cons (.v _) (.cons (.v _) .nil)) ?_;with_reducible refine aP ?_;simp (disch:=omega) only [push_cast,↓iC9,simprocAttr]
 refine hK _ ?_;clear hK K;refine zA ?_;refine zW ?_;simp only [yA,yM,yH,yE,aH,aT,yK,yJ,zS,zM,Nat.reduceEqDiff,reduceIte,reduceCtorEq];exact qG2 rfl
set_option maxHeartbeats 1000000 in
theorem zG9 (s:ByteArray) (hs:s.size≤1048576):HFun Tryd.prog 30 [.v (.string s)] (fun h st=>h=.v (.string (vol s))):=by
 refine kG (N:=13) Tryd.func30 rfl Tryd.ntmps30 Tryd.results30 (by simp) ?_
 refine zE ?_;refine zJ (fun K hK=>?_);simp (disch:=omega) only [push_cast,↓iC9,simprocAttr];refine hK _ ?_;clear hK K
 refine zE ?_;refine zJ (fun K hK=>?_);simp (disch:=omega) only [push_cast,↓iC9,simprocAttr]
 refine zLb zMg (zHy s hs) (.cons (.v _) (.cons (.v _) .nil)) ?_;with_reducible refine aP ?_;simp (disch:=omega) only [push_cast,↓iC9,simprocAttr]
 refine hK _ ?_;clear hK K;refine zE ?_;refine zJ (fun K hK=>?_);simp (disch:=omega) only [push_cast,↓iC9,simprocAttr];refine hK _ ?_;clear hK K
 refine zA ?_;refine zW ?_;simp only [yA,yM,yH,yE,aH,aT,yK,yJ,zS,zM,Nat.reduceEqDiff,reduceIte,reduceCtorEq];exact bD rfl
theorem zC5 (p:ByteArray):(par p).size≤p.size:=by rw [par,ByteArray.size_extract];omega
theorem mx {s:ByteArray} (h:s.size≤1048576):s.size≤maxLen:=Nat.le_trans h (by decide)
set_option maxHeartbeats 1000000 in
theorem qU5 (d:Dk) (p:ByteArray) (r1 r2:Nat) (hs:p.size≤1048576):HFunM Tryd.prog 21 [.ptr 0 6 0 0,.v (.string p)] [(0,.bx false 50 (d.cells r1 r2))] (d.maps kS r1 r2) (fun h st g=>h=.v (.bool (qCc d p))∧st=[(0,.bx false 50 (d.cells r1 r2))]∧g=d.maps kS r1 r2):=by
 refine nH (N:=18) Tryd.func21 rfl Tryd.ntmps21 Tryd.results21 (by simp) ?_
 have hde:=zFc p hs
 have hpa:=qSh p hs
 simp only [bW];unfold qCc;refine aA ?_;refine aD (fun K hK=>?_);simp (disch:=omega) only [push_cast,↓iC9,simprocAttr];refine hK _ ?_;clear hK K
 by_cases h1:qK4 p=1
 ·rw [h1] at hde ⊢;refine aA ?_;refine qRm 10 mixed (by kernel_rfl) (fun K1 hK1=>?_)
  simp (disch:=omega) only [push_cast,↓iC9,simprocAttr];refine qDe zJm hde (.cons (.v _) .nil) ?_;with_reducible refine aP ?_;simp (disch:=omega) only [push_cast,↓iC9,simprocAttr]
  refine hK1 _ ?_;(try clear hK1 K1);refine aQ 4 (fun K1 hK1=>?_);simp (disch:=omega) only [push_cast,↓iC9,simprocAttr,aF,aE];refine hK1 _ ?_;(try clear hK1 K1)
  refine bA ?_;refine aB ?_;refine bN ?_;simp only [aN,aU,yH,yE,yK,yJ,aW,zS,zM,Nat.reduceEqDiff,reduceIte,reduceCtorEq];refine dA [0] [] (by first|rfl|simp [bsL,MO.bs]) (by decide) (by decide) (by simp only [push_cast,simprocAttr]) (by simp only [push_cast,simprocAttr]) (by simp only [push_cast,simprocAttr];rfl) (by simp only [push_cast,simprocAttr];rfl) ?_
  exact ⟨by simp,rfl,rfl⟩
 ·refine aA ?_;refine qRm 10 mixed (by kernel_rfl) (fun K1 hK1=>?_)
  simp (disch:=omega) only [push_cast,↓iC9,simprocAttr];refine qDe zJm hde (.cons (.v _) .nil) ?_;with_reducible refine aP ?_;simp (disch:=omega) only [push_cast,↓iC9,simprocAttr,h1]
  refine qDe zLk hpa (.cons (.v _) .nil) ?_;with_reducible refine aP ?_;simp (disch:=omega) only [push_cast,↓iC9,simprocAttr]
  refine hK1 _ ?_;(try clear hK1 K1);refine iP (i:=0) mtI rfl rfl rfl rfl rfl rfl (mx (Nat.le_trans (zC5 p) hs)) ?_;refine aQ 3 (fun K1 hK1=>?_);simp (disch:=omega) only [push_cast,↓iC9,simprocAttr,aF,aE,oN,mG];refine hK1 _ ?_;(try clear hK1 K1)
  refine bA ?_;refine aB ?_;refine bN ?_;simp only [aN,aU,yH,yE,yK,yJ,aW,zS,zM,Nat.reduceEqDiff,reduceIte,reduceCtorEq];refine dA [0] [] (by first|rfl|simp [bsL,MO.bs]) (by decide) (by decide) (by simp only [push_cast,simprocAttr]) (by simp only [push_cast,simprocAttr]) (by simp only [push_cast,simprocAttr];rfl) (by simp only [push_cast,simprocAttr];rfl) ?_
  exact ⟨by simp [h1,fM],rfl,rfl⟩
end Go.Proofs.YtdmnijnogabchaaDoor
end
