/-
  The disk's functions: a file's new state; how many bytes a volume has; is qLe zAu.
-/
import Derived.Test.YtdmnijnogabchaaDoorDkB
set_option linter.unusedSimpArgs false
set_option linter.unusedVariables false
set_option maxRecDepth 20000
namespace Go.Proofs.YtdmnijnogabchaaDoor
open Go Go.Eng Go.RowKit Go.Tr Go.Dk
theorem eE (d:Dk) (k r1 r2:Nat):d.maps k r1 r2=[.map r1 k d.n (tab Itm.val d.L),.map r2 k d.m (tab gN d.R)]:=rfl
set_option maxHeartbeats 1000000 in
theorem zKj (d:Dk) (p:ByteArray) (x:Itm) (r1 r2:Nat) (hs:p.size≤1048576) (hn:d.n < maxLen) (hst:0≤d.stamps∧d.stamps < 4611686018427387904) :
  HFunM Tryd.prog 24 [.ptr 0 6 0 0,.v (.string p),x.hv] [(0,.bx false 50 (d.cells r1 r2))] (d.maps kS r1 r2) (fun h st g=>h=.tup []∧st=[(0,.bx false 50 ((qV5 d p x).cells r1 r2))]∧g=(qV5 d p x).maps kS r1 r2):=by
 refine nH (N:=24) Tryd.func24 rfl Tryd.ntmps24 Tryd.results24 (by simp) ?_
 obtain ⟨L,R,steps,stamps,armed,down,n,m⟩:=d;obtain ⟨di,da,ke,lo,an,sta⟩:=x;simp only at hn hst;simp only [bW,mG,eE,qV5];refine aA ?_;refine aD (fun K hK=>?_);simp (disch:=omega) only [push_cast,↓iC9,simprocAttr];refine hK _ ?_;clear hK K
 refine aA ?_;refine aD (fun K hK=>?_);simp (disch:=omega) only [push_cast,↓iC9,simprocAttr];refine hK _ ?_;clear hK K
 refine aA ?_;refine aD (fun K hK=>?_);simp (disch:=omega) only [push_cast,↓iC9,simprocAttr];refine hK _ ?_;clear hK K
 refine aB ?_;refine qRm 6 mixed (by kernel_rfl) (fun K1 hK1=>?_)
 simp (disch:=omega) only [push_cast,↓iC9,simprocAttr];refine hK1 _ ?_;(try clear hK1 K1);refine qRn (i:=0) mtI rfl rfl rfl rfl (hn) rfl rfl (mx hs) rfl rfl ?_;refine bA ?_
 skip
 simp only [aN,aU,yH,yE,yK,yJ,aW,zS,zM,Nat.reduceEqDiff,reduceIte,reduceCtorEq];refine dA [0] [] (by first|rfl|simp [bsL,MO.bs]) (by decide) (by decide) (by simp only [push_cast,simprocAttr]) (by simp only [push_cast,simprocAttr]) (by simp only [push_cast,simprocAttr];rfl) (by simp only [push_cast,simprocAttr];rfl) ?_
 exact ⟨rfl,rfl,by rw [← wS];rfl⟩
set_option maxHeartbeats 1000000 in
theorem zHw (d:Dk) (B:Int) (hd:d.Ok B) (hB:B≤1099511627776) (v:ByteArray) (r1 r2:Nat) :
  HFunM Tryd.prog 31 [.ptr 0 6 0 0,.v (.string v)] [(0,.bx false 50 (d.cells r1 r2))] (d.maps kS r1 r2) (fun h st g=>h=.v (.int .i64 (used d v))∧st=[(0,.bx false 50 (d.cells r1 r2))]∧g=d.maps kS r1 r2):=by
 refine nH (N:=30) Tryd.func31 rfl Tryd.ntmps31 Tryd.results31 (by simp) ?_
 obtain ⟨hri,hke,hto,-,-,-,-,-⟩:=hd;obtain ⟨L,R,steps,stamps,armed,down,n,m⟩:=d;simp only at hri hke hto;simp only [bW,eE,used];refine aA ?_;refine aD (fun K hK=>?_);simp (disch:=omega) only [push_cast,↓iC9,simprocAttr];refine hK _ ?_;clear hK K
 refine aA ?_;refine aD (fun K hK=>?_);simp (disch:=omega) only [push_cast,↓iC9,simprocAttr];refine hK _ ?_;clear hK K
 refine aA ?_;refine aA ?_;refine aD (fun K hK=>?_);simp (disch:=omega) only [push_cast,↓iC9,simprocAttr];refine hK _ ?_;clear hK K
 refine aB ?_;refine dP rfl ?_;refine aA ?_;refine bK ?_;refine aQ 4 (fun K1 hK1=>?_);simp (disch:=omega) only [push_cast,↓iC9,simprocAttr];refine hK1 _ ?_;(try clear hK1 K1)
 refine qPy (i:=0) mtI rfl rfl rfl rfl rfl fun it cnt=>?_
 refine bA ?_;refine aB ?_;refine bR ?_;refine sN (ι:=(List UInt8→Bool) × Nat × Option (ByteArray × Value)) (fun q=>⟨[(0,.ptr 0 6 0 0),(1,.v (.string v)),(5,.v (.int .i64 (iS q.1 v L))),(14,.v (.pointer (some ⟨it,0,none⟩)))],[(0,.bx false 50 [.v (.map (some r1)),.v (.map (some r2)),.v (.int .i64 steps),.v (.int .i64 stamps),.v (.int .i64 armed),.v (.bool down)])]⟩)
  (fun q=>[.itr it r1 kS n (tab Itm.val L) q.1 q.2.1 q.2.2,.map r2 kS m (tab gN R)]) (fun _=>True) (fun q=>q.2.1) [0,1,5,14] [0] (fun s=>(tab Itm.val L s).isSome,cnt,none) ?_ rfl trivial ?_
 ·dsimp only;rw [qEc v fun e he=>by rw [rW,jE hri he];rfl]
  rfl
 ·rintro ⟨left,cn,cur⟩ -;dsimp only;refine aA ?_;refine bK ?_;refine qVm (i:=0) mtI rfl rfl rfl rfl rfl (fun hz=>?_) (fun s w c' hl hM hsz hlt=>?_)
  ·refine aQ 1 (fun K1 hK1=>?_);simp (disch:=omega) only [push_cast,↓iC9,simprocAttr,aF,aE];refine hK1 _ ?_;(try clear hK1 K1)
   refine bA ?_;refine aA ?_;refine bT rfl ?_;refine kL ?_;refine eJ ?_;refine eJ ?_;refine kC ?_;refine aA ?_;refine qZ2 (i:=0) rfl ?_;refine aD (fun K hK=>?_);simp (disch:=omega) only [push_cast,↓iC9,simprocAttr];refine hK _ ?_;clear hK K
   refine aB ?_;refine bN ?_;simp only [aN,aU,yH,yE,yK,yJ,aW,zS,zM,Nat.reduceEqDiff,reduceIte,reduceCtorEq];refine dA [0] [] (by first|rfl|simp [bsL,MO.bs]) (by decide) (by decide) (by simp only [push_cast,simprocAttr]) (by simp only [push_cast,simprocAttr]) (by simp only [push_cast,simprocAttr];rfl) (by simp only [push_cast,simprocAttr];rfl) ?_
   exact ⟨by rw [qAu v hz],rfl,rfl⟩
  ·obtain ⟨x,hx,rfl⟩:∃ x,bM L s=some x∧w=x.val:=by
    rw [uK] at hM
    cases hx:bM L s with
   |none=>rw [hx] at hM;cases hM
   |some x=>rw [hx] at hM;exact ⟨x,rfl,(Option.some.inj hM).symm⟩
   have hmem:=fX hx
   have hss:=hke _ hmem
   have hst:=qEa (v:=v) hl hri hmem
   have hle:=wN (fun q=>left q && !(q == s.data.toList)) v L
   have hle0:=wN left v L
   generalize hW:iS left v L=W at *
   refine aQ 1 (fun K1 hK1=>?_);simp (disch:=omega) only [push_cast,↓iC9,simprocAttr,aF,aE,qRa,mG];refine hK1 _ ?_;(try clear hK1 K1)
   refine bA ?_;refine aA ?_;refine dP rfl ?_;refine aY ?_;refine aB ?_;refine bR ?_;refine aA ?_;refine bK ?_;refine qPz (i:=0) rfl rfl rfl rfl rfl ?_;refine aQ 5 (fun K1 hK1=>?_);simp (disch:=omega) only [push_cast,↓iC9,simprocAttr,aF,aE,qRa,mG];refine hK1 _ ?_;(try clear hK1 K1)
   refine bA ?_;refine aA ?_;refine aD (fun K hK=>?_);simp (disch:=omega) only [push_cast,↓iC9,simprocAttr]
   refine cU zJl (zG9 s hss) (.cons (.v _) .nil) ?_;with_reducible refine aP ?_;simp (disch:=omega) only [push_cast,↓iC9,simprocAttr]
   refine hK _ ?_;clear hK K;refine aB ?_
   by_cases hv:vol s=v
   ·rw [if_pos hv] at hst;refine bS rfl (fun _=>?_) (fun hf=>by simp [hv] at hf)
    refine aD (fun K hK=>?_);simp (disch:=omega) only [push_cast,↓iC9,simprocAttr];refine hK _ ?_;clear hK K
    refine bP ?_;refine aB ?_;refine ⟨(fun q=>left q && !(q == s.data.toList),c',some (s,x.val)),?_,rfl,trivial,hlt⟩
    dsimp only;rw [hst];rfl
   ·rw [if_neg hv] at hst;refine bS rfl (fun ht=>by simp [hv] at ht) (fun _=>?_)
    refine aY ?_;refine bP ?_;refine aB ?_;refine ⟨(fun q=>left q && !(q == s.data.toList),c',some (s,x.val)),?_,rfl,trivial,hlt⟩
    dsimp only;rw [hst,Int.add_zero];rfl
set_option maxHeartbeats 1000000 in
theorem zH0 (d:Dk) (B:Int) (hd:d.Ok B) (hB:B≤1099511627776) (p:ByteArray) (more:Int) (r1 r2:Nat) (hs:p.size≤1048576) (hm:-1099511627776≤more∧more≤1099511627776) :
  HFunM Tryd.prog 23 [.ptr 0 6 0 0,.v (.string p),.v (.int .i64 more)] [(0,.bx false 50 (d.cells r1 r2))] (d.maps kS r1 r2) (fun h st g=>h=.v (.bool (zAu d p more))∧st=[(0,.bx false 50 (d.cells r1 r2))]∧g=d.maps kS r1 r2):=by
 refine nH (N:=35) Tryd.func23 rfl Tryd.ntmps23 Tryd.results23 (by simp) ?_
 have hv:=zG9 p hs
 have hvs:=zBz p
 have hu:=zHw d B hd hB (vol p) r1 r2
 have hu0:0≤used d (vol p)∧used d (vol p)≤tot d.L:=by
  have:=wN (fun _=>false) (vol p) d.L
  rw [qAu _ fun _=>rfl] at this
  exact this
 have hto:=hd.size
 simp only [bW,eE] at hu ⊢;unfold zAu;refine aA ?_;refine aD (fun K hK=>?_);simp (disch:=omega) only [push_cast,↓iC9,simprocAttr];refine hK _ ?_;clear hK K
 refine aA ?_;refine zFq 11 mixed (by kernel_rfl) (fun K1 hK1=>?_)
 refine qAr 6 (by decide) (fun K2 hK2=>?_)
 simp (disch:=omega) only [push_cast,↓iC9,simprocAttr];refine qDe zJl hv (.cons (.v _) .nil) ?_;with_reducible refine aP ?_;simp (disch:=omega) only [push_cast,↓iC9,simprocAttr]
 refine hK2 _ ?_;refine zFu (q:=1) rfl mtL rfl rfl rfl rfl rfl rfl (mx (Nat.le_trans hvs hs)) ?_;refine qAr 4 (by decide) (fun K3 hK3=>?_)
 simp (disch:=omega) only [push_cast,↓iC9,simprocAttr,aF,qSs,zDc];refine hK3 _ ?_;refine qRp ?_;refine hK1 _ ?_;(try clear hK1 K1);refine aQ 1 (fun K1 hK1=>?_);simp (disch:=omega) only [push_cast,↓iC9,simprocAttr,aF,aE];refine hK1 _ ?_;(try clear hK1 K1)
 refine bA ?_;refine cP [0,1,2,6,7,8] [0] (by simp only [zZ,zR,zP,zQ,zN,zS,zM,zX,zU,Nat.reduceEqDiff,reduceIte];exact rfl) ?_
 cases hl:bM d.R (vol p) with
|none =>
  dsimp only [Option.isSome,Option.getD];refine aA ?_;refine aD (fun K hK=>?_);simp (disch:=omega) only [push_cast,↓iC9,simprocAttr];refine hK _ ?_;clear hK K
  refine aB ?_;refine bN ?_;simp only [aN,aU,yH,yE,yK,yJ,aW,zS,zM,Nat.reduceEqDiff,reduceIte,reduceCtorEq];refine dA [0] [] (by first|rfl|simp [bsL,MO.bs]) (by decide) (by decide) (by simp only [push_cast,simprocAttr]) (by simp only [push_cast,simprocAttr]) (by simp only [push_cast,simprocAttr];rfl) (by simp only [push_cast,simprocAttr];rfl) ?_
  exact ⟨rfl,rfl,rfl⟩
|some n =>
  dsimp only [Option.isSome,Option.getD]
  by_cases hm0:more≤0
  ·refine aA ?_;refine aD (fun K hK=>?_);simp (disch:=omega) only [push_cast,↓iC9,simprocAttr,hm0];refine hK _ ?_;clear hK K
   refine aB ?_;refine bN ?_;simp only [aN,aU,yH,yE,yK,yJ,aW,zS,zM,Nat.reduceEqDiff,reduceIte,reduceCtorEq];refine dA [0] [] (by first|rfl|simp [bsL,MO.bs]) (by decide) (by decide) (by simp only [push_cast,simprocAttr]) (by simp only [push_cast,simprocAttr]) (by simp only [push_cast,simprocAttr];rfl) (by simp only [push_cast,simprocAttr];rfl) ?_
   exact ⟨by simp [hm0],rfl,rfl⟩
  ·have e0:decide (more≤0)=false:=decide_eq_false hm0
   rw [e0,Bool.false_or];refine aA ?_;refine bK ?_;refine aQ 10 (fun K1 hK1=>?_);simp (disch:=omega) only [push_cast,↓iC9,simprocAttr,e0]
   refine cU zJl hv (.cons (.v _) .nil) ?_;with_reducible refine aP ?_;simp (disch:=omega) only [push_cast,↓iC9,simprocAttr]
   refine hK1 _ ?_;(try clear hK1 K1);refine dF 232 [0] zMn (hu) rfl rfl rfl rfl (by simp only [push_cast,simprocAttr];exact rfl) (by decide) (by decide) (by decide) (by simp only [push_cast,simprocAttr];try rfl) (by simp only [push_cast,simprocAttr];try rfl) ?_
   rintro _ _ _ ⟨rfl,rfl,rfl⟩;generalize used d (vol p)=U at *
   refine aQ 6 (fun K1 hK1=>?_);simp (disch:=omega) only [push_cast,↓iC9,simprocAttr,aF,aE];refine hK1 _ ?_;(try clear hK1 K1)
   refine bA ?_;refine aB ?_;refine bN ?_;simp only [aN,aU,yH,yE,yK,yJ,aW,zS,zM,Nat.reduceEqDiff,reduceIte,reduceCtorEq];refine dA [0] [] (by first|rfl|simp [bsL,MO.bs]) (by decide) (by decide) (by simp only [push_cast,simprocAttr]) (by simp only [push_cast,simprocAttr]) (by simp only [push_cast,simprocAttr];rfl) (by simp only [push_cast,simprocAttr];rfl) ?_
   exact ⟨rfl,rfl,rfl⟩
end Go.Proofs.YtdmnijnogabchaaDoor
