/-
  The disk's functions: a file's new state; how many bytes a volume has; is gX qG0.
-/
import Derived.Test.YtlihpgmgiehjkaaGreatDoorRcc
import Derived.Test.YtlihpgmgiehjkaaGreatDoorMu
set_option linter.unusedSimpArgs false
set_option linter.unusedVariables false
section
set_option maxRecDepth 20000
namespace Go.Proofs.YtlihpgmgiehjkaaGreatDoor
open Go Go.Eng Go.RowKit Go.Tr Go.Dk
theorem qA2:∀ (l:List UInt8),(Lib.indexByte l 47=-1∧rK l=l.length)∨(Lib.indexByte l 47=(rK l:Int)∧rK l < l.length)
|[]=>.inl ⟨rfl,rfl⟩
|c :: r=>by
  rw [Lib.indexByte,rK]
  by_cases h:c=47
  ·subst h
   right
   simp
  ·have hc:(c == 47)=false:=beq_eq_false_iff_ne.2 h
   rw [hc,if_neg h]
   rcases qA2 r with ⟨a,b⟩|⟨a,b⟩
   ·left
    rw [a,b];exact ⟨rfl,by simp⟩
   ·right
    rw [a]
    have:((rK r:Int) == -1)=false:=beq_eq_false_iff_ne.2 (by omega)
    rw [this];simp only [Bool.false_eq_true,if_false,List.length_cons];exact ⟨rfl,by omega⟩
theorem zFm {p:ByteArray} (h:Lib.indexByte p.data.toList 47=-1):vol p=p:=by
 rcases qA2 p.data.toList with ⟨a,b⟩|⟨a,b⟩
 ·rw [vol,b,← Lib.size_eq];exact ByteArray.extract_zero_size
 ·omega
theorem zFl (p:ByteArray):(vol p).size≤p.size:=by
 rw [vol,ByteArray.size_extract];omega
def aft (p:ByteArray):ByteArray:=if rK p.data.toList < p.size then p.extract (rK p.data.toList + 1) p.size else { data:=#[] }
def fnd (p:ByteArray):Bool:=decide (rK p.data.toList < p.size)
set_option maxHeartbeats 1000000 in
theorem zS9 (s:ByteArray) (hs:s.size≤1048576):HFun Tryz.prog 103 [.v (.string s),.v (.string { data:=#[47] })] (fun h st=>h=.tup ([.string (vol s),.string (aft s),.bool (fnd s)].map .v)):=by
 refine jP (N:=23) Tryz.func103 rfl Tryz.ntmps103 Tryz.results103 (by simp) ?_
 have hc:=qUh s
 unfold aft fnd
 rcases qA2 s.data.toList with ⟨a,b⟩|⟨a,b⟩
 ·rw [a] at hc;rw [← Lib.size_eq] at b;refine zE ?_;refine zJ (fun K hK=>?_);simp (disch:=omega) only [push_cast,↓iC9,simprocAttr];refine hK _ ?_;clear hK K
  refine zE ?_;refine zE ?_;refine zJ (fun K hK=>?_);simp (disch:=omega) only [push_cast,↓iC9,simprocAttr]
  refine dJ zLh hc (.cons (.v _) (.cons (.v _) .nil)) ?_;with_reducible refine aU ?_;simp (disch:=omega) only [push_cast,↓iC9,simprocAttr]
  refine hK _ ?_;clear hK K;refine zE ?_;refine zJ (fun K hK=>?_);simp (disch:=omega) only [push_cast,↓iC9,simprocAttr];refine hK _ ?_;clear hK K
  refine zA ?_;refine yC rfl ?_;refine zC ?_;refine zE ?_;refine zJ (fun K hK=>?_);simp (disch:=omega) only [push_cast,↓iC9,simprocAttr];refine hK _ ?_;clear hK K
  refine zA ?_;refine zW ?_;simp only [yA,yM,yH,yE,aL,aV,yK,yJ,zS,zM,Nat.reduceEqDiff,reduceIte,reduceCtorEq];refine qK0 ?_;rw [zFm a,b];simp
 ·rw [a] at hc;rw [← Lib.size_eq] at b;obtain ⟨k,hk⟩:∃ k,rK s.data.toList=k:=⟨_,rfl⟩
  have hv:vol s=s.extract 0 k:=by rw [vol,hk]
  rw [hk] at hc b ⊢;rw [hv,if_pos b];refine zE ?_;refine zJ (fun K hK=>?_);simp (disch:=omega) only [push_cast,↓iC9,simprocAttr];refine hK _ ?_;clear hK K
  refine zE ?_;refine zE ?_;refine zJ (fun K hK=>?_);simp (disch:=omega) only [push_cast,↓iC9,simprocAttr]
  refine dJ zLh hc (.cons (.v _) (.cons (.v _) .nil)) ?_;with_reducible refine aU ?_;simp (disch:=omega) only [push_cast,↓iC9,simprocAttr]
  refine hK _ ?_;clear hK K;refine zE ?_;refine zJ (fun K hK=>?_);simp (disch:=omega) only [push_cast,↓iC9,simprocAttr];refine hK _ ?_;clear hK K
  refine zA ?_;refine lM rfl (fun _=>?_) (fun hf=>by simp at hf)
  refine zE ?_;refine HW_drw 10 mixed (by kernel_rfl) (fun K hK=>?_);simp (disch:=omega) only [push_cast,↓iC9,simprocAttr,qB]
  refine ⟨by omega,by omega,?_⟩
  with_reducible refine aU ?_;simp (disch:=omega) only [push_cast,↓iC9,simprocAttr]
  refine hK _ ?_;clear hK K;refine zA ?_;refine zW ?_;refine zK ?_;simp only [yA,yM,yH,yE,aL,aV,yK,yJ,zS,zM,Nat.reduceEqDiff,reduceIte,reduceCtorEq];refine qK0 ?_;simp [b]
set_option maxHeartbeats 1000000 in
theorem zP5 (s:ByteArray) (hs:s.size≤1048576):HFun Tryz.prog 92 [.v (.string s),.v (.string { data:=#[47] })] (fun h st=>h=.tup ([.string (vol s),.string (aft s),.bool (fnd s)].map .v)):=by
 refine jP (N:=13) Tryz.func92 rfl Tryz.ntmps92 Tryz.results92 (by simp) ?_
 refine zE ?_;refine zJ (fun K hK=>?_);simp (disch:=omega) only [push_cast,↓iC9,simprocAttr];refine hK _ ?_;clear hK K
 refine zE ?_;refine zJ (fun K hK=>?_);simp (disch:=omega) only [push_cast,↓iC9,simprocAttr]
 refine zM7 zTl (zS9 s hs) (.cons (.v _) (.cons (.v _) .nil)) ?_;with_reducible refine aU ?_;simp (disch:=omega) only [push_cast,↓iC9,simprocAttr]
 refine hK _ ?_;clear hK K;refine zA ?_;refine zW ?_;simp only [yA,yM,yH,yE,aL,aV,yK,yJ,zS,zM,Nat.reduceEqDiff,reduceIte,reduceCtorEq];exact qK0 rfl
set_option maxHeartbeats 1000000 in
theorem zN3 (s:ByteArray) (hs:s.size≤1048576):HFun Tryz.prog 58 [.v (.string s)] (fun h st=>h=.v (.string (vol s))):=by
 refine jP (N:=13) Tryz.func58 rfl Tryz.ntmps58 Tryz.results58 (by simp) ?_
 refine zE ?_;refine zJ (fun K hK=>?_);simp (disch:=omega) only [push_cast,↓iC9,simprocAttr];refine hK _ ?_;clear hK K
 refine zE ?_;refine zJ (fun K hK=>?_);simp (disch:=omega) only [push_cast,↓iC9,simprocAttr]
 refine zM7 zT9 (zP5 s hs) (.cons (.v _) (.cons (.v _) .nil)) ?_;with_reducible refine aU ?_;simp (disch:=omega) only [push_cast,↓iC9,simprocAttr]
 refine hK _ ?_;clear hK K;refine zE ?_;refine zJ (fun K hK=>?_);simp (disch:=omega) only [push_cast,↓iC9,simprocAttr];refine hK _ ?_;clear hK K
 refine zA ?_;refine zW ?_;simp only [yA,yM,yH,yE,aL,aV,yK,yJ,zS,zM,Nat.reduceEqDiff,reduceIte,reduceCtorEq];exact bQ rfl
theorem qUz (p:ByteArray):(par p).size≤p.size:=by rw [par,ByteArray.size_extract];omega
theorem mx {s:ByteArray} (h:s.size≤1048576):s.size≤maxLen:=Nat.le_trans h (by decide)
set_option maxHeartbeats 1000000 in
theorem qXg (d:Dk) (p:ByteArray) (r1 r2:Nat) (hs:p.size≤1048576):HFunM Tryz.prog 62 [.ptr 0 6 0 0,.v (.string p)] [(0,.bx false 64 (d.cells r1 r2))] (d.maps kS r1 r2) (fun h st g=>h=.v (.bool (jB d p))∧st=[(0,.bx false 64 (d.cells r1 r2))]∧g=d.maps kS r1 r2):=by
 refine kC (N:=18) Tryz.func62 rfl Tryz.ntmps62 Tryz.results62 (by simp) ?_
 have hde:=zLa p hs
 have hpa:=qUy p hs
 simp only [bM];unfold jB;refine aA ?_;refine aC (fun K hK=>?_);simp (disch:=omega) only [push_cast,↓iC9,simprocAttr];refine hK _ ?_;clear hK K
 by_cases h1:qDx p=1
 ·rw [h1] at hde ⊢;refine aA ?_;refine qHe 10 mixed (by kernel_rfl) (fun K1 hK1=>?_)
  simp (disch:=omega) only [push_cast,↓iC9,simprocAttr];refine zB4 zQ0 hde (.cons (.v _) .nil) ?_;with_reducible refine aU ?_;simp (disch:=omega) only [push_cast,↓iC9,simprocAttr]
  refine hK1 _ ?_;(try clear hK1 K1);refine aG 4 (fun K1 hK1=>?_);simp (disch:=omega) only [push_cast,↓iC9,simprocAttr,aE,aD];refine hK1 _ ?_;(try clear hK1 K1)
  refine aR ?_;refine aB ?_;refine bB ?_;simp only [aJ,aP,yH,yE,yK,yJ,aS,zS,zM,Nat.reduceEqDiff,reduceIte,reduceCtorEq];refine cE [0] [] (by first|rfl|simp [bsL,MO.bs]) (by decide) (by decide) (by simp only [push_cast,simprocAttr]) (by simp only [push_cast,simprocAttr]) (by simp only [push_cast,simprocAttr];rfl) (by simp only [push_cast,simprocAttr];rfl) ?_
  exact ⟨by simp,rfl,rfl⟩
 ·refine aA ?_;refine qHe 10 mixed (by kernel_rfl) (fun K1 hK1=>?_)
  simp (disch:=omega) only [push_cast,↓iC9,simprocAttr];refine zB4 zQ0 hde (.cons (.v _) .nil) ?_;with_reducible refine aU ?_;simp (disch:=omega) only [push_cast,↓iC9,simprocAttr,h1]
  refine zB4 zTb hpa (.cons (.v _) .nil) ?_;with_reducible refine aU ?_;simp (disch:=omega) only [push_cast,↓iC9,simprocAttr]
  refine hK1 _ ?_;(try clear hK1 K1);refine fA (i:=0) mtI rfl rfl rfl rfl rfl rfl (mx (Nat.le_trans (qUz p) hs)) ?_;refine aG 3 (fun K1 hK1=>?_);simp (disch:=omega) only [push_cast,↓iC9,simprocAttr,aE,aD,iG,iV];refine hK1 _ ?_;(try clear hK1 K1)
  refine aR ?_;refine aB ?_;refine bB ?_;simp only [aJ,aP,yH,yE,yK,yJ,aS,zS,zM,Nat.reduceEqDiff,reduceIte,reduceCtorEq];refine cE [0] [] (by first|rfl|simp [bsL,MO.bs]) (by decide) (by decide) (by simp only [push_cast,simprocAttr]) (by simp only [push_cast,simprocAttr]) (by simp only [push_cast,simprocAttr];rfl) (by simp only [push_cast,simprocAttr];rfl) ?_
  exact ⟨by simp [h1,aT],rfl,rfl⟩
end Go.Proofs.YtlihpgmgiehjkaaGreatDoor
end
section
set_option maxRecDepth 20000
namespace Go.Proofs.YtlihpgmgiehjkaaGreatDoor
open Go Go.Eng Go.RowKit Go.Tr Go.Dk
theorem cJ (d:Dk) (k r1 r2:Nat):d.maps k r1 r2=[.map r1 k d.n (tab Itm.val d.L),.map r2 k d.m (tab gM d.R)]:=rfl
set_option maxHeartbeats 1000000 in
theorem zPc (d:Dk) (p:ByteArray) (x:Itm) (r1 r2:Nat) (hs:p.size≤1048576) (hn:d.n < maxLen) (hst:0≤d.stamps∧d.stamps < 4611686018427387904) :
  HFunM Tryz.prog 57 [.ptr 0 6 0 0,.v (.string p),x.hv] [(0,.bx false 64 (d.cells r1 r2))] (d.maps kS r1 r2) (fun h st g=>h=.tup []∧st=[(0,.bx false 64 ((pW d p x).cells r1 r2))]∧g=(pW d p x).maps kS r1 r2):=by
 refine kC (N:=24) Tryz.func57 rfl Tryz.ntmps57 Tryz.results57 (by simp) ?_
 obtain ⟨L,R,steps,stamps,armed,down,n,m⟩:=d;obtain ⟨di,da,ke,lo,an,sta⟩:=x;simp only at hn hst;simp only [bM,iV,cJ,pW];refine aA ?_;refine aC (fun K hK=>?_);simp (disch:=omega) only [push_cast,↓iC9,simprocAttr];refine hK _ ?_;clear hK K
 refine aA ?_;refine aC (fun K hK=>?_);simp (disch:=omega) only [push_cast,↓iC9,simprocAttr];refine hK _ ?_;clear hK K
 refine aA ?_;refine aC (fun K hK=>?_);simp (disch:=omega) only [push_cast,↓iC9,simprocAttr];refine hK _ ?_;clear hK K
 refine aB ?_;refine qHe 6 mixed (by kernel_rfl) (fun K1 hK1=>?_)
 simp (disch:=omega) only [push_cast,↓iC9,simprocAttr];refine hK1 _ ?_;(try clear hK1 K1);refine qHf (i:=0) mtI rfl rfl rfl rfl (hn) rfl rfl (mx hs) rfl rfl ?_;refine aR ?_
 skip
 simp only [aJ,aP,yH,yE,yK,yJ,aS,zS,zM,Nat.reduceEqDiff,reduceIte,reduceCtorEq];refine cE [0] [] (by first|rfl|simp [bsL,MO.bs]) (by decide) (by decide) (by simp only [push_cast,simprocAttr]) (by simp only [push_cast,simprocAttr]) (by simp only [push_cast,simprocAttr];rfl) (by simp only [push_cast,simprocAttr];rfl) ?_
 exact ⟨rfl,rfl,by rw [← qBw];rfl⟩
set_option maxHeartbeats 1000000 in
theorem zFp (d:Dk) (B:Int) (hd:d.Ok B) (hB:B≤1099511627776) (v:ByteArray) (r1 r2:Nat) :
  HFunM Tryz.prog 24 [.ptr 0 6 0 0,.v (.string v)] [(0,.bx false 64 (d.cells r1 r2))] (d.maps kS r1 r2) (fun h st g=>h=.v (.int .i64 (used d v))∧st=[(0,.bx false 64 (d.cells r1 r2))]∧g=d.maps kS r1 r2):=by
 refine kC (N:=30) Tryz.func24 rfl Tryz.ntmps24 Tryz.results24 (by simp) ?_
 obtain ⟨hri,hke,hto,-,-,-,-,-⟩:=hd;obtain ⟨L,R,steps,stamps,armed,down,n,m⟩:=d;simp only at hri hke hto;simp only [bM,cJ,used];refine aA ?_;refine aC (fun K hK=>?_);simp (disch:=omega) only [push_cast,↓iC9,simprocAttr];refine hK _ ?_;clear hK K
 refine aA ?_;refine aC (fun K hK=>?_);simp (disch:=omega) only [push_cast,↓iC9,simprocAttr];refine hK _ ?_;clear hK K
 refine aA ?_;refine aA ?_;refine aC (fun K hK=>?_);simp (disch:=omega) only [push_cast,↓iC9,simprocAttr];refine hK _ ?_;clear hK K
 refine aB ?_;refine bX rfl ?_;refine aA ?_;refine aX ?_;refine aG 4 (fun K1 hK1=>?_);simp (disch:=omega) only [push_cast,↓iC9,simprocAttr];refine hK1 _ ?_;(try clear hK1 K1)
 refine qSe (i:=0) mtI rfl rfl rfl rfl rfl fun it cnt=>?_
 refine aR ?_;refine aB ?_;refine bG ?_;refine mK (ι:=(List UInt8→Bool) × Nat × Option (ByteArray × Value)) (fun q=>⟨[(0,.ptr 0 6 0 0),(1,.v (.string v)),(5,.v (.int .i64 (kJ q.1 v L))),(14,.v (.pointer (some ⟨it,0,none⟩)))],[(0,.bx false 64 [.v (.map (some r1)),.v (.map (some r2)),.v (.int .i64 steps),.v (.int .i64 stamps),.v (.int .i64 armed),.v (.bool down)])]⟩)
  (fun q=>[.itr it r1 kS n (tab Itm.val L) q.1 q.2.1 q.2.2,.map r2 kS m (tab gM R)]) (fun _=>True) (fun q=>q.2.1) [0,1,5,14] [0] (fun s=>(tab Itm.val L s).isSome,cnt,none) ?_ rfl trivial ?_
 ·dsimp only;rw [qHm v fun e he=>by rw [oH,cN hri he];rfl]
  rfl
 ·rintro ⟨left,cn,cur⟩ -;dsimp only;refine aA ?_;refine aX ?_;refine qX8 (i:=0) mtI rfl rfl rfl rfl rfl (fun hz=>?_) (fun s w c' hl hM hsz hlt=>?_)
  ·refine aG 1 (fun K1 hK1=>?_);simp (disch:=omega) only [push_cast,↓iC9,simprocAttr,aE,aD];refine hK1 _ ?_;(try clear hK1 K1)
   refine aR ?_;refine aA ?_;refine aW rfl ?_;refine gA ?_;refine cY ?_;refine cY ?_;refine fW ?_;refine aA ?_;refine zC1 (i:=0) rfl ?_;refine aC (fun K hK=>?_);simp (disch:=omega) only [push_cast,↓iC9,simprocAttr];refine hK _ ?_;clear hK K
   refine aB ?_;refine bB ?_;simp only [aJ,aP,yH,yE,yK,yJ,aS,zS,zM,Nat.reduceEqDiff,reduceIte,reduceCtorEq];refine cE [0] [] (by first|rfl|simp [bsL,MO.bs]) (by decide) (by decide) (by simp only [push_cast,simprocAttr]) (by simp only [push_cast,simprocAttr]) (by simp only [push_cast,simprocAttr];rfl) (by simp only [push_cast,simprocAttr];rfl) ?_
   exact ⟨by rw [qD6 v hz],rfl,rfl⟩
  ·obtain ⟨x,hx,rfl⟩:∃ x,aH L s=some x∧w=x.val:=by
    rw [qA3] at hM
    cases hx:aH L s with
   |none=>rw [hx] at hM;cases hM
   |some x=>rw [hx] at hM;exact ⟨x,rfl,(Option.some.inj hM).symm⟩
   have hmem:=cB hx
   have hss:=hke _ hmem
   have hst:=qHk (v:=v) hl hri hmem
   have hle:=qBt (fun q=>left q && !(q == s.data.toList)) v L
   have hle0:=qBt left v L
   generalize hW:kJ left v L=W at *
   refine aG 1 (fun K1 hK1=>?_);simp (disch:=omega) only [push_cast,↓iC9,simprocAttr,aE,aD,qTj,iV];refine hK1 _ ?_;(try clear hK1 K1)
   refine aR ?_;refine aA ?_;refine bX rfl ?_;refine aN ?_;refine aB ?_;refine bG ?_;refine aA ?_;refine aX ?_;refine qSf (i:=0) rfl rfl rfl rfl rfl ?_;refine aG 5 (fun K1 hK1=>?_);simp (disch:=omega) only [push_cast,↓iC9,simprocAttr,aE,aD,qTj,iV];refine hK1 _ ?_;(try clear hK1 K1)
   refine aR ?_;refine aA ?_;refine aC (fun K hK=>?_);simp (disch:=omega) only [push_cast,↓iC9,simprocAttr]
   refine dJ zQ4 (zN3 s hss) (.cons (.v _) .nil) ?_;with_reducible refine aU ?_;simp (disch:=omega) only [push_cast,↓iC9,simprocAttr]
   refine hK _ ?_;clear hK K;refine aB ?_
   by_cases hv:vol s=v
   ·rw [if_pos hv] at hst;refine bA rfl (fun _=>?_) (fun hf=>by simp [hv] at hf)
    refine aC (fun K hK=>?_);simp (disch:=omega) only [push_cast,↓iC9,simprocAttr];refine hK _ ?_;clear hK K
    refine aZ ?_;refine aB ?_;refine ⟨(fun q=>left q && !(q == s.data.toList),c',some (s,x.val)),?_,rfl,trivial,hlt⟩
    dsimp only;rw [hst];rfl
   ·rw [if_neg hv] at hst;refine bA rfl (fun ht=>by simp [hv] at ht) (fun _=>?_)
    refine aN ?_;refine aZ ?_;refine aB ?_;refine ⟨(fun q=>left q && !(q == s.data.toList),c',some (s,x.val)),?_,rfl,trivial,hlt⟩
    dsimp only;rw [hst,Int.add_zero];rfl
set_option maxHeartbeats 1000000 in
theorem zP9 (d:Dk) (B:Int) (hd:d.Ok B) (hB:B≤1099511627776) (p:ByteArray) (more:Int) (r1 r2:Nat) (hs:p.size≤1048576) (hm:-1099511627776≤more∧more≤1099511627776) :
  HFunM Tryz.prog 64 [.ptr 0 6 0 0,.v (.string p),.v (.int .i64 more)] [(0,.bx false 64 (d.cells r1 r2))] (d.maps kS r1 r2) (fun h st g=>h=.v (.bool (qG0 d p more))∧st=[(0,.bx false 64 (d.cells r1 r2))]∧g=d.maps kS r1 r2):=by
 refine kC (N:=35) Tryz.func64 rfl Tryz.ntmps64 Tryz.results64 (by simp) ?_
 have hv:=zN3 p hs
 have hvs:=zFl p
 have hu:=zFp d B hd hB (vol p) r1 r2
 have hu0:0≤used d (vol p)∧used d (vol p)≤tot d.L:=by
  have:=qBt (fun _=>false) (vol p) d.L
  rw [qD6 _ fun _=>rfl] at this
  exact this
 have hto:=hd.size
 simp only [bM,cJ] at hu ⊢;unfold qG0;refine aA ?_;refine aC (fun K hK=>?_);simp (disch:=omega) only [push_cast,↓iC9,simprocAttr];refine hK _ ?_;clear hK K
 refine aA ?_;refine zLv 11 mixed (by kernel_rfl) (fun K1 hK1=>?_)
 refine qD0 6 (by decide) (fun K2 hK2=>?_)
 simp (disch:=omega) only [push_cast,↓iC9,simprocAttr];refine zB4 zQ4 hv (.cons (.v _) .nil) ?_;with_reducible refine aU ?_;simp (disch:=omega) only [push_cast,↓iC9,simprocAttr]
 refine hK2 _ ?_;refine zLx (q:=1) rfl mtL rfl rfl rfl rfl rfl rfl (mx (Nat.le_trans hvs hs)) ?_;refine qD0 4 (by decide) (fun K3 hK3=>?_)
 simp (disch:=omega) only [push_cast,↓iC9,simprocAttr,aE,qU9,zHg];refine hK3 _ ?_;refine qTs ?_;refine hK1 _ ?_;(try clear hK1 K1);refine aG 1 (fun K1 hK1=>?_);simp (disch:=omega) only [push_cast,↓iC9,simprocAttr,aE,aD];refine hK1 _ ?_;(try clear hK1 K1)
 refine aR ?_;refine bC [0,1,2,6,7,8] [0] (by simp only [zZ,zR,zP,zQ,zN,zS,zM,zX,zU,Nat.reduceEqDiff,reduceIte];exact rfl) ?_
 cases hl:aH d.R (vol p) with
|none =>
  dsimp only [Option.isSome,Option.getD];refine aA ?_;refine aC (fun K hK=>?_);simp (disch:=omega) only [push_cast,↓iC9,simprocAttr];refine hK _ ?_;clear hK K
  refine aB ?_;refine bB ?_;simp only [aJ,aP,yH,yE,yK,yJ,aS,zS,zM,Nat.reduceEqDiff,reduceIte,reduceCtorEq];refine cE [0] [] (by first|rfl|simp [bsL,MO.bs]) (by decide) (by decide) (by simp only [push_cast,simprocAttr]) (by simp only [push_cast,simprocAttr]) (by simp only [push_cast,simprocAttr];rfl) (by simp only [push_cast,simprocAttr];rfl) ?_
  exact ⟨rfl,rfl,rfl⟩
|some n =>
  dsimp only [Option.isSome,Option.getD]
  by_cases hm0:more≤0
  ·refine aA ?_;refine aC (fun K hK=>?_);simp (disch:=omega) only [push_cast,↓iC9,simprocAttr,hm0];refine hK _ ?_;clear hK K
   refine aB ?_;refine bB ?_;simp only [aJ,aP,yH,yE,yK,yJ,aS,zS,zM,Nat.reduceEqDiff,reduceIte,reduceCtorEq];refine cE [0] [] (by first|rfl|simp [bsL,MO.bs]) (by decide) (by decide) (by simp only [push_cast,simprocAttr]) (by simp only [push_cast,simprocAttr]) (by simp only [push_cast,simprocAttr];rfl) (by simp only [push_cast,simprocAttr];rfl) ?_
   exact ⟨by simp [hm0],rfl,rfl⟩
  ·have e0:decide (more≤0)=false:=decide_eq_false hm0
   rw [e0,Bool.false_or];refine aA ?_;refine aX ?_;refine aG 10 (fun K1 hK1=>?_);simp (disch:=omega) only [push_cast,↓iC9,simprocAttr,e0]
   refine dJ zQ4 hv (.cons (.v _) .nil) ?_;with_reducible refine aU ?_;simp (disch:=omega) only [push_cast,↓iC9,simprocAttr]
   refine hK1 _ ?_;(try clear hK1 K1);refine bN 232 [0] zTg (hu) rfl rfl rfl rfl (by simp only [push_cast,simprocAttr];exact rfl) (by decide) (by decide) (by decide) (by simp only [push_cast,simprocAttr];try rfl) (by simp only [push_cast,simprocAttr];try rfl) ?_
   rintro _ _ _ ⟨rfl,rfl,rfl⟩;generalize used d (vol p)=U at *
   refine aG 6 (fun K1 hK1=>?_);simp (disch:=omega) only [push_cast,↓iC9,simprocAttr,aE,aD];refine hK1 _ ?_;(try clear hK1 K1)
   refine aR ?_;refine aB ?_;refine bB ?_;simp only [aJ,aP,yH,yE,yK,yJ,aS,zS,zM,Nat.reduceEqDiff,reduceIte,reduceCtorEq];refine cE [0] [] (by first|rfl|simp [bsL,MO.bs]) (by decide) (by decide) (by simp only [push_cast,simprocAttr]) (by simp only [push_cast,simprocAttr]) (by simp only [push_cast,simprocAttr];rfl) (by simp only [push_cast,simprocAttr];rfl) ?_
   exact ⟨rfl,rfl,rfl⟩
end Go.Proofs.YtlihpgmgiehjkaaGreatDoor
end
