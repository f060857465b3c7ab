/-
  The disk's functions: a file's new state; how many bytes a volume has; is qJi jY.
-/
import Derived.Test.YtlihpgmgiehjkaaGreatDoorRkD
import Derived.Test.YtlihpgmgiehjkaaGreatDoorDkB
set_option linter.unusedSimpArgs false
set_option linter.unusedVariables false
section
set_option maxRecDepth 20000
namespace Go.Dk
open Go Go.Eng Go.Tr
theorem zE7 {α:Type} {p:ByteArray} {L:List (ByteArray × α)} {i:Nat} (hi:i≤less p L) (h:i < L.length) (hb:blt L[i].1 p=true):i + 1≤less p L:=by
 rcases Nat.lt_or_ge i (less p L) with h1|h1
 ·exact h1
 ·have e:i=less p L:=by omega
  subst e;rw [qQ0 p L h] at hb;cases hb
theorem zJc {α:Type} {p:ByteArray} {L:List (ByteArray × α)} {i:Nat} (hi:i≤less p L) (hb:∀ h:i < L.length,blt L[i].1 p=false):i=less p L:=by
 rcases Nat.lt_or_ge i (less p L) with h1|h1
 ·have h2:=qT8 p L
  have:=qWe p L i (by omega) h1
  rw [hb (by omega)] at this;cases this
 ·omega
theorem zGx {α:Type} {p:ByteArray} {L:List (ByteArray × α)} (h:less p L < L.length):iP p L=if L[less p L].1=p then 1 else 0:=by
 rw [iP,List.getElem?_eq_getElem h]
theorem qZh {α:Type} {p:ByteArray} {L:List (ByteArray × α)} (h:¬ less p L < L.length):iP p L=0:=by
 rw [iP,List.getElem?_eq_none (by omega)]
theorem zH8 {α:Type} {L:List α} {i k:Nat} (h:i < L.length) (hk:k≤i):(L.take (i + 1)).drop k=(L.take i).drop k ++ [L[i]]:=by
 rw [List.take_succ_eq_append_getElem h,List.drop_append_of_le_length (by rw [List.length_take];omega)]
abbrev qVt (p:ByteArray) (x:Itm) (L:LI) (R:LN) (fr nw:Bool) (steps stamps armed:Int) (down:Bool) (out:LI):aJ:=[(9000,.sl true 76 7 (fT out)),(24,.bx true 76 [.v (.string p),.v (.bool x.dir),.v (.string x.data),.v (.string x.kept),.v (.bool x.loose),.v (.bool x.anew),.v (.int .i64 x.stamp)]),(0,.bx false 68 [.lst fr (fT L),.own 1,.v (.int .i64 steps),.v (.int .i64 stamps),.v (.int .i64 armed),.v (.bool down)]),(1,.sl nw 126 2 (rms R))]
end Go.Dk
namespace Go.Proofs.YtlihpgmgiehjkaaGreatDoor
open Go Go.Eng Go.RowKit Go.Tr Go.Dk
set_option maxHeartbeats 4000000 in
theorem qE2 (d:Dk) (R:LN) (fr nw:Bool) (p:ByteArray) (x:Itm) (hr:eU d.L) (hl:d.L.length≤4194304):HFunS Tryz.prog 68 [.ptr 0 6 0 0,zQj p x] (rst d R fr nw) (fun h st=>h=.tup []∧st=rst { d with L:=put p x d.L } R true nw):=by
 refine pS (N:=87) Tryz.func68 rfl Tryz.ntmps68 Tryz.results68 (by simp) ?_
 obtain ⟨L,Rq,steps,stamps,armed,down,n,m⟩:=d;simp only [rst,iX] at hl hr ⊢
 have hps:=qQd p x hr
 have hle:=qT8 p L
 refine zE ?_;refine zJ (fun K hK=>?_);simp (disch:=omega) only [push_cast,↓iC9,simprocAttr];refine hK _ ?_;clear hK K
 refine zE ?_;refine zJ (fun K hK=>?_);simp (disch:=omega) only [push_cast,↓iC9,simprocAttr];refine hK _ ?_;clear hK K
 refine zE ?_;refine zJ (fun K hK=>?_);simp (disch:=omega) only [push_cast,↓iC9,simprocAttr];refine hK _ ?_;clear hK K
 refine zE ?_;refine zD ?_;refine qA3 4 9000 76 7 rfl (by simp only [lK,pH,pK,fC,dV,eV,dS,iS,eZ,fA,eY,eX,gC,fB,eW,dU,fW,fY,fX,iR,jB,gU,Nat.reduceBEq,Nat.reduceEqDiff,reduceIte,cond_true,cond_false,List.map_cons,List.map_nil];exact rfl) ?_
 refine dW (fun i:Nat=>⟨[(0,.ptr 0 6 0 0),(3,.ptr 24 7 0 0),(4,.own 9000),(5,.v (.int .i64 i))],qVt p x L R fr nw steps stamps armed down (L.take i)⟩) (fun i=>i≤less p L) (fun i=>L.length - i) [0,3,4,5] [9000,24,0,1] 0 (by simp only [zZ,zR,zP,zQ,zN,zS,zM,zX,zU,Nat.reduceEqDiff,reduceIte];rfl) (Nat.zero_le _) ?_
 rintro i hi
 have hil:i≤L.length:=by omega
 by_cases hc:∃ h:i < L.length,blt L[i].1 p=true
 ·obtain ⟨hlt,hb⟩:=hc
  have hn:=zE7 hi hlt hb
  have hb3:Op.bytesLess L[i].1.toList p.toList=true:=hb
  have htl:(L.take i).length≤i:=by rw [List.length_take];omega
  have hts:fT (L.take (i + 1))=fT (L.take i) ++ [[.v (.string L[i].1),.v (.bool L[i].2.dir),.v (.string L[i].2.data),.v (.string L[i].2.kept),.v (.bool L[i].2.loose),.v (.bool L[i].2.anew),.v (.int .i64 L[i].2.stamp)]]:=by rw [List.take_succ_eq_append_getElem hlt,← uL]
  refine zE ?_;refine zE ?_;refine HW_drw 20 mixed (by kernel_rfl) (fun K hK=>?_);simp (disch:=omega) only [push_cast,↓iC9,simprocAttr,bG,bU,bY hlt,hb3]
  with_reducible refine aM ?_;simp (disch:=omega) only [push_cast,↓iC9,simprocAttr]
  refine hK _ ?_;clear hK K;refine yD rfl ?_;refine zC ?_;refine zA ?_;refine zD ?_;refine zE ?_;refine zJ (fun K hK=>?_);simp (disch:=omega) only [push_cast,↓iC9,simprocAttr,bG,bU,bY hlt]
  (repeat refine ⟨by first|omega|decide|((repeat' apply And.intro) <;> first|omega|decide),?_⟩)
  refine hK _ ?_;clear hK K;refine zA ?_;refine zJ (fun K hK=>?_);simp (disch:=omega) only [push_cast,↓iC9,simprocAttr];refine hK _ ?_;clear hK K
  refine zB ?_;refine zA ?_;exact ⟨i + 1,by simp only [zZ,zR,zP,zQ,zN,zS,zM,zX,zU,Nat.reduceEqDiff,reduceIte,qVt];rw [hts];rfl,hn,by omega⟩
 have hie:i=less p L:=zJc hi fun h=>by
  cases hb:blt L[i].1 p with
 |false=>rfl
 |true=>exact absurd ⟨h,hb⟩ hc
 refine zE ?_;refine zE ?_;refine kK (fun _:Unit=>⟨[(0,.ptr 0 6 0 0),(3,.ptr 24 7 0 0),(4,.own 9000),(5,.v (.int .i64 i)),(25,.v (.bool false))],qVt p x L R fr nw steps stamps armed down (L.take i)⟩) (fun _=>True) [0,3,4,5,25] [9000,24,0,1] ?_ ?_
 ·by_cases hlt:i < L.length
  ·have hb3:Op.bytesLess L[i].1.toList p.toList=false:=by
    cases hb:Op.bytesLess L[i].1.toList p.toList with
   |false=>rfl
   |true=>exact absurd ⟨hlt,hb⟩ hc
   refine HW_drw 20 mixed (by kernel_rfl) (fun K hK=>?_);simp (disch:=omega) only [push_cast,↓iC9,simprocAttr,bG,bU,bY hlt,hb3]
   with_reducible refine aM ?_;simp (disch:=omega) only [push_cast,↓iC9,simprocAttr]
   refine hK _ ?_;clear hK K;exact ⟨(),by simp only [zZ,zR,zP,zQ,zN,zS,zM,zX,zU,Nat.reduceEqDiff,reduceIte];try rfl,trivial⟩
  ·refine HW_drw 20 mixed (by kernel_rfl) (fun K hK=>?_);simp (disch:=omega) only [push_cast,↓iC9,simprocAttr,bG]
   with_reducible refine aM ?_;simp (disch:=omega) only [push_cast,↓iC9,simprocAttr]
   refine hK _ ?_;clear hK K;exact ⟨(),by simp only [zZ,zR,zP,zQ,zN,zS,zM,zX,zU,Nat.reduceEqDiff,reduceIte];try rfl,trivial⟩
 intro S' _ hE _;refine zA ?_;refine yB [0,3,4,5,25] [9000,24,0,1] hE ?_;clear hE;refine yC rfl ?_;refine zT ?_;refine zG ?_;refine zG ?_;refine zH ?_;refine zE ?_;refine zE ?_;subst hie;clear hi hil hc;generalize hk0:less p L=k at *
 have hs1:k + iP p L≤L.length:=by
  rw [iP,hk0];split
  ·rename_i e he
   have:=(List.getElem?_eq_some_iff.1 he).1
   split <;> omega
  ·omega
 skip
 refine kK (fun _:Unit=>⟨[(0,.ptr 0 6 0 0),(3,.ptr 24 7 0 0),(4,.own 9000),(5,.v (.int .i64 k)),(57,.v (.bool (decide (iP p L=1))))],qVt p x L R fr nw steps stamps armed down (L.take k)⟩) (fun _=>True) [0,3,4,5,57] [9000,24,0,1] ?_ ?_
 ·by_cases hlt:k < L.length
  ·have e1:iP p L=if L[k].1=p then 1 else 0:=by subst hk0;exact zGx hlt
   by_cases he:L[k].1=p
   ·have hd:decide (L[k].1=p)=true:=decide_eq_true he
    rw [if_pos he] at e1;rw [e1];refine HW_drw 20 mixed (by kernel_rfl) (fun K hK=>?_);simp (disch:=omega) only [push_cast,↓iC9,simprocAttr,bG,bU,bY hlt,hd]
    with_reducible refine aM ?_;simp (disch:=omega) only [push_cast,↓iC9,simprocAttr]
    refine hK _ ?_;clear hK K;exact ⟨(),by simp only [zZ,zR,zP,zQ,zN,zS,zM,zX,zU,Nat.reduceEqDiff,reduceIte];try rfl,trivial⟩
   ·have hd:decide (L[k].1=p)=false:=decide_eq_false he
    rw [if_neg he] at e1;rw [e1];refine HW_drw 20 mixed (by kernel_rfl) (fun K hK=>?_);simp (disch:=omega) only [push_cast,↓iC9,simprocAttr,bG,bU,bY hlt,hd]
    with_reducible refine aM ?_;simp (disch:=omega) only [push_cast,↓iC9,simprocAttr]
    refine hK _ ?_;clear hK K;exact ⟨(),by simp only [zZ,zR,zP,zQ,zN,zS,zM,zX,zU,Nat.reduceEqDiff,reduceIte];try rfl,trivial⟩
  ·have e1:iP p L=0:=by subst hk0;exact qZh hlt
   rw [e1];refine HW_drw 20 mixed (by kernel_rfl) (fun K hK=>?_);simp (disch:=omega) only [push_cast,↓iC9,simprocAttr,bG]
   with_reducible refine aM ?_;simp (disch:=omega) only [push_cast,↓iC9,simprocAttr]
   refine hK _ ?_;clear hK K;exact ⟨(),by simp only [zZ,zR,zP,zQ,zN,zS,zM,zX,zU,Nat.reduceEqDiff,reduceIte];try rfl,trivial⟩
 intro S' _ hE _;refine zA ?_;refine yB [0,3,4,5,57] [9000,24,0,1] hE ?_;clear hE
 have h01:iP p L=1∨iP p L=0:=by
  rw [iP];split
  ·split <;> simp
  ·simp
 obtain ⟨q,hq⟩:∃ q,k + iP p L=q:=⟨_,rfl⟩;rw [hq] at hs1 hps
 skip
 refine kK (fun _:Unit=>⟨[(0,.ptr 0 6 0 0),(3,.ptr 24 7 0 0),(4,.own 9000),(5,.v (.int .i64 q))],qVt p x L R fr nw steps stamps armed down (L.take k)⟩) (fun _=>True) [0,3,4,5] [9000,24,0,1] ?_ ?_
 ·rcases h01 with h1|h1
  ·rw [h1] at hq ⊢;refine yD rfl ?_;refine zJ (fun K hK=>?_);simp (disch:=omega) only [push_cast,↓iC9,simprocAttr];refine hK _ ?_;clear hK K
   exact ⟨(),by simp only [zZ,zR,zP,zQ,zN,zS,zM,zX,zU,Nat.reduceEqDiff,reduceIte];rw [← hq];rfl,trivial⟩
  ·rw [h1] at hq ⊢;refine yC rfl ?_;refine zC ?_;exact ⟨(),by simp only [zZ,zR,zP,zQ,zN,zS,zM,zX,zU,Nat.reduceEqDiff,reduceIte];rw [← hq];rfl,trivial⟩
 intro S' _ hE _;refine zE ?_;refine yB [0,3,4,5] [9000,24,0,1] hE ?_;clear hE
 have hkl:(L.take k).length≤k:=by rw [List.length_take];omega
 refine zJ (fun K hK=>?_);simp (disch:=omega) only [push_cast,↓iC9,simprocAttr,bG,bU]
 (repeat refine ⟨by first|omega|decide|((repeat' apply And.intro) <;> first|omega|decide),?_⟩)
 refine hK _ ?_;clear hK K;refine zE ?_;refine zD ?_
 have hone:fT (L.take k ++ [(p,x)])=fT (L.take k) ++ [[.v (.string p),.v (.bool x.dir),.v (.string x.data),.v (.string x.kept),.v (.bool x.loose),.v (.bool x.anew),.v (.int .i64 x.stamp)]]:=by rw [← uL]
 have hqq:(L.take q).drop q=[]:=List.drop_of_length_le (by rw [List.length_take];omega)
 refine dW (fun i:Nat=>⟨[(0,.ptr 0 6 0 0),(3,.ptr 24 7 0 0),(4,.own 9000),(5,.v (.int .i64 i))],qVt p x L R fr nw steps stamps armed down (L.take k ++ [(p,x)] ++ (L.take i).drop q)⟩) (fun i=>q≤i∧i≤L.length) (fun i=>L.length - i) [0,3,4,5] [9000,24,0,1] q (by simp only [zZ,zR,zP,zQ,zN,zS,zM,zX,zU,Nat.reduceEqDiff,reduceIte,qVt];rw [hqq,List.append_nil,hone]) ⟨Nat.le_refl _,hs1⟩ ?_
 rintro i ⟨hqi,hil⟩
 by_cases hlt:i < L.length
 ·have hml:(L.take k ++ [(p,x)] ++ (L.take i).drop q).length≤8388610:=by
   simp only [List.length_append,List.length_take,List.length_drop,List.length_singleton];omega
  have hmn:L.take k ++ [(p,x)] ++ (L.take (i + 1)).drop q=(L.take k ++ [(p,x)] ++ (L.take i).drop q) ++ [L[i]]:=by rw [zH8 hlt hqi,List.append_assoc _ _ [L[i]]]
  have hms:fT (L.take k ++ [(p,x)] ++ (L.take (i + 1)).drop q)=fT (L.take k ++ [(p,x)] ++ (L.take i).drop q) ++ [[.v (.string L[i].1),.v (.bool L[i].2.dir),.v (.string L[i].2.data),.v (.string L[i].2.kept),.v (.bool L[i].2.loose),.v (.bool L[i].2.anew),.v (.int .i64 L[i].2.stamp)]]:=by rw [hmn,← uL]
  generalize L.take k ++ [(p,x)] ++ (L.take i).drop q=out at *
  refine zE ?_;refine zE ?_;refine zJ (fun K hK=>?_);simp (disch:=omega) only [push_cast,↓iC9,simprocAttr,bG];refine hK _ ?_;clear hK K
  refine zA ?_;refine yD rfl ?_;refine zC ?_;refine zA ?_;refine zD ?_;refine zE ?_;refine zJ (fun K hK=>?_);simp (disch:=omega) only [push_cast,↓iC9,simprocAttr,bG,bU,bY hlt]
  (repeat refine ⟨by first|omega|decide|((repeat' apply And.intro) <;> first|omega|decide),?_⟩)
  refine hK _ ?_;clear hK K;refine zA ?_;refine zJ (fun K hK=>?_);simp (disch:=omega) only [push_cast,↓iC9,simprocAttr];refine hK _ ?_;clear hK K
  refine zB ?_;refine zA ?_;exact ⟨i + 1,by simp only [zZ,zR,zP,zQ,zN,zS,zM,zX,zU,Nat.reduceEqDiff,reduceIte,qVt];rw [hms];rfl,⟨by omega,hlt⟩,by omega⟩
 ·have hne:i=L.length:=by omega
  subst hne
  have hfin:L.take k ++ [(p,x)] ++ (L.take L.length).drop q=put p x L:=by rw [List.take_length,hps];simp
  rw [hfin];refine zE ?_;refine zE ?_;refine zJ (fun K hK=>?_);simp (disch:=omega) only [push_cast,↓iC9,simprocAttr,bG];refine hK _ ?_;clear hK K
  refine zA ?_;refine yC rfl ?_;refine zT ?_;refine zG ?_;refine zG ?_;refine zH ?_;refine zA ?_;refine xH 9000 rfl (by simp only [oK,lX,jQ,lJ,jH,vF,lP,lQ,jN,lN,lM,oQ,lR,lL,oF,oG,oH,Nat.reduceEqDiff,reduceIte,List.map_cons,List.map_nil,List.map_append];exact rfl) ?_
  refine zJ (fun K hK=>?_);simp (disch:=omega) only [push_cast,↓iC9,simprocAttr];refine hK _ ?_;clear hK K
  skip
  simp only [aR,aZ,yH,yE,yK,yJ,aH,zS,zM,Nat.reduceEqDiff,reduceIte,reduceCtorEq];refine cZ [0,1] (by decide) (by decide) (by simp only [push_cast,simprocAttr]) (by simp only [push_cast,simprocAttr]) (by simp only [push_cast,simprocAttr];rfl) (by simp only [push_cast,simprocAttr];rfl) ?_
  exact ⟨rfl,rfl⟩
end Go.Proofs.YtlihpgmgiehjkaaGreatDoor
end
section
set_option maxRecDepth 20000
namespace Go.Proofs.YtlihpgmgiehjkaaGreatDoor
open Go Go.Eng Go.RowKit Go.Tr Go.Dk
theorem cS (d:Dk) (k r1 r2:Nat):d.maps k r1 r2=[.map r1 k d.n (tab Itm.val d.L),.map r2 k d.m (tab jL d.R)]:=rfl
set_option maxHeartbeats 1000000 in
theorem qVh (d:Dk) (p:ByteArray) (x:Itm) (r1 r2:Nat) (hs:p.size≤1048576) (hn:d.n < maxLen) (hst:0≤d.stamps∧d.stamps < 4611686018427387904) :
  HFunM Tryz.prog 57 [.ptr 0 6 0 0,.v (.string p),x.hv] [(0,.bx false 64 (d.cells r1 r2))] (d.maps kS r1 r2) (fun h st g=>h=.tup []∧st=[(0,.bx false 64 ((jJ d p x).cells r1 r2))]∧g=(jJ d p x).maps kS r1 r2):=by
 refine kC (N:=24) Tryz.func57 rfl Tryz.ntmps57 Tryz.results57 (by simp) ?_
 obtain ⟨L,R,steps,stamps,armed,down,n,m⟩:=d;obtain ⟨di,da,ke,lo,an,sta⟩:=x;simp only at hn hst;simp only [bM,gT,cS,jJ];refine aA ?_;refine aC (fun K hK=>?_);simp (disch:=omega) only [push_cast,↓iC9,simprocAttr];refine hK _ ?_;clear hK K
 refine aA ?_;refine aC (fun K hK=>?_);simp (disch:=omega) only [push_cast,↓iC9,simprocAttr];refine hK _ ?_;clear hK K
 refine aA ?_;refine aC (fun K hK=>?_);simp (disch:=omega) only [push_cast,↓iC9,simprocAttr];refine hK _ ?_;clear hK K
 refine aB ?_;refine qUp 6 mixed (by kernel_rfl) (fun K1 hK1=>?_)
 simp (disch:=omega) only [push_cast,↓iC9,simprocAttr];refine hK1 _ ?_;(try clear hK1 K1);refine qUq (i:=0) mtI rfl rfl rfl rfl (hn) rfl rfl (mx hs) rfl rfl ?_;refine aV ?_
 skip
 simp only [aF,aN,yH,yE,yK,yJ,aH,zS,zM,Nat.reduceEqDiff,reduceIte,reduceCtorEq];refine bV [0] [] (by first|rfl|simp [bsL,MO.bs]) (by decide) (by decide) (by simp only [push_cast,simprocAttr]) (by simp only [push_cast,simprocAttr]) (by simp only [push_cast,simprocAttr];rfl) (by simp only [push_cast,simprocAttr];rfl) ?_
 exact ⟨rfl,rfl,by rw [← qCg];rfl⟩
set_option maxHeartbeats 1000000 in
theorem zPz (d:Dk) (B:Int) (hd:d.Ok B) (hB:B≤1099511627776) (v:ByteArray) (r1 r2:Nat) :
  HFunM Tryz.prog 24 [.ptr 0 6 0 0,.v (.string v)] [(0,.bx false 64 (d.cells r1 r2))] (d.maps kS r1 r2) (fun h st g=>h=.v (.int .i64 (used d v))∧st=[(0,.bx false 64 (d.cells r1 r2))]∧g=d.maps kS r1 r2):=by
 refine kC (N:=30) Tryz.func24 rfl Tryz.ntmps24 Tryz.results24 (by simp) ?_
 obtain ⟨hri,hke,hto,-,-,-,-,-⟩:=hd;obtain ⟨L,R,steps,stamps,armed,down,n,m⟩:=d;simp only at hri hke hto;simp only [bM,cS,used];refine aA ?_;refine aC (fun K hK=>?_);simp (disch:=omega) only [push_cast,↓iC9,simprocAttr];refine hK _ ?_;clear hK K
 refine aA ?_;refine aC (fun K hK=>?_);simp (disch:=omega) only [push_cast,↓iC9,simprocAttr];refine hK _ ?_;clear hK K
 refine aA ?_;refine aA ?_;refine aC (fun K hK=>?_);simp (disch:=omega) only [push_cast,↓iC9,simprocAttr];refine hK _ ?_;clear hK K
 refine aB ?_;refine bW rfl ?_;refine aA ?_;refine bD ?_;refine aG 4 (fun K1 hK1=>?_);simp (disch:=omega) only [push_cast,↓iC9,simprocAttr];refine hK1 _ ?_;(try clear hK1 K1)
 refine qS2 (i:=0) mtI rfl rfl rfl rfl rfl fun it cnt=>?_
 refine aV ?_;refine aB ?_;refine bL ?_;refine qF (ι:=(List UInt8→Bool) × Nat × Option (ByteArray × Value)) (fun q=>⟨[(0,.ptr 0 6 0 0),(1,.v (.string v)),(5,.v (.int .i64 (mC q.1 v L))),(14,.v (.pointer (some ⟨it,0,none⟩)))],[(0,.bx false 64 [.v (.map (some r1)),.v (.map (some r2)),.v (.int .i64 steps),.v (.int .i64 stamps),.v (.int .i64 armed),.v (.bool down)])]⟩)
  (fun q=>[.itr it r1 kS n (tab Itm.val L) q.1 q.2.1 q.2.2,.map r2 kS m (tab jL R)]) (fun _=>True) (fun q=>q.2.1) [0,1,5,14] [0] (fun s=>(tab Itm.val L s).isSome,cnt,none) ?_ rfl trivial ?_
 ·dsimp only;rw [qJd v fun e he=>by rw [nR,dX hri he];rfl]
  rfl
 ·rintro ⟨left,cn,cur⟩ -;dsimp only;refine aA ?_;refine bD ?_;refine qYz (i:=0) mtI rfl rfl rfl rfl rfl (fun hz=>?_) (fun s w c' hl hM hsz hlt=>?_)
  ·refine aG 1 (fun K1 hK1=>?_);simp (disch:=omega) only [push_cast,↓iC9,simprocAttr,aE,aD];refine hK1 _ ?_;(try clear hK1 K1)
   refine aV ?_;refine aA ?_;refine bA rfl ?_;refine fR ?_;refine cW ?_;refine cW ?_;refine fN ?_;refine aA ?_;refine zDt (i:=0) rfl ?_;refine aC (fun K hK=>?_);simp (disch:=omega) only [push_cast,↓iC9,simprocAttr];refine hK _ ?_;clear hK K
   refine aB ?_;refine bB ?_;simp only [aF,aN,yH,yE,yK,yJ,aH,zS,zM,Nat.reduceEqDiff,reduceIte,reduceCtorEq];refine bV [0] [] (by first|rfl|simp [bsL,MO.bs]) (by decide) (by decide) (by simp only [push_cast,simprocAttr]) (by simp only [push_cast,simprocAttr]) (by simp only [push_cast,simprocAttr];rfl) (by simp only [push_cast,simprocAttr];rfl) ?_
   exact ⟨by rw [qEv v hz],rfl,rfl⟩
  ·obtain ⟨x,hx,rfl⟩:∃ x,aS L s=some x∧w=x.val:=by
    rw [qBq] at hM
    cases hx:aS L s with
   |none=>rw [hx] at hM;cases hM
   |some x=>rw [hx] at hM;exact ⟨x,rfl,(Option.some.inj hM).symm⟩
   have hmem:=cP hx
   have hss:=hke _ hmem
   have hst:=qJb (v:=v) hl hri hmem
   have hle:=qCa (fun q=>left q && !(q == s.data.toList)) v L
   have hle0:=qCa left v L
   generalize hW:mC left v L=W at *
   refine aG 1 (fun K1 hK1=>?_);simp (disch:=omega) only [push_cast,↓iC9,simprocAttr,aE,aD,qUb,gT];refine hK1 _ ?_;(try clear hK1 K1)
   refine aV ?_;refine aA ?_;refine bW rfl ?_;refine aT ?_;refine aB ?_;refine bL ?_;refine aA ?_;refine bD ?_;refine qS3 (i:=0) rfl rfl rfl rfl rfl ?_;refine aG 5 (fun K1 hK1=>?_);simp (disch:=omega) only [push_cast,↓iC9,simprocAttr,aE,aD,qUb,gT];refine hK1 _ ?_;(try clear hK1 K1)
   refine aV ?_;refine aA ?_;refine aC (fun K hK=>?_);simp (disch:=omega) only [push_cast,↓iC9,simprocAttr]
   refine cK zL1 (zAp s hss) (.cons (.v _) .nil) ?_;with_reducible refine aM ?_;simp (disch:=omega) only [push_cast,↓iC9,simprocAttr]
   refine hK _ ?_;clear hK K;refine aB ?_
   by_cases hv:vol s=v
   ·rw [if_pos hv] at hst;refine bC rfl (fun _=>?_) (fun hf=>by simp [hv] at hf)
    refine aC (fun K hK=>?_);simp (disch:=omega) only [push_cast,↓iC9,simprocAttr];refine hK _ ?_;clear hK K
    refine bS ?_;refine aB ?_;refine ⟨(fun q=>left q && !(q == s.data.toList),c',some (s,x.val)),?_,rfl,trivial,hlt⟩
    dsimp only;rw [hst];rfl
   ·rw [if_neg hv] at hst;refine bC rfl (fun ht=>by simp [hv] at ht) (fun _=>?_)
    refine aT ?_;refine bS ?_;refine aB ?_;refine ⟨(fun q=>left q && !(q == s.data.toList),c',some (s,x.val)),?_,rfl,trivial,hlt⟩
    dsimp only;rw [hst,Int.add_zero];rfl
set_option maxHeartbeats 1000000 in
theorem qZj (d:Dk) (B:Int) (hd:d.Ok B) (hB:B≤1099511627776) (p:ByteArray) (more:Int) (r1 r2:Nat) (hs:p.size≤1048576) (hm:-1099511627776≤more∧more≤1099511627776) :
  HFunM Tryz.prog 64 [.ptr 0 6 0 0,.v (.string p),.v (.int .i64 more)] [(0,.bx false 64 (d.cells r1 r2))] (d.maps kS r1 r2) (fun h st g=>h=.v (.bool (jY d p more))∧st=[(0,.bx false 64 (d.cells r1 r2))]∧g=d.maps kS r1 r2):=by
 refine kC (N:=35) Tryz.func64 rfl Tryz.ntmps64 Tryz.results64 (by simp) ?_
 have hv:=zAp p hs
 have hvs:=qUx p
 have hu:=zPz d B hd hB (vol p) r1 r2
 have hu0:0≤used d (vol p)∧used d (vol p)≤tot d.L:=by
  have:=qCa (fun _=>false) (vol p) d.L
  rw [qEv _ fun _=>rfl] at this
  exact this
 have hto:=hd.size
 simp only [bM,cS] at hu ⊢;unfold jY;refine aA ?_;refine aC (fun K hK=>?_);simp (disch:=omega) only [push_cast,↓iC9,simprocAttr];refine hK _ ?_;clear hK K
 refine aA ?_;refine zMg 11 mixed (by kernel_rfl) (fun K1 hK1=>?_)
 refine qEo 6 (by decide) (fun K2 hK2=>?_)
 simp (disch:=omega) only [push_cast,↓iC9,simprocAttr];refine lS zL1 hv (.cons (.v _) .nil) ?_;with_reducible refine aM ?_;simp (disch:=omega) only [push_cast,↓iC9,simprocAttr]
 refine hK2 _ ?_;refine zMi (q:=1) rfl mtL rfl rfl rfl rfl rfl rfl (mx (Nat.le_trans hvs hs)) ?_;refine qEo 4 (by decide) (fun K3 hK3=>?_)
 simp (disch:=omega) only [push_cast,↓iC9,simprocAttr,aE,qV7,zH5];refine hK3 _ ?_;refine qUt ?_;refine hK1 _ ?_;(try clear hK1 K1);refine aG 1 (fun K1 hK1=>?_);simp (disch:=omega) only [push_cast,↓iC9,simprocAttr,aE,aD];refine hK1 _ ?_;(try clear hK1 K1)
 refine aV ?_;refine aX [0,1,2,6,7,8] [0] (by simp only [zZ,zR,zP,zQ,zN,zS,zM,zX,zU,Nat.reduceEqDiff,reduceIte];exact rfl) ?_
 cases hl:aS d.R (vol p) with
|none =>
  dsimp only [Option.isSome,Option.getD];refine aA ?_;refine aC (fun K hK=>?_);simp (disch:=omega) only [push_cast,↓iC9,simprocAttr];refine hK _ ?_;clear hK K
  refine aB ?_;refine bB ?_;simp only [aF,aN,yH,yE,yK,yJ,aH,zS,zM,Nat.reduceEqDiff,reduceIte,reduceCtorEq];refine bV [0] [] (by first|rfl|simp [bsL,MO.bs]) (by decide) (by decide) (by simp only [push_cast,simprocAttr]) (by simp only [push_cast,simprocAttr]) (by simp only [push_cast,simprocAttr];rfl) (by simp only [push_cast,simprocAttr];rfl) ?_
  exact ⟨rfl,rfl,rfl⟩
|some n =>
  dsimp only [Option.isSome,Option.getD]
  by_cases hm0:more≤0
  ·refine aA ?_;refine aC (fun K hK=>?_);simp (disch:=omega) only [push_cast,↓iC9,simprocAttr,hm0];refine hK _ ?_;clear hK K
   refine aB ?_;refine bB ?_;simp only [aF,aN,yH,yE,yK,yJ,aH,zS,zM,Nat.reduceEqDiff,reduceIte,reduceCtorEq];refine bV [0] [] (by first|rfl|simp [bsL,MO.bs]) (by decide) (by decide) (by simp only [push_cast,simprocAttr]) (by simp only [push_cast,simprocAttr]) (by simp only [push_cast,simprocAttr];rfl) (by simp only [push_cast,simprocAttr];rfl) ?_
   exact ⟨by simp [hm0],rfl,rfl⟩
  ·have e0:decide (more≤0)=false:=decide_eq_false hm0
   rw [e0,Bool.false_or];refine aA ?_;refine bD ?_;refine aG 10 (fun K1 hK1=>?_);simp (disch:=omega) only [push_cast,↓iC9,simprocAttr,e0]
   refine cK zL1 hv (.cons (.v _) .nil) ?_;with_reducible refine aM ?_;simp (disch:=omega) only [push_cast,↓iC9,simprocAttr]
   refine hK1 _ ?_;(try clear hK1 K1);refine bT 232 [0] zUx (hu) rfl rfl rfl rfl (by simp only [push_cast,simprocAttr];exact rfl) (by decide) (by decide) (by decide) (by simp only [push_cast,simprocAttr];try rfl) (by simp only [push_cast,simprocAttr];try rfl) ?_
   rintro _ _ _ ⟨rfl,rfl,rfl⟩;generalize used d (vol p)=U at *
   refine aG 6 (fun K1 hK1=>?_);simp (disch:=omega) only [push_cast,↓iC9,simprocAttr,aE,aD];refine hK1 _ ?_;(try clear hK1 K1)
   refine aV ?_;refine aB ?_;refine bB ?_;simp only [aF,aN,yH,yE,yK,yJ,aH,zS,zM,Nat.reduceEqDiff,reduceIte,reduceCtorEq];refine bV [0] [] (by first|rfl|simp [bsL,MO.bs]) (by decide) (by decide) (by simp only [push_cast,simprocAttr]) (by simp only [push_cast,simprocAttr]) (by simp only [push_cast,simprocAttr];rfl) (by simp only [push_cast,simprocAttr];rfl) ?_
   exact ⟨rfl,rfl,rfl⟩
end Go.Proofs.YtlihpgmgiehjkaaGreatDoor
end
