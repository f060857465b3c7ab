/-
  Plain: texts put in their places (ay the library's merge puts them).
-/
import Derived.Test.YtlihpgmgiehjkaaGreatDoorTrI
import Derived.Test.YtlihpgmgiehjkaaGreatDoorTrJ
import Derived.Test.YtlihpgmgiehjkaaGreatDoorDk
import Derived.KernelRfl
import Derived.Test.YtlihpgmgiehjkaaGreatDoorTrB
import Derived.Sort.KeysCollected
import Derived.Sort.Walk0
set_option linter.unusedSimpArgs false
set_option linter.unusedVariables false
section
set_option maxRecDepth 20000
namespace Go.Dk
open Go Go.Eng Go.Tr
def rcF (d:Dk) (R:LN):List FV:=[.lst false (fT d.L),.lst false (rms R),.v (.int .i64 d.steps),.v (.int .i64 d.stamps),.v (.int .i64 d.armed),.v (.bool d.down)]
theorem sA (d:Dk) (R:LN):rcF d R=[.lst false (fT d.L),.lst false (rms R),.v (.int .i64 d.steps),.v (.int .i64 d.stamps),.v (.int .i64 d.armed),.v (.bool d.down)]:=(fun h=>h) rfl
abbrev dE (d:Dk) (R:LN):HV:=.elt false [rcF d R] 6 0 0
theorem zM5 (d:Dk) (R:LN):mN [rcF d R]=[rcF d R]:=by
 have h1:=qWm d.L
 have h2:=zA6 R
 unfold mN at h1 h2 ⊢;simp only [rcF,List.map_cons,List.map_nil,FV.old];rw [h1,h2]
theorem qR (d:Dk) (R:LN):Wid 6 [rcF d R]=True:=eq_true fun x hx=>by rw [List.mem_singleton.1 hx];rfl
theorem qS (d:Dk) (R:LN) (e:List FV):[rcF d R].getD 0 e=rcF d R:=rfl
theorem qDm {st:aJ} (d:Dk) (R:LN):Lend st (dE d R) (dE d R):=by
 have:=Lend.elt (st:=st) false [rcF d R] 6 0 0
 rw [zM5] at this;exact this
abbrev zQj (p:ByteArray) (x:Itm):HV:=.agg [.v (.string p),.v (.bool x.dir),.v (.string x.data),.v (.string x.kept),.v (.bool x.loose),.v (.bool x.anew),.v (.int .i64 x.stamp)]
theorem qDn {d:Dk} {p:ByteArray} (h:plc p d.L=none):fD d p=0:=by
 rw [fD,has,(wL h).1];rfl
theorem uJ {d:Dk} {p:ByteArray} {i:Nat} (h:plc p d.L=some i):∃ hi:i < d.L.length,d.L[i].1=p∧aP d p=d.L[i].2∧has d p=true∧fD d p=if d.L[i].2.dir=true then 1 else 2:=by
 obtain ⟨hi,e1,e2⟩:=qDg h
 have e3:aP d p=d.L[i].2:=by rw [aP,e2];rfl
 have e4:has d p=true:=by rw [has,e2];rfl
 refine ⟨hi,e1,e3,e4,?_⟩;rw [fD,e3,e4];rfl
theorem qQf {α:Type} {p:ByteArray} {L:List (ByteArray × α)} (h:plc p L=none):zHy p L=-1:=by rw [zHy,h]
theorem lB {α:Type} {p:ByteArray} {L:List (ByteArray × α)} {i:Nat} (h:plc p L=some i):zHy p L=i:=by rw [zHy,h]
def qW6 (d:Dk) (p:ByteArray):Bool:=decide (par p={ data:=#[] }) || decide (fD d (par p)=1)
end Go.Dk
namespace Go.Proofs.YtlihpgmgiehjkaaGreatDoor
open Go Go.Eng Go.RowKit Go.Tr Go.Dk
set_option maxHeartbeats 1000000 in
theorem pG (d:Dk) (R:LN) (p:ByteArray) (hl:d.L.length≤4194304):HFun Tryz.prog 69 [dE d R,.v (.string p)] (fun h st=>h=.v (.int .i64 (zHy p d.L))):=by
 refine iD (N:=26) Tryz.func69 rfl Tryz.ntmps69 Tryz.results69 (by simp) ?_
 have hw:=qR d R
 have hg:=qS d R
 obtain ⟨L,Rq,steps,stamps,armed,down,n,m⟩:=d;simp only [dE,sA] at hl hw hg ⊢;refine zE ?_;refine zJ (fun K hK=>?_);simp (disch:=omega) only [push_cast,↓iC9,simprocAttr];refine hK _ ?_;clear hK K
 refine zE ?_;refine zE ?_;refine zJ (fun K hK=>?_);simp (disch:=omega) only [push_cast,↓iC9,simprocAttr];refine hK _ ?_;clear hK K
 refine zA ?_;refine zD ?_;refine dW (fun i:Nat=>⟨[(0,.elt false [[.lst false (fT L),.lst false (rms R),.v (.int .i64 steps),.v (.int .i64 stamps),.v (.int .i64 armed),.v (.bool down)]] 6 0 0),(1,.v (.string p)),(5,.v (.int .i64 i))],[]⟩) (fun i=>i≤L.length∧∀ k (h:k < L.length),k < i→L[k].1≠p) (fun i=>L.length - i) [0,1,5] [] 0 rfl ⟨Nat.zero_le _,fun k h hk=>absurd hk (Nat.not_lt_zero _)⟩ ?_
 rintro i ⟨hi,hn⟩
 by_cases hlt:i < L.length
 ·refine zE ?_;refine zE ?_;refine zJ (fun K hK=>?_);simp (disch:=omega) only [push_cast,↓iC9,simprocAttr,bG,hw,hg];refine hK _ ?_;clear hK K
  refine zA ?_;refine yD rfl ?_;refine zC ?_;refine zE ?_
  by_cases he:L[i].1=p
  ·have hd:decide (L[i].1=p)=true:=decide_eq_true he
   rw [lB (qVu hlt hn he)];refine zD ?_;refine zE ?_;refine zJ (fun K hK=>?_);simp (disch:=omega) only [push_cast,↓iC9,simprocAttr,bG,bU,bY hlt,hd,hw,hg];refine hK _ ?_;clear hK K
   refine yD rfl ?_;refine zE ?_;refine zJ (fun K hK=>?_);simp (disch:=omega) only [push_cast,↓iC9,simprocAttr];refine hK _ ?_;clear hK K
   refine zA ?_;refine zW ?_;refine zL ?_;refine zK ?_;refine zK ?_;refine zL ?_;refine zK ?_;simp only [yA,yM,yH,yE,aL,aU,yK,yJ,zS,zM,Nat.reduceEqDiff,reduceIte,reduceCtorEq];exact bK rfl
  ·have hd:decide (L[i].1=p)=false:=decide_eq_false he
   refine zD ?_;refine zE ?_;refine zJ (fun K hK=>?_);simp (disch:=omega) only [push_cast,↓iC9,simprocAttr,bG,bU,bY hlt,hd,hw,hg];refine hK _ ?_;clear hK K
   refine yC rfl ?_;refine zC ?_;refine zB ?_;refine zA ?_;refine zJ (fun K hK=>?_);simp (disch:=omega) only [push_cast,↓iC9,simprocAttr];refine hK _ ?_;clear hK K
   refine zA ?_;refine ⟨i + 1,rfl,⟨hlt,fun k hk hk2=>?_⟩,by omega⟩
   by_cases e:k=i
   ·subst e;exact he
   ·exact hn k hk (by omega)
 ·refine zE ?_;refine zE ?_;refine zJ (fun K hK=>?_);simp (disch:=omega) only [push_cast,↓iC9,simprocAttr,bG,hw,hg];refine hK _ ?_;clear hK K
  refine zA ?_;refine yC rfl ?_;rw [qQf (zBl fun k hk=>hn k hk (by omega))]
  refine zT ?_;refine zG ?_;refine zG ?_;refine zH ?_;refine zE ?_;refine zJ (fun K hK=>?_);simp (disch:=omega) only [push_cast,↓iC9,simprocAttr];refine hK _ ?_;clear hK K
  refine zA ?_;refine zW ?_;simp only [yA,yM,yH,yE,aL,aU,yK,yJ,zS,zM,Nat.reduceEqDiff,reduceIte,reduceCtorEq];exact bK rfl
set_option maxHeartbeats 1000000 in
theorem oJ (d:Dk) (R:LN) (p:ByteArray) (hl:d.L.length≤4194304):HFun Tryz.prog 41 [dE d R,.v (.string p)] (fun h st=>h=.v (.int .i64 (fD d p))):=by
 refine iD (N:=19) Tryz.func41 rfl Tryz.ntmps41 Tryz.results41 (by simp) ?_
 have hc:=pG d R p hl
 have hE:=qDm (st:=[]) d R
 cases hp:plc p d.L with
|none =>
  rw [qDn hp];rw [qQf hp] at hc;refine zE ?_;refine zJ (fun K hK=>?_);simp (disch:=omega) only [push_cast,↓iC9,simprocAttr];refine hK _ ?_;clear hK K
  refine zE ?_;refine zJ (fun K hK=>?_);simp (disch:=omega) only [push_cast,↓iC9,simprocAttr]
  refine cK qYo hc (.cons hE (.cons (.v _) .nil)) ?_;with_reducible refine aM ?_;simp (disch:=omega) only [push_cast,↓iC9,simprocAttr]
  refine hK _ ?_;clear hK K;refine zE ?_;refine zE ?_;refine zJ (fun K hK=>?_);simp (disch:=omega) only [push_cast,↓iC9,simprocAttr];refine hK _ ?_;clear hK K
  refine zA ?_;refine yD rfl ?_;refine zE ?_;refine zJ (fun K hK=>?_);simp (disch:=omega) only [push_cast,↓iC9,simprocAttr];refine hK _ ?_;clear hK K
  refine zA ?_;refine zW ?_;refine zK ?_;simp only [yA,yM,yH,yE,aL,aU,yK,yJ,zS,zM,Nat.reduceEqDiff,reduceIte,reduceCtorEq];exact bK rfl
|some i =>
  obtain ⟨hi,-,-,-,e⟩:=uJ hp;rw [e];rw [lB hp] at hc
  have hw:=qR d R
  have hg:=qS d R
  simp only [dE,sA] at hc hw hg hE ⊢;refine zE ?_;refine zJ (fun K hK=>?_);simp (disch:=omega) only [push_cast,↓iC9,simprocAttr];refine hK _ ?_;clear hK K
  refine zE ?_;refine zJ (fun K hK=>?_);simp (disch:=omega) only [push_cast,↓iC9,simprocAttr]
  refine cK qYo hc (.cons hE (.cons (.v _) .nil)) ?_;with_reducible refine aM ?_;simp (disch:=omega) only [push_cast,↓iC9,simprocAttr]
  refine hK _ ?_;clear hK K;refine zE ?_;refine zE ?_;refine zJ (fun K hK=>?_);simp (disch:=omega) only [push_cast,↓iC9,simprocAttr];refine hK _ ?_;clear hK K
  refine zA ?_;refine yC rfl ?_
  cases hd:d.L[i].2.dir with
 |true =>
   refine zC ?_;refine zE ?_;refine zE ?_;refine zJ (fun K hK=>?_);simp (disch:=omega) only [push_cast,↓iC9,simprocAttr,bG,bU,bY hi,hw,hg,hd];refine hK _ ?_;clear hK K
   refine yD rfl ?_;refine zE ?_;refine zJ (fun K hK=>?_);simp (disch:=omega) only [push_cast,↓iC9,simprocAttr];refine hK _ ?_;clear hK K
   refine zA ?_;refine zW ?_;refine zK ?_;simp only [yA,yM,yH,yE,aL,aU,yK,yJ,zS,zM,Nat.reduceEqDiff,reduceIte,reduceCtorEq];exact bK rfl
 |false =>
   refine zC ?_;refine zE ?_;refine zE ?_;refine zJ (fun K hK=>?_);simp (disch:=omega) only [push_cast,↓iC9,simprocAttr,bG,bU,bY hi,hw,hg,hd];refine hK _ ?_;clear hK K
   refine yC rfl ?_;refine zC ?_;refine zE ?_;refine zJ (fun K hK=>?_);simp (disch:=omega) only [push_cast,↓iC9,simprocAttr];refine hK _ ?_;clear hK K
   refine zA ?_;refine zW ?_;simp only [yA,yM,yH,yE,aL,aU,yK,yJ,zS,zM,Nat.reduceEqDiff,reduceIte,reduceCtorEq];exact bK rfl
set_option maxHeartbeats 1000000 in
theorem qTo (s:ByteArray) (hs:s.size≤1048576):HFun Tryz.prog 74 [.v (.string s)] (fun h st=>h=.v (.string (vol s))):=by
 refine iD (N:=7) Tryz.func74 rfl Tryz.ntmps74 Tryz.results74 (by simp) ?_
 obtain ⟨r,hr⟩:=qZv s
 have hc:=qKb s hs
 rw [hr] at hc
 have hw:Wid 1 (dP (vol s :: r))=True:=sJ _
 have hg:∀ d,(dP (vol s :: r)).getD 0 d=[.v (.string (vol s))]:=fun d=>rfl
 refine zE ?_;refine zJ (fun K hK=>?_);simp (disch:=omega) only [push_cast,↓iC9,simprocAttr];refine hK _ ?_;clear hK K
 refine zE ?_;refine zJ (fun K hK=>?_);simp (disch:=omega) only [push_cast,↓iC9,simprocAttr]
 refine hat 32 zQx hc (.cons (.v _) .nil) ?_;rintro _ _ ⟨rfl,rfl⟩;with_reducible refine aM ?_;simp (disch:=omega) only [push_cast,↓iC9,simprocAttr,cT,hw,hg]
 refine hK _ ?_;clear hK K;refine zA ?_;refine zW ?_;simp only [yA,yM,yH,yE,aL,aU,yK,yJ,zS,zM,Nat.reduceEqDiff,reduceIte,reduceCtorEq];exact bK rfl
set_option maxHeartbeats 1000000 in
theorem sL (d:Dk) (R:LN) (p:ByteArray) (k:Int) (hs:p.size≤1048576):HFun Tryz.prog 65 [dE d R,.v (.string p),.v (.int .i64 k)] (fun h st=>h=.v (.int .i64 (may d p k))):=by
 refine iD (N:=21) Tryz.func65 rfl Tryz.ntmps65 Tryz.results65 (by simp) ?_
 have hc:=qP1 p 6 hs (by decide)
 have hsp:=qKb p hs
 have hlen:(parts p).length≤1048577:=by
  rw [qE8]
  have:p.data.toList.count 47≤p.size:=by rw [Lib.size_eq];exact List.count_le_length
  omega
 rw [zSb]
 have hw:=qR d R
 have hg:=qS d R
 simp only [dE,sA] at hw hg ⊢;refine zE ?_;refine zJ (fun K hK=>?_);simp (disch:=omega) only [push_cast,↓iC9,simprocAttr];refine hK _ ?_;clear hK K
 cases hd:d.down with
|true =>
  rw [hd] at hw hg;refine zE ?_;refine zE ?_;refine zJ (fun K hK=>?_);simp (disch:=omega) only [push_cast,↓iC9,simprocAttr,hw,hg];refine hK _ ?_;clear hK K
  refine zA ?_;refine yD rfl ?_;refine zE ?_;refine zJ (fun K hK=>?_);simp (disch:=omega) only [push_cast,↓iC9,simprocAttr];refine hK _ ?_;clear hK K
  refine zA ?_;refine zW ?_;refine zK ?_;simp only [yA,yM,yH,yE,aL,aU,yK,yJ,zS,zM,Nat.reduceEqDiff,reduceIte,reduceCtorEq];exact bK rfl
|false =>
  rw [hd] at hw hg;refine zE ?_;refine zE ?_;refine zJ (fun K hK=>?_);simp (disch:=omega) only [push_cast,↓iC9,simprocAttr,hw,hg];refine hK _ ?_;clear hK K
  refine zA ?_;refine yC rfl ?_
  cases hp:pOk p 6 with
 |false =>
   have hc:HFun Tryz.prog 40 [.v (.string p),.v (.int .i64 6)] (fun h st=>h=.v (.int .i64 10)):=by
    have h:=hc
    rw [show ((6:Nat):Int)=6 from rfl,hp] at h
    exact h
   refine zC ?_;refine zE ?_;refine zE ?_;refine zJ (fun K hK=>?_);simp (disch:=omega) only [push_cast,↓iC9,simprocAttr]
   refine cK zNz hc (.cons (.v _) (.cons (.v _) .nil)) ?_;with_reducible refine aM ?_;simp (disch:=omega) only [push_cast,↓iC9,simprocAttr]
   refine hK _ ?_;clear hK K;refine zA ?_;refine yD rfl ?_;refine zE ?_;refine zJ (fun K hK=>?_);simp (disch:=omega) only [push_cast,↓iC9,simprocAttr];refine hK _ ?_;clear hK K
   refine zA ?_;refine zW ?_;refine zK ?_;simp only [yA,yM,yH,yE,aL,aU,yK,yJ,zS,zM,Nat.reduceEqDiff,reduceIte,reduceCtorEq];exact bK rfl
 |true =>
   have hc:HFun Tryz.prog 40 [.v (.string p),.v (.int .i64 6)] (fun h st=>h=.v (.int .i64 0)):=by
    have h:=hc
    rw [show ((6:Nat):Int)=6 from rfl,hp] at h
    exact h
   refine zC ?_;refine zE ?_;refine zE ?_;refine zJ (fun K hK=>?_);simp (disch:=omega) only [push_cast,↓iC9,simprocAttr]
   refine cK zNz hc (.cons (.v _) (.cons (.v _) .nil)) ?_;with_reducible refine aM ?_;simp (disch:=omega) only [push_cast,↓iC9,simprocAttr]
   refine hat 128 zQx hsp (.cons (.v _) .nil) ?_;rintro _ _ ⟨rfl,rfl⟩;with_reducible refine aM ?_;simp (disch:=omega) only [push_cast,↓iC9,simprocAttr,cT]
   refine hK _ ?_;clear hK K;refine zA ?_
   by_cases hle:((parts p).length:Int)≤k
   ·refine bE rfl (fun _=>?_) (fun hf=>by simp [hle] at hf)
    refine zE ?_;refine zJ (fun K hK=>?_);simp (disch:=omega) only [push_cast,↓iC9,simprocAttr];refine hK _ ?_;clear hK K
    refine zA ?_;refine zW ?_;refine zK ?_;simp only [yA,yM,yH,yE,aL,aU,yK,yJ,zS,zM,Nat.reduceEqDiff,reduceIte,reduceCtorEq];exact bK (by simp [hle])
   ·refine bE rfl (fun ht=>by simp [hle] at ht) (fun _=>?_)
    refine zC ?_;refine zE ?_;refine zJ (fun K hK=>?_);simp (disch:=omega) only [push_cast,↓iC9,simprocAttr];refine hK _ ?_;clear hK K
    refine zA ?_;refine zW ?_;simp only [yA,yM,yH,yE,aL,aU,yK,yJ,zS,zM,Nat.reduceEqDiff,reduceIte,reduceCtorEq];exact bK (by simp [hle])
set_option maxHeartbeats 1000000 in
theorem qTr (d:Dk) (R:LN) (p:ByteArray) (hs:p.size≤1048576) (hl:d.L.length≤4194304):HFun Tryz.prog 66 [dE d R,.v (.string p)] (fun h st=>h=.v (.bool (qW6 d p))):=by
 refine iD (N:=15) Tryz.func66 rfl Tryz.ntmps66 Tryz.results66 (by simp) ?_
 have hc:=qP2 p hs
 have hk:=oJ d R (par p) hl
 have hE:=qDm (st:=[]) d R
 unfold qW6
 by_cases h0:par p={ data:=#[] }
 ·have h0':decide (par p={ data:=#[] })=true:=decide_eq_true h0
  refine zE ?_;refine zJ (fun K hK=>?_);simp (disch:=omega) only [push_cast,↓iC9,simprocAttr];refine hK _ ?_;clear hK K
  refine zE ?_;refine zJ (fun K hK=>?_);simp (disch:=omega) only [push_cast,↓iC9,simprocAttr]
  refine cK zNx hc (.cons (.v _) .nil) ?_;with_reducible refine aM ?_;simp (disch:=omega) only [push_cast,↓iC9,simprocAttr,h0']
  refine hK _ ?_;clear hK K;refine zA ?_;refine zW ?_;simp only [yA,yM,yH,yE,aL,aU,yK,yJ,zS,zM,Nat.reduceEqDiff,reduceIte,reduceCtorEq];exact bK (by simp [h0])
 ·have h0':decide (par p={ data:=#[] })=false:=decide_eq_false h0
  refine zE ?_;refine zJ (fun K hK=>?_);simp (disch:=omega) only [push_cast,↓iC9,simprocAttr];refine hK _ ?_;clear hK K
  refine zE ?_;refine zJ (fun K hK=>?_);simp (disch:=omega) only [push_cast,↓iC9,simprocAttr]
  refine cK zNx hc (.cons (.v _) .nil) ?_;with_reducible refine aM ?_;simp (disch:=omega) only [push_cast,↓iC9,simprocAttr,h0']
  refine cK zNx hc (.cons (.v _) .nil) ?_;with_reducible refine aM ?_;simp (disch:=omega) only [push_cast,↓iC9,simprocAttr]
  refine cK vM hk (.cons hE (.cons (.v _) .nil)) ?_;with_reducible refine aM ?_;simp (disch:=omega) only [push_cast,↓iC9,simprocAttr]
  refine hK _ ?_;clear hK K;refine zA ?_;refine zW ?_;simp only [yA,yM,yH,yE,aL,aU,yK,yJ,zS,zM,Nat.reduceEqDiff,reduceIte,reduceCtorEq];exact bK (by simp [h0])
end Go.Proofs.YtlihpgmgiehjkaaGreatDoor
end
section
namespace Go.Dk
open Go Go.Tr Go.Eng
theorem qZz {α:Type} {p t:ByteArray} {y:α} {r:List (ByteArray × α)} (h:eU ((t,y) :: r)) (hb:blt p t=true):aS ((t,y) :: r) p=none:=by
 cases e:aS ((t,y) :: r) p with
|none=>rfl
|some x =>
  have hm:=cP e
  obtain ⟨h1,h2⟩:=List.pairwise_cons.1 h
  rcases List.mem_cons.1 hm with hm|hm
  ·cases hm;rw [jT] at hb;cases hb
  ·have:=sX hb (h1 _ hm);rw [jT] at this;cases this
theorem zAt (p:ByteArray) (x:Itm):∀ {L:List (ByteArray × Itm)},eU L→tot (put p x L)=tot L + x.data.size - ((aS L p).getD itm0).data.size
|[],_=>by
  simp only [put,tot,aS,Option.getD]
  have:itm0.data.size=0:=rfl
  omega
|(t,y) :: r,h=>by
  obtain ⟨h1,h2⟩:=List.pairwise_cons.1 h;simp only [put]
  by_cases e:t=p
  ·subst e;rw [if_pos rfl]
   have e0:aS ((t,y) :: r) t=some y:=by simp [aS]
   rw [e0,tot,tot];show _=_ + (x.data.size:Int) - (y.data.size:Nat)
   omega
  ·rw [if_neg e];split
   ·rename_i hb;rw [rX] at hb;rw [qZz h hb,tot]
    have:((none:Option Itm).getD itm0).data.size=0:=rfl
    omega
   ·rw [tot,tot,zAt p x h2];simp only [aS,if_neg e];omega
theorem qT3 {d:Dk} {B B':Int} (h:d.Ok B) (hB:B≤B'):d.Ok B' :=
 ⟨h.rise,h.keys,Int.le_trans h.size hB,Int.le_trans h.n hB,Int.le_trans h.m hB,⟨h.steps.1,Int.le_trans h.steps.2 hB⟩,⟨h.stamps.1,Int.le_trans h.stamps.2 hB⟩,h.armed⟩
theorem zFe (d:Dk) (p:ByteArray):aP (aW d).2 p=aP d p:=by unfold aP aW;split <;> rfl
theorem qWn (d:Dk) (p:ByteArray) (x:Itm) (q:ByteArray):aP (jJ d p x) q=if q=p then { x with stamp:=d.stamps + 1 } else aP d q:=by
 show (aS (put p _ d.L) q).getD itm0=_
 rw [kA];split <;> rfl
def tV:ByteArray:={ data:=#[118] }
def tW:ByteArray:={ data:=#[119] }
structure NameOk (p:ByteArray):Prop where
 ok:pOk p 6=true
 qFo:qFo p=2
 par:par p=tV
 vol:vol p=tV
 ne:p≠tV
 size:p.size≤1048576
structure Fi (d:Dk) (n:Int):Prop where
 down:d.down=false
 armed:d.armed=-1
 rooms:d.R=[(tV,n)]
 home:(aP d tV).dir=true
 gH:∀ p,NameOk p→(aP d p).dir=false
 used:used d tV≤n
 other:Go.Dk.used d tW=4
end Go.Dk
end
section
namespace Go.Tr
open Go Go.Sort Go.Proofs
def qZ7 (out:List ByteArray) (s:ByteArray):List ByteArray:=out.takeWhile (fun x=>!blt s x) ++ s :: out.dropWhile (fun x=>!blt s x)
def qA8 (l:List ByteArray):List ByteArray:=l.foldl qZ7 []
def sB (t:List ByteArray):Prop:=t.Pairwise fun x y=>blt y x=false
theorem zE3 {a b c:ByteArray} (h1:blt b a=false) (h2:blt c b=false):blt c a=false:=by
 cases e:blt c a with
|false=>rfl
|true =>
  rcases qH7 a b with h|h|h
  ·rw [sX e h] at h2;cases h2
  ·rw [← h,e] at h2;cases h2
  ·rw [h] at h1;cases h1
theorem qZ6 {s:ByteArray}:∀ {out:List ByteArray},sB out→sB (qZ7 out s):=by
 intro out h;unfold qZ7
 induction out with
|nil=>simp [sB]
|cons x r ih =>
  obtain ⟨hx,hr⟩:=List.pairwise_cons.1 h
  cases hb:blt s x with
 |false =>
   simp only [List.takeWhile_cons,List.dropWhile_cons,hb,Bool.not_false,if_true,List.cons_append];refine List.pairwise_cons.2 ⟨fun y hy=>?_,ih hr⟩
   rcases List.mem_append.1 hy with hy|hy
   ·exact hx y ((List.takeWhile_sublist _).subset hy)
   ·rcases List.mem_cons.1 hy with rfl|hy
    ·exact hb
    ·exact hx y ((List.dropWhile_sublist _).subset hy)
 |true =>
   simp only [List.takeWhile_cons,List.dropWhile_cons,hb,Bool.not_true,Bool.false_eq_true,if_false,List.nil_append];refine List.pairwise_cons.2 ⟨fun y hy=>?_,h⟩
   rcases List.mem_cons.1 hy with rfl|hy
   ·exact mW hb
   ·exact zE3 (mW hb) (hx y hy)
theorem zFg (out:List ByteArray) (s:ByteArray):(qZ7 out s).Perm (s :: out):=by
 unfold qZ7;refine List.perm_middle.trans (List.Perm.cons s ?_);rw [List.takeWhile_append_dropWhile]
theorem qHa:∀ (t out:List ByteArray),sB out→sB (t.foldl qZ7 out)
|[],out,h=>h
|e :: t,out,h=>by rw [List.foldl_cons];exact qHa t _ (qZ6 h)
theorem qNs:∀ (t out:List ByteArray),(t.foldl qZ7 out).Perm (out ++ t)
|[],out=>by simp
|e :: t,out=>by
  rw [List.foldl_cons];refine (qNs t _).trans ?_;refine (List.Perm.append_right t (zFg out e)).trans ?_;exact (List.perm_middle (l₁:=out)).symm
theorem qVd (t:List ByteArray):sB (qA8 t):=qHa t [] .nil
theorem qJu (t:List ByteArray):(qA8 t).Perm t:=qNs t []
theorem zEf (t:List ByteArray):(qA8 t).length=t.length:=(qJu t).length_eq
theorem qJv {l X:List ByteArray} (h:sB X) (hp:X.Perm l):X=qA8 l:=by
 refine List.Perm.eq_of_pairwise (le:=fun x y:ByteArray=>blt y x=false) (fun a b ha hb h1 h2=>?_) h (qVd l) (hp.trans (qJu l).symm)
 rcases qH7 a b with h|h|h
 ·rw [h] at h2;cases h2
 ·exact h
 ·rw [h] at h1;cases h1
def byL (l:List ByteArray):List (List UInt8):=l.map fun s=>s.data.toList
theorem zL5 (l:List ByteArray):(byL l).map (fun x=>(⟨x.toArray⟩:ByteArray))=l:=by
 unfold byL;rw [List.map_map]
 conv=>rhs;rw [← List.map_id l]
 exact List.map_congr_left fun s _=>rfl
theorem qGm (l:List ByteArray):((byL l).mergeSort fun x y=>decide (x≤y)).map (fun x=>(⟨x.toArray⟩:ByteArray))=qA8 l:=by
 refine qJv ?_ ?_
 ·unfold sB;rw [List.pairwise_map]
  have h:=List.pairwise_mergeSort (le:=fun x y:List UInt8=>decide (x≤y)) (fun a b c h1 h2=>by
   simp only [decide_eq_true_eq] at *;exact List.le_trans h1 h2) (fun a b=>by
   simp only [Bool.or_eq_true,decide_eq_true_eq];exact List.le_total a b) (byL l)
  refine h.imp fun {a b} hab=>?_
  simp only [decide_eq_true_eq] at hab;rw [blt,Lib.toList_data,Lib.toList_data,bytesLess_eq,decide_eq_false_iff_not];exact List.not_lt.2 hab
 ·have:=(List.mergeSort_perm (byL l) fun x y=>decide (x≤y)).map (fun x=>(⟨x.toArray⟩:ByteArray))
  rwa [zL5] at this
end Go.Tr
end
