/-
  The search in a tree: slices.BinarySearchFunc, tree.find, tree.Get.
-/
import Derived.Test.YtlihpgmgiehjkaaGreatDoorSl
import Derived.Test.YtlihpgmgiehjkaaGreatDoorRkC
import Derived.Test.YtlihpgmgiehjkaaGreatDoorTrJ
import Derived.Test.YtlihpgmgiehjkaaGreatDoorApe
import Derived.Test.YtlihpgmgiehjkaaGreatDoorDkB
set_option linter.unusedSimpArgs false
set_option linter.unusedVariables false
section
set_option maxRecDepth 20000
namespace Go.Sw
open Go Go.Tr Go.Eng Go.Dk Go.Proofs.YtlihpgmgiehjkaaGreatDoor
theorem zR7:okN true=0:=rfl
theorem zR8:okN false=10:=rfl
def qZm (L:LI) (v:ByteArray):List (ByteArray × Nd):=(L.filter (inV v)).map fun e=>(cV v e.1,lD e.2)
theorem zEu {L:LI} {v:ByteArray} {i:Nat} (h:i < L.length):qZm (L.take (i + 1)) v=qZm (L.take i) v ++ if inV v L[i]=true then [(cV v L[i].1,lD L[i].2)] else []:=by
 unfold qZm;rw [List.take_succ_eq_append_getElem h,List.filter_append,List.map_append]
 congr 1
 by_cases e:inV v L[i]=true
 ·simp [e]
 ·simp [e]
theorem qVp (L:LI) (v:ByteArray):(qZm L v).length≤L.length:=by
 unfold qZm;rw [List.length_map];exact List.length_filter_le ..
end Go.Sw
namespace Go.Proofs.YtlihpgmgiehjkaaGreatDoor
open Go Go.Eng Go.RowKit Go.Maps Go.Tr Go.Dk Go.Sw
set_option maxHeartbeats 2000000 in
theorem zA3 (d:Dk) (R:LN) (v:ByteArray) (hv:v.size≤1048576) (hl:d.L.length≤4194304) (hke:∀ e ∈ d.L,e.1.size≤1048576) :
  HFun Tryz.prog 10 [dE d R,.v (.string v)] (fun h st=>if gY d v=0 then h=.tup [.own 0,.v (.int .i64 0)]∧st=[(0,.sl true 54 3 (jR (mJ d v)))] else h=.tup [.v (.slice none 0 0),.v (.int .i64 (gY d v))]∧st=[]):=by
 refine iD (N:=76) Tryz.func10 rfl Tryz.ntmps10 Tryz.results10 (by simp) ?_
 have hw:=qR d R
 have hg:=qS d R
 have hk:=oJ d R v hl
 have hE:=qDm (st:=[]) d R
 have hpc:=qP1 v 1 hv (by decide)
 rw [show ((1:Nat):Int)=1 from rfl] at hpc
 unfold gY;simp only [dE,sA] at hw hg hk hE ⊢;refine zE ?_;refine zJ (fun K hK=>?_);simp (disch:=omega) only [push_cast,↓iC9,simprocAttr];refine hK _ ?_;clear hK K
 cases hpk:pOk v 1 with
|false =>
  rw [hpk,zR8] at hpc;refine zE ?_;refine zE ?_;refine zJ (fun K hK=>?_);simp (disch:=omega) only [push_cast,↓iC9,simprocAttr]
  refine cK zNz hpc (.cons (.v _) (.cons (.v _) .nil)) ?_;with_reducible refine aM ?_;simp (disch:=omega) only [push_cast,↓iC9,simprocAttr]
  refine hK _ ?_;clear hK K;refine zA ?_;refine yD rfl ?_;refine zE ?_;refine zJ (fun K hK=>?_);simp (disch:=omega) only [push_cast,↓iC9,simprocAttr];refine hK _ ?_;clear hK K
  refine zA ?_;refine zW ?_;refine zK ?_;simp only [yA,yM,yH,yE,aL,aU,yK,yJ,zS,zM,Nat.reduceEqDiff,reduceIte,reduceCtorEq];exact qUc (by simp)
|true =>
  rw [hpk,zR7] at hpc;refine zE ?_;refine zE ?_;refine zJ (fun K hK=>?_);simp (disch:=omega) only [push_cast,↓iC9,simprocAttr]
  refine cK zNz hpc (.cons (.v _) (.cons (.v _) .nil)) ?_;with_reducible refine aM ?_;simp (disch:=omega) only [push_cast,↓iC9,simprocAttr]
  refine hK _ ?_;clear hK K;refine zA ?_;refine yC rfl ?_;refine zC ?_;refine zE ?_;refine zE ?_
  cases hdn:d.down with
 |true =>
   rw [hdn] at hw hg;refine zJ (fun K hK=>?_);simp (disch:=omega) only [push_cast,↓iC9,simprocAttr,hw,hg];refine hK _ ?_;clear hK K
   refine zA ?_;refine yD rfl ?_;refine zE ?_;refine zJ (fun K hK=>?_);simp (disch:=omega) only [push_cast,↓iC9,simprocAttr];refine hK _ ?_;clear hK K
   refine zA ?_;refine zW ?_;refine zK ?_;simp only [yA,yM,yH,yE,aL,aU,yK,yJ,zS,zM,Nat.reduceEqDiff,reduceIte,reduceCtorEq];exact qUc (by simp)
 |false =>
   rw [hdn] at hw hg hk hE;refine zJ (fun K hK=>?_);simp (disch:=omega) only [push_cast,↓iC9,simprocAttr,hw,hg];refine hK _ ?_;clear hK K
   refine zA ?_;refine yC rfl ?_;refine zC ?_;refine zE ?_;refine zE ?_;refine zJ (fun K hK=>?_);simp (disch:=omega) only [push_cast,↓iC9,simprocAttr]
   refine cK vM hk (.cons hE (.cons (.v _) .nil)) ?_;with_reducible refine aM ?_;simp (disch:=omega) only [push_cast,↓iC9,simprocAttr]
   refine hK _ ?_;clear hK K;refine zA ?_
   by_cases hkv:fD d v=1
   ·refine bE rfl (fun h=>by simp [hkv] at h) (fun _=>?_)
    have hvne:v≠{ data:=#[] }:=nZ hpk
    simp only [hkv,ne_eq,not_true_eq_false,if_false,if_true,Bool.true_eq_false,Bool.false_eq_true];refine zC ?_;refine zE ?_;refine zJ (fun K hK=>?_);simp (disch:=omega) only [push_cast,↓iC9,simprocAttr];refine hK _ ?_;clear hK K
    refine zE ?_;refine zE ?_;refine zJ (fun K hK=>?_);simp (disch:=omega) only [push_cast,↓iC9,simprocAttr];refine hK _ ?_;clear hK K
    refine zA ?_;refine zD ?_;refine qA3 6 9000 54 3 rfl (by simp only [lK,pH,pK,fC,dV,eV,dS,iS,eZ,fA,eY,eX,gC,fB,eW,dU,fW,fY,fX,iR,jB,gU,Nat.reduceBEq,Nat.reduceEqDiff,reduceIte,cond_true,cond_false,List.map_cons,List.map_nil];exact rfl) ?_
    rw [show ([]:List (List FV))=jR [] from rfl]
    refine dW (fun i:Nat=>⟨[(0,.elt false [[.lst false (fT d.L),.lst false (rms R),.v (.int .i64 d.steps),.v (.int .i64 d.stamps),.v (.int .i64 d.armed),.v (.bool false)]] 6 0 0),(1,.v (.string v)),(6,.own 9000),(7,.v (.int .i64 i))],[(9000,.sl true 54 3 (jR (qZm (d.L.take i) v)))]⟩) (fun i=>i≤d.L.length) (fun i=>d.L.length - i) [0,1,6,7] [9000] 0 (by simp only [zZ,zR,zP,zQ,zN,zS,zM,zX,zU,Nat.reduceEqDiff,reduceIte];rfl) (Nat.zero_le _) ?_
    intro i hi
    by_cases hil:i < d.L.length
    ·have hki:=hke _ (List.getElem_mem hil)
     have hun:=zGz d.L[i].1 v hki hv
     have h1:=zEu (v:=v) hil
     have h2:=qVp (d.L.take i) v
     rw [List.length_take] at h2;refine zE ?_;refine zE ?_;refine zJ (fun K hK=>?_);simp (disch:=omega) only [push_cast,↓iC9,simprocAttr,bG,hw,hg];refine hK _ ?_;clear hK K
     refine zA ?_;refine yD rfl ?_;refine zC ?_;refine zE ?_;refine zD ?_;refine zE ?_;refine zJ (fun K hK=>?_);simp (disch:=omega) only [push_cast,↓iC9,simprocAttr,bG,bU,bY hil,hw,hg];refine hK _ ?_;clear hK K
     refine yB [0,1,6,7,8] [9000] (by simp only [zZ,zR,zP,zQ,zN,zS,zM,zX,zU,Nat.reduceEqDiff,reduceIte];exact rfl) ?_
     obtain ⟨e,he⟩:∃ e,d.L[i]=e:=⟨_,rfl⟩
     have hge:∀ x,(fT d.L).getD i x=[.v (.string e.1),.v (.bool e.2.dir),.v (.string e.2.data),.v (.string e.2.kept),.v (.bool e.2.loose),.v (.bool e.2.anew),.v (.int .i64 e.2.stamp)]:=fun x=>by rw [bY hil,he]
     rw [he] at hki hun h1 ⊢
     by_cases hev:e.1=v
     ·have hdv:decide (e.1=v)=true:=decide_eq_true hev
      have hin:inV v e=false:=by simp [inV,hev]
      rw [hin] at h1;simp only [Bool.false_eq_true,if_false,List.append_nil] at h1;refine zE ?_;refine zE ?_;refine zJ (fun K hK=>?_);simp (disch:=omega) only [push_cast,↓iC9,simprocAttr,hdv];refine hK _ ?_;clear hK K
      refine zA ?_;refine yD rfl ?_;refine zT ?_;refine zG ?_;refine zH ?_;refine zA ?_;refine zJ (fun K hK=>?_);simp (disch:=omega) only [push_cast,↓iC9,simprocAttr];refine hK _ ?_;clear hK K
      refine zA ?_;exact ⟨i + 1,by simp only [zZ,zR,zP,zQ,zN,zS,zM,zX,zU,Nat.reduceEqDiff,reduceIte];rw [h1];rfl,hil,by omega⟩
     ·have hdv:decide (e.1=v)=false:=decide_eq_false hev
      refine zE ?_;refine zE ?_;refine zJ (fun K hK=>?_);simp (disch:=omega) only [push_cast,↓iC9,simprocAttr,hdv]
      refine cK zUl hun (.cons (.v _) (.cons (.v _) .nil)) ?_;with_reducible refine aM ?_;simp (disch:=omega) only [push_cast,↓iC9,simprocAttr]
      refine hK _ ?_;clear hK K;refine zA ?_
      cases hu:iL e.1 v with
     |false =>
       have hin:inV v e=false:=by simp [inV,hu]
       rw [hin] at h1;simp only [Bool.false_eq_true,if_false,List.append_nil] at h1;refine yD rfl ?_;refine zT ?_;refine zG ?_;refine zH ?_;refine zA ?_;refine zJ (fun K hK=>?_);simp (disch:=omega) only [push_cast,↓iC9,simprocAttr];refine hK _ ?_;clear hK K
       refine zA ?_;exact ⟨i + 1,by simp only [zZ,zR,zP,zQ,zN,zS,zM,zX,zU,Nat.reduceEqDiff,reduceIte];rw [h1];rfl,hil,by omega⟩
     |true =>
       have hin:inV v e=true:=nB.2 ⟨hu,hev⟩
       have hlt:=zMl hu hev hvne
       rw [hin] at h1;simp only [if_true] at h1;refine yC rfl ?_;refine zC ?_;refine zE ?_;refine yB [0,1,6,7,8] [9000] (by simp only [zZ,zR,zP,zQ,zN,zS,zM,zX,zU,Nat.reduceEqDiff,reduceIte];exact rfl) ?_
       refine zJ (fun K hK=>?_);simp (disch:=omega) only [push_cast,↓iC9,simprocAttr,bG,bU,hge,hw,hg];refine hK _ ?_;clear hK K
       obtain ⟨n,hn⟩:∃ n,lD e.2=n:=⟨_,rfl⟩;rw [hn] at h1;refine zE ?_;refine zE ?_;refine zJ (fun K hK=>?_);simp (disch:=omega) only [push_cast,↓iC9,simprocAttr,bG,bU,hge,hw,hg];refine hK _ ?_;clear hK K
       refine zA ?_;refine kK (ι:=Unit) (fun _=>⟨[(0,.elt false [[.lst false (fT d.L),.lst false (rms R),.v (.int .i64 d.steps),.v (.int .i64 d.stamps),.v (.int .i64 d.armed),.v (.bool false)]] 6 0 0),(1,.v (.string v)),(6,.own 9000),(7,.v (.int .i64 i)),(8,.v (.string e.1)),(9,.ptr 72 2 0 0)],[(72,.bx true 52 [.v (.int .i64 n.1),.v (.string n.2)]),(9000,.sl true 54 3 (jR (qZm (d.L.take i) v)))]⟩) (fun _=>True) [0,1,6,7,8,9] [72,9000] ?_ ?_
       ·refine bE rfl (fun hdi=>?_) (fun hdi=>?_)
        ·rw [lD,if_pos hdi] at hn;subst hn;refine zJ (fun K hK=>?_);simp (disch:=omega) only [push_cast,↓iC9,simprocAttr];refine hK _ ?_;clear hK K
         refine kB ?_;exact ⟨(),rfl,trivial⟩
        ·rw [lD,if_neg (by rw [hdi];decide)] at hn
         subst hn;refine zC ?_;refine kB ?_;exact ⟨(),rfl,trivial⟩
       ·intro S' _ hS' _;refine zA ?_;refine yB _ _ hS' ?_;refine qYw 9 mixed (by kernel_rfl) (fun K hK K1 hK1=>?_);simp (disch:=omega) only [push_cast,↓iC9,simprocAttr]
        (repeat refine ⟨by first|omega|decide|((repeat' apply And.intro) <;> first|omega|decide),?_⟩)
        refine hK1 _ ?_;(try clear hK1 K1);with_reducible refine aM ?_;simp (disch:=omega) only [push_cast,↓iC9,simprocAttr,yV]
        refine ⟨fun x hx=>by rw [List.mem_singleton.1 hx];rfl,?_⟩
        refine hK _ ?_;clear hK K;refine zB ?_;refine zA ?_;refine zJ (fun K hK=>?_);simp (disch:=omega) only [push_cast,↓iC9,simprocAttr];refine hK _ ?_;clear hK K
        refine zA ?_;exact ⟨i + 1,by simp only [zZ,zR,zP,zQ,zN,zS,zM,zX,zU,Nat.reduceEqDiff,reduceIte];rw [h1,← qSo];rfl,hil,by omega⟩
    ·have hie:i=d.L.length:=by omega
     refine zE ?_;refine zE ?_;refine zJ (fun K hK=>?_);simp (disch:=omega) only [push_cast,↓iC9,simprocAttr,bG,hw,hg];refine hK _ ?_;clear hK K
     refine zA ?_;refine yC rfl ?_;refine zT ?_;refine zG ?_;refine zG ?_;refine zH ?_;refine zE ?_;refine zJ (fun K hK=>?_);simp (disch:=omega) only [push_cast,↓iC9,simprocAttr];refine hK _ ?_;clear hK K
     refine zA ?_;refine zW ?_;simp only [yA,yM,yH,yE,aL,aU,yK,yJ,zS,zM,Nat.reduceEqDiff,reduceIte,reduceCtorEq];rw [hie,List.take_length];exact zNm rfl (zAf _) ⟨rfl,rfl⟩
   ·refine bE rfl (fun _=>?_) (fun h=>by simp [hkv] at h)
    refine zE ?_;refine zJ (fun K hK=>?_);simp (disch:=omega) only [push_cast,↓iC9,simprocAttr];refine hK _ ?_;clear hK K
    refine zA ?_;refine zW ?_;refine zK ?_;simp only [yA,yM,yH,yE,aL,aU,yK,yJ,zS,zM,Nat.reduceEqDiff,reduceIte,reduceCtorEq];exact qUc (by simp [hkv])
end Go.Proofs.YtlihpgmgiehjkaaGreatDoor
end
section
set_option maxRecDepth 20000
namespace Go.Sw
open Go Go.Tr Go.Eng Go.Dk Go.Proofs.YtlihpgmgiehjkaaGreatDoor
def vT (d:Dk) (v:ByteArray) (e:ByteArray × Nd):Sn:=(e.1,cH d (v ++ stroke ++ e.1),e.2)
def gX (d:Dk) (v:ByteArray):List Sn:=(mJ d v).map (vT d v)
theorem qP0 (d:Dk) (v:ByteArray):(gX d v).length=(mJ d v).length:=by simp [gX]
theorem qC1 (d:Dk) (v:ByteArray):(mJ d v).length≤d.L.length:=qVp d.L v
theorem zEw {d:Dk} (hke:∀ e ∈ d.L,e.1.size≤1048576) {v:ByteArray}:∀ e ∈ mJ d v,e.1.size≤1048576:=fun e he=>by
 rw [mJ,List.mem_map] at he;obtain ⟨x,hx,rfl⟩:=he;exact Nat.le_trans (qKw _ _) (hke x (List.mem_filter.1 hx).1)
def kn1 (e x:Sn):Bool:=decide (x.1=e.1) && decide (x.2.1=e.2.1) && decide (x.2.2.1=2)
def knB (e:Sn) (l:List Sn):Bool:=decide (e.2.2.1=1) || l.any (kn1 e)
def qEw (S l:List Sn):Nat:=S.countP fun e=>!knB e l
theorem zDx {S l:List Sn} {i:Nat} (h:i < S.length):qEw (S.take (i + 1)) l=qEw (S.take i) l + if knB S[i] l=true then 0 else 1:=by
 unfold qEw;rw [List.take_succ_eq_append_getElem h,List.countP_append]
 cases hb:knB S[i] l <;> simp [hb]
theorem zMk (S l:List Sn):qEw S l≤S.length:=List.countP_le_length
theorem zJg {e:Sn} {l:List Sn} {k:Nat} (h:k < l.length):knB e (l.take (k + 1))=(knB e (l.take k) || kn1 e l[k]):=by
 unfold knB;rw [List.take_succ_eq_append_getElem h,List.any_append];simp [Bool.or_assoc]
end Go.Sw
namespace Go.Proofs.YtlihpgmgiehjkaaGreatDoor
open Go Go.Eng Go.RowKit Go.Maps Go.Tr Go.Dk Go.Sw
set_option maxHeartbeats 2000000 in
theorem zA4 (d:Dk) (R:LN) (v:ByteArray) (hv:v.size≤1048576) (hl:d.L.length≤4194304) (hke:∀ e ∈ d.L,e.1.size≤1048576) (h0:gY d v=0) :
  HFun Tryz.prog 15 [dE d R,.v (.string v)] (fun h st=>h=.own 0∧st=[(0,.sl true 83 4 (dY (gX d v)))]):=by
 refine iD (N:=46) Tryz.func15 rfl Tryz.ntmps15 Tryz.results15 (by simp) ?_
 have hwk:=zA3 d R v hv hl hke
 rw [h0] at hwk;simp only [if_true] at hwk
 have hE:=qDm (st:=[]) d R
 have hst:=fun p=>zG0 d R p hl
 have hlen:=qC1 d v
 have hkey:=zEw hke (v:=v)
 refine zE ?_;refine zJ (fun K hK=>?_);simp (disch:=omega) only [push_cast,↓iC9,simprocAttr];refine hK _ ?_;clear hK K
 refine zE ?_;refine zJ (fun K hK=>?_);simp (disch:=omega) only [push_cast,↓iC9,simprocAttr]
 refine hat 96 zQ1 hwk (.cons hE (.cons (.v _) .nil)) ?_;rintro _ _ ⟨rfl,rfl⟩;with_reducible refine aM ?_;simp (disch:=omega) only [push_cast,↓iC9,simprocAttr]
 refine hK _ ?_;clear hK K;refine zE ?_;refine zJ (fun K hK=>?_);simp (disch:=omega) only [push_cast,↓iC9,simprocAttr];refine hK _ ?_;clear hK K
 refine zE ?_;refine zE ?_;refine zJ (fun K hK=>?_);simp (disch:=omega) only [push_cast,↓iC9,simprocAttr];refine hK _ ?_;clear hK K
 refine zA ?_;refine zD ?_;obtain ⟨F,hF⟩:∃ F,mJ d v=F:=⟨_,rfl⟩
 have hsr:gX d v=F.map (vT d v):=by rw [gX,hF]
 rw [hsr];rw [hF] at hlen hkey ⊢;refine qA3 7 9000 83 4 rfl (by simp only [lK,pH,pK,fC,dV,eV,dS,iS,eZ,fA,eY,eX,gC,fB,eW,dU,fW,fY,fX,iR,jB,gU,Nat.reduceBEq,Nat.reduceEqDiff,reduceIte,cond_true,cond_false,List.map_cons,List.map_nil];exact rfl) ?_
 rw [show ([]:List (List FV))=dY [] from rfl]
 refine dW (fun i:Nat=>⟨[(0,dE d R),(1,.v (.string v)),(5,.own 96),(7,.own 9000),(8,.v (.int .i64 i))],[(96,.sl true 54 3 (jR F)),(9000,.sl true 83 4 (dY ((F.take i).map (vT d v))))]⟩) (fun i=>i≤F.length) (fun i=>F.length - i) [0,1,5,7,8] [96,9000] 0 (by simp only [zZ,zR,zP,zQ,zN,zS,zM,zX,zU,Nat.reduceEqDiff,reduceIte];rfl) (Nat.zero_le _) ?_
 intro i hi
 by_cases hil:i < F.length
 ·refine zE ?_;refine zE ?_;refine zJ (fun K hK=>?_);simp (disch:=omega) only [push_cast,↓iC9,simprocAttr,yV];refine hK _ ?_;clear hK K
  refine zA ?_;refine yD rfl ?_;refine zC ?_;refine zE ?_
  have hki:=hkey _ (List.getElem_mem hil)
  have hge:∀ x,(jR F).getD i x=[.v (.string F[i].1),.v (.int .i64 F[i].2.1),.v (.string F[i].2.2)]:=fun x=>yW hil
  obtain ⟨e,he⟩:∃ e,F[i]=e:=⟨_,rfl⟩
  have h1:((F.take (i + 1)).map (vT d v))=(F.take i).map (vT d v) ++ [vT d v e]:=by rw [List.take_succ_eq_append_getElem hil,he,List.map_append];rfl
  rw [he] at hge hki
  have hst:=hst (v ++ { data:=#[47] } ++ e.1)
  have hl2:(F.take i).length≤i:=by rw [List.length_take];omega
  have hs1:({ data:=#[47] }:ByteArray).size=1:=rfl
  refine zD ?_;refine qYw 23 mixed (by kernel_rfl) (fun K hK K1 hK1=>?_);simp (disch:=omega) only [push_cast,↓iC9,simprocAttr,yV,yU,hge]
  refine ⟨by omega,by rw [ByteArray.size_append];omega,?_⟩
  refine lS zUi hst (.cons (qDm d R) (.cons (.v _) .nil)) ?_;with_reducible refine aM ?_;simp (disch:=omega) only [push_cast,↓iC9,simprocAttr,yV,yU,hge]
  refine hK1 _ ?_;(try clear hK1 K1);with_reducible refine aM ?_;simp (disch:=omega) only [push_cast,↓iC9,simprocAttr,cY]
  refine ⟨fun x hx=>by rw [List.mem_singleton.1 hx];rfl,?_⟩
  refine hK _ ?_;clear hK K;refine zB ?_;refine zA ?_;refine zJ (fun K hK=>?_);simp (disch:=omega) only [push_cast,↓iC9,simprocAttr];refine hK _ ?_;clear hK K
  refine zA ?_;exact ⟨i + 1,by simp only [zZ,zR,zP,zQ,zN,zS,zM,zX,zU,Nat.reduceEqDiff,reduceIte];rw [h1,vT,← qJ8];rfl,hil,by omega⟩
 ·have hie:i=F.length:=by omega
  refine zE ?_;refine zE ?_;refine zJ (fun K hK=>?_);simp (disch:=omega) only [push_cast,↓iC9,simprocAttr,yV];refine hK _ ?_;clear hK K
  refine zA ?_;refine yC rfl ?_;refine zT ?_;refine zG ?_;refine zG ?_;refine zH ?_;refine zE ?_;refine zJ (fun K hK=>?_);simp (disch:=omega) only [push_cast,↓iC9,simprocAttr];refine hK _ ?_;clear hK K
  refine zA ?_;refine zW ?_;simp only [yA,yM,yH,yE,aL,aU,yK,yJ,zS,zM,Nat.reduceEqDiff,reduceIte,reduceCtorEq];rw [hie,List.take_length];exact qZ8 rfl (qVi _) ⟨rfl,rfl⟩
set_option maxHeartbeats 4000000 in
theorem zG2 (d:Dk) (R:LN) (v:ByteArray) (hv:v.size≤1048576) (hl:d.L.length≤4194304) (hke:∀ e ∈ d.L,e.1.size≤1048576) (h0:gY d v=0) (fr:Bool) (l:List Sn) (hll:l.length≤1099511627776) :
  HFun Tryz.prog 13 [dE d R,.v (.string v),.lst fr (dY l)] (fun h st=>h=.v (.int .i64 (qEw (gX d v) l))):=by
 refine iD (N:=75) Tryz.func13 rfl Tryz.ntmps13 Tryz.results13 (by simp) ?_
 have hsn:=zA4 d R v hv hl hke h0
 have hlen:=qC1 d v
 rw [← qP0] at hlen;refine zE ?_;refine zJ (fun K hK=>?_);simp (disch:=omega) only [push_cast,↓iC9,simprocAttr];refine hK _ ?_;clear hK K
 refine zE ?_;refine zJ (fun K hK=>?_);simp (disch:=omega) only [push_cast,↓iC9,simprocAttr]
 refine hat 112 zTc hsn (.cons (qDm d R) (.cons (.v _) .nil)) ?_;rintro _ _ ⟨rfl,rfl⟩;with_reducible refine aM ?_;simp (disch:=omega) only [push_cast,↓iC9,simprocAttr]
 refine hK _ ?_;clear hK K;refine zE ?_;refine zJ (fun K hK=>?_);simp (disch:=omega) only [push_cast,↓iC9,simprocAttr];refine hK _ ?_;clear hK K
 refine zE ?_;refine zE ?_;refine zJ (fun K hK=>?_);simp (disch:=omega) only [push_cast,↓iC9,simprocAttr];refine hK _ ?_;clear hK K
 refine zA ?_;refine zD ?_;obtain ⟨S,hS⟩:∃ S,gX d v=S:=⟨_,rfl⟩;rw [hS] at hlen ⊢;refine xH 112 rfl (by simp only [oK,lX,jQ,lJ,jH,vF,lP,lQ,jN,lN,lM,oQ,lR,lL,oF,oG,oH,Nat.reduceEqDiff,reduceIte,List.map_cons,List.map_nil,List.map_append];exact rfl) ?_
 refine dW (fun i:Nat=>⟨[(0,dE d R),(1,.v (.string v)),(2,.lst fr (dY l)),(7,.lst true (dY S)),(8,.v (.int .i64 (qEw (S.take i) l))),(9,.v (.int .i64 i))],[]⟩) (fun i=>i≤S.length) (fun i=>S.length - i) [0,1,2,7,8,9] [] 0 (by simp only [zZ,zR,zP,zQ,zN,zS,zM,zX,zU,Nat.reduceEqDiff,reduceIte];rfl) (Nat.zero_le _) ?_
 intro i hi
 by_cases hil:i < S.length
 ·refine zE ?_;refine zE ?_;refine zJ (fun K hK=>?_);simp (disch:=omega) only [push_cast,↓iC9,simprocAttr,cY];refine hK _ ?_;clear hK K
  refine zA ?_;refine yD rfl ?_;refine zC ?_;refine zE ?_
  have hge:∀ x,(dY S).getD i x=[.v (.string S[i].1),.v (.int .i64 S[i].2.1),.v (.int .i64 S[i].2.2.1),.v (.string S[i].2.2.2)]:=fun x=>mH hil
  obtain ⟨e,he⟩:∃ e,S[i]=e:=⟨_,rfl⟩
  have h1:=zDx (l:=l) hil
  rw [he] at hge h1
  have h2:=zMk (S.take i) l
  rw [List.length_take] at h2;refine zD ?_;refine zE ?_;refine zJ (fun K hK=>?_);simp (disch:=omega) only [push_cast,↓iC9,simprocAttr,cY,lA,hge];refine hK _ ?_;clear hK K
  refine zE ?_;refine zE ?_;refine zJ (fun K hK=>?_);simp (disch:=omega) only [push_cast,↓iC9,simprocAttr];refine hK _ ?_;clear hK K
  refine yB [0,1,2,7,8,9,10,11] [] (by simp only [zZ,zR,zP,zQ,zN,zS,zM,zX,zU,Nat.reduceEqDiff,reduceIte];exact rfl) ?_
  refine zD ?_;refine dW (fun k:Nat=>⟨[(0,dE d R),(1,.v (.string v)),(2,.lst fr (dY l)),(7,.lst true (dY S)),(8,.v (.int .i64 (qEw (S.take i) l))),(9,.v (.int .i64 i)),(10,.v (.bool (knB e (l.take k)))),(11,.v (.int .i64 k))],[]⟩) (fun k=>k≤l.length) (fun k=>l.length - k) [0,1,2,7,8,9,10,11] [] 0 (by simp only [zZ,zR,zP,zQ,zN,zS,zM,zX,zU,Nat.reduceEqDiff,reduceIte,List.take_zero,knB,List.any_nil,Bool.or_false];rfl) (Nat.zero_le _) ?_
  intro k hk
  by_cases hkl:k < l.length
  ·refine zE ?_;refine zE ?_;refine zJ (fun K hK=>?_);simp (disch:=omega) only [push_cast,↓iC9,simprocAttr,cY];refine hK _ ?_;clear hK K
   refine zA ?_;refine yD rfl ?_;refine zC ?_;refine zE ?_
   have hgx:∀ x,(dY l).getD k x=[.v (.string l[k].1),.v (.int .i64 l[k].2.1),.v (.int .i64 l[k].2.2.1),.v (.string l[k].2.2.2)]:=fun x=>mH hkl
   have h3:=zJg (e:=e) hkl
   obtain ⟨x,hx⟩:∃ x,l[k]=x:=⟨_,rfl⟩;rw [hx] at hgx h3;refine kK (fun _:Unit=>⟨[(0,dE d R),(1,.v (.string v)),(2,.lst fr (dY l)),(7,.lst true (dY S)),(8,.v (.int .i64 (qEw (S.take i) l))),(9,.v (.int .i64 i)),(10,.v (.bool (knB e (l.take (k + 1))))),(11,.v (.int .i64 k))],[]⟩) (fun _=>True) [0,1,2,7,8,9,10,11] [] ?_ ?_
   ·rw [h3]
    cases hb:knB e (l.take k) with
   |true =>
     refine zD ?_;refine qH8 36 mixed (by kernel_rfl) (fun K hK K1 hK1=>?_);simp (disch:=omega) only [push_cast,↓iC9,simprocAttr,cY,lA,hge,hgx]
     refine hK1 _ ?_;(try clear hK1 K1);with_reducible refine aM ?_;simp (disch:=omega) only [push_cast,↓iC9,simprocAttr]
     refine hK _ ?_;clear hK K;exact ⟨(),by simp only [zZ,zR,zP,zQ,zN,zS,zM,zX,zU,Nat.reduceEqDiff,reduceIte];rfl,trivial⟩
   |false =>
     simp only [Bool.false_or];unfold kn1
     cases h4:decide (x.1=e.1) with
    |false =>
      refine zD ?_;refine qH8 36 mixed (by kernel_rfl) (fun K hK K1 hK1=>?_);simp (disch:=omega) only [push_cast,↓iC9,simprocAttr,cY,lA,hge,hgx,h4]
      refine hK1 _ ?_;(try clear hK1 K1);with_reducible refine aM ?_;simp (disch:=omega) only [push_cast,↓iC9,simprocAttr]
      refine hK _ ?_;clear hK K;exact ⟨(),by simp only [zZ,zR,zP,zQ,zN,zS,zM,zX,zU,Nat.reduceEqDiff,reduceIte];rfl,trivial⟩
    |true =>
      cases h5:decide (x.2.1=e.2.1) with
     |false =>
       refine zD ?_;refine qH8 36 mixed (by kernel_rfl) (fun K hK K1 hK1=>?_);simp (disch:=omega) only [push_cast,↓iC9,simprocAttr,cY,lA,hge,hgx,h4,h5]
       refine hK1 _ ?_;(try clear hK1 K1);with_reducible refine aM ?_;simp (disch:=omega) only [push_cast,↓iC9,simprocAttr]
       refine hK _ ?_;clear hK K;exact ⟨(),by simp only [zZ,zR,zP,zQ,zN,zS,zM,zX,zU,Nat.reduceEqDiff,reduceIte];rfl,trivial⟩
     |true =>
       refine zD ?_;refine qH8 36 mixed (by kernel_rfl) (fun K hK K1 hK1=>?_);simp (disch:=omega) only [push_cast,↓iC9,simprocAttr,cY,lA,hge,hgx,h4,h5]
       refine hK1 _ ?_;(try clear hK1 K1);with_reducible refine aM ?_;simp (disch:=omega) only [push_cast,↓iC9,simprocAttr]
       refine hK _ ?_;clear hK K;exact ⟨(),by simp only [zZ,zR,zP,zQ,zN,zS,zM,zX,zU,Nat.reduceEqDiff,reduceIte];rfl,trivial⟩
   ·intro S' _ hS' _;refine zA ?_;refine yB _ _ hS' ?_;refine zJ (fun K hK=>?_);simp (disch:=omega) only [push_cast,↓iC9,simprocAttr];refine hK _ ?_;clear hK K
    refine zA ?_;exact ⟨k + 1,by simp only [zZ,zR,zP,zQ,zN,zS,zM,zX,zU,Nat.reduceEqDiff,reduceIte];rfl,hkl,by omega⟩
  ·have hke2:k=l.length:=by omega
   refine zE ?_;refine zE ?_;refine zJ (fun K hK=>?_);simp (disch:=omega) only [push_cast,↓iC9,simprocAttr,cY];refine hK _ ?_;clear hK K
   refine zA ?_;refine yC rfl ?_;refine zT ?_;refine zG ?_;refine zG ?_;refine zH ?_;refine zE ?_;rw [hke2,List.take_length];refine zJ (fun K hK=>?_);simp (disch:=omega) only [push_cast,↓iC9,simprocAttr];refine hK _ ?_;clear hK K
   refine zA ?_
   cases hb:knB e l with
  |true =>
    rw [hb] at h1;simp only [if_true,Nat.add_zero] at h1;refine yC rfl ?_;refine zC ?_;refine zB ?_;refine zA ?_;refine zJ (fun K hK=>?_);simp (disch:=omega) only [push_cast,↓iC9,simprocAttr];refine hK _ ?_;clear hK K
    refine zA ?_;exact ⟨i + 1,by simp only [zZ,zR,zP,zQ,zN,zS,zM,zX,zU,Nat.reduceEqDiff,reduceIte];rw [h1];rfl,hil,by omega⟩
  |false =>
    rw [hb] at h1;simp only [Bool.false_eq_true,if_false] at h1;refine yD rfl ?_;refine zJ (fun K hK=>?_);simp (disch:=omega) only [push_cast,↓iC9,simprocAttr];refine hK _ ?_;clear hK K
    refine zB ?_;refine zA ?_;refine zJ (fun K hK=>?_);simp (disch:=omega) only [push_cast,↓iC9,simprocAttr];refine hK _ ?_;clear hK K
    refine zA ?_;exact ⟨i + 1,by simp only [zZ,zR,zP,zQ,zN,zS,zM,zX,zU,Nat.reduceEqDiff,reduceIte];rw [h1];rfl,hil,by omega⟩
 ·have hie:i=S.length:=by omega
  refine zE ?_;refine zE ?_;refine zJ (fun K hK=>?_);simp (disch:=omega) only [push_cast,↓iC9,simprocAttr,cY];refine hK _ ?_;clear hK K
  refine zA ?_;refine yC rfl ?_;refine zT ?_;refine zG ?_;refine zG ?_;refine zH ?_;refine zE ?_;refine zJ (fun K hK=>?_);simp (disch:=omega) only [push_cast,↓iC9,simprocAttr];refine hK _ ?_;clear hK K
  refine zA ?_;refine zW ?_;simp only [yA,yM,yH,yE,aL,aU,yK,yJ,zS,zM,Nat.reduceEqDiff,reduceIte,reduceCtorEq];rw [hie,List.take_length];exact bK rfl
end Go.Proofs.YtlihpgmgiehjkaaGreatDoor
end
section
set_option maxRecDepth 20000
namespace Go.Proofs.YtlihpgmgiehjkaaGreatDoor
open Go Go.Eng Go.RowKit Go.Tr
end Go.Proofs.YtlihpgmgiehjkaaGreatDoor
end
