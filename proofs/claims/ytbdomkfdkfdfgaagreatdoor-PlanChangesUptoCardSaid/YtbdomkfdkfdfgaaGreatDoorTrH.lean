/-
  path.Check, Parent, Under, walked.
-/
import Derived.Test.YtbdomkfdkfdfgaaGreatDoorTrG
set_option linter.unusedSimpArgs false
set_option linter.unusedVariables false
set_option maxRecDepth 20000
namespace Go.Tr
open Go
theorem qA7:∀ {s:List UInt8},gG s=none→∀ i:Nat,s[i]?≠some 47
|[],_,i=>by simp
|c :: r,h,i=>by
  rw [gG] at h;split at h
  ·cases h
  ·rename_i e;split at h
   ·cases h
   ·rename_i hc
    cases i with
   |zero=>simpa using hc
   |succ i=>simpa using qA7 e i
theorem qZy {s:List UInt8} {i:Nat} (h:s[i]?=some 47) (h2:∀ j:Nat,i < j→s[j]?≠some 47):gG s=some i:=by
 cases e:gG s with
|none=>exact absurd h (qA7 e i)
|some k =>
  have hk:=(oH e).2
  rcases Nat.lt_trichotomy i k with h'|h'|h'
  ·exact absurd hk (h2 k h')
  ·rw [h']
  ·have:∀ {s:List UInt8} {k:Nat},gG s=some k→∀ j:Nat,k < j→s[j]?≠some 47:=by
    intro s
    induction s with
   |nil=>intro k h;simp [gG] at h
   |cons c r ih =>
     intro k h j hj;rw [gG] at h;split at h
     ·rename_i m hm;simp only [Option.some.injEq] at h;subst h
      cases j with
     |zero=>omega
     |succ j=>simpa using ih hm j (by omega)
     ·rename_i hn;split at h
      ·simp only [Option.some.injEq] at h;subst h
       cases j with
      |zero=>omega
      |succ j=>simpa using qA7 hn j
      ·cases h
   exact absurd h (this e i h')
end Go.Tr
namespace Go.Proofs.YtbdomkfdkfdfgaaGreatDoor
open Go Go.Eng Go.RowKit Go.Tr
theorem zRs (s:ByteArray) (i:Nat) (h:i < s.size):decide (wF s i=47)=decide (s.data.toList[i]?=some 47):=by
 have h':i < s.data.size:=h
 rw [Array.getElem?_toList,Array.getElem?_eq_getElem h',decide_eq_decide];unfold wF;rw [Array.getD_eq_getD_getElem?,Array.getElem?_eq_getElem h'];simp only [Option.getD_some,Option.some.injEq];constructor
 ·intro h;apply UInt8.toNat_inj.1;have e:(47:UInt8).toNat=47:=rfl;omega
 ·intro h;rw [h];rfl
set_option maxHeartbeats 4000000 in
theorem zFl (s:ByteArray) (hs:s.size≤1048576):HFun Tryz.prog 127 [.v (.string s),.v (.int .u8 47)] (fun h st=>h=.v (.int .i64 (mC s.data.toList))):=by
 refine fJ (N:=19) Tryz.func127 rfl Tryz.ntmps127 Tryz.results127 (by simp) ?_
 refine zE ?_;refine zJ (fun K hK=>?_);simp (disch:=omega) only [push_cast,↓Int.cast_ofNat_Int,simprocAttr];refine hK _ ?_;clear hK K
 refine zE ?_;refine zE ?_;refine zJ (fun K hK=>?_);simp (disch:=omega) only [push_cast,↓Int.cast_ofNat_Int,simprocAttr];refine hK _ ?_;clear hK K
 refine zA ?_;refine zD ?_;refine cH (fun i:Nat=>⟨[(0,.v (.string s)),(1,.v (.int .u8 47)),(5,.v (.int .i64 ((i:Int) - 1)))],[]⟩) (fun i=>i≤s.size∧∀ j,i≤j→s.data.toList[j]?≠some 47) (fun i=>i) [0,1,5] [] s.size rfl ⟨Nat.le_refl _,fun j hj=>by rw [List.getElem?_eq_none (by rw [← Lib.size_eq];exact hj)];simp⟩ ?_
 rintro i ⟨hi,hn⟩
 cases i with
|zero =>
  have hl:mC s.data.toList=-1:=by
   unfold mC
   cases e:gG s.data.toList with
  |none=>rfl
  |some k=>exact absurd (oH e).2 (hn k (Nat.zero_le _))
  rw [hl];refine zE ?_;refine zE ?_;refine zJ (fun K hK=>?_);simp (disch:=omega) only [push_cast,↓Int.cast_ofNat_Int,simprocAttr];refine hK _ ?_;clear hK K
  refine zA ?_;refine yC rfl ?_;refine zT ?_;refine zG ?_;refine zG ?_;refine zH ?_;refine zE ?_;refine zJ (fun K hK=>?_);simp (disch:=omega) only [push_cast,↓Int.cast_ofNat_Int,simprocAttr];refine hK _ ?_;clear hK K
  refine zA ?_;refine zW ?_;simp only [yA,yM,yH,yE,aA,aD,yK,yJ,zS,zM,Nat.reduceEqDiff,reduceIte,reduceCtorEq];exact aM rfl
|succ i =>
  have e1:((i + 1:Nat):Int) - 1=i:=by omega
  rw [e1]
  have h47:=zRs s i hi
  refine zE ?_;refine zE ?_;refine zJ (fun K hK=>?_);simp (disch:=omega) only [push_cast,↓Int.cast_ofNat_Int,simprocAttr];refine hK _ ?_;clear hK K
  refine zA ?_;refine yD rfl ?_;refine zC ?_;refine zE ?_
  by_cases hc:s.data.toList[i]?=some 47
  ·rw [decide_eq_true hc] at h47
   have hl:mC s.data.toList=i:=by rw [mC,qZy hc (fun j hj=>hn j hj)]
   rw [hl];refine zD ?_;refine zE ?_;refine zJ (fun K hK=>?_);simp (disch:=omega) only [push_cast,↓Int.cast_ofNat_Int,simprocAttr,h47];(repeat refine ⟨by first|omega|decide|((repeat' apply And.intro) <;> first|omega|decide),?_⟩);refine hK _ ?_;clear hK K
   refine zA ?_;refine yD rfl ?_;refine zE ?_;refine zJ (fun K hK=>?_);simp (disch:=omega) only [push_cast,↓Int.cast_ofNat_Int,simprocAttr];refine hK _ ?_;clear hK K
   refine zA ?_;refine zW ?_;refine zL ?_;refine zK ?_;refine zK ?_;refine zL ?_;refine zK ?_;simp only [yA,yM,yH,yE,aA,aD,yK,yJ,zS,zM,Nat.reduceEqDiff,reduceIte,reduceCtorEq];exact aM rfl
  ·rw [decide_eq_false hc] at h47;refine zD ?_;refine zE ?_;refine zJ (fun K hK=>?_);simp (disch:=omega) only [push_cast,↓Int.cast_ofNat_Int,simprocAttr,h47];(repeat refine ⟨by first|omega|decide|((repeat' apply And.intro) <;> first|omega|decide),?_⟩);refine hK _ ?_;clear hK K
   refine zA ?_;refine yC rfl ?_;refine zC ?_;refine zB ?_;refine zA ?_;refine zJ (fun K hK=>?_);simp (disch:=omega) only [push_cast,↓Int.cast_ofNat_Int,simprocAttr];refine hK _ ?_;clear hK K
   refine zA ?_;refine ⟨i,rfl,⟨by omega,fun j hj=>?_⟩,by omega⟩
   rcases Nat.lt_or_ge i j with h|h
   ·exact hn j h
   ·have:j=i:=by omega
    subst this;exact hc
set_option maxHeartbeats 1000000 in
theorem zJe (s:ByteArray) (hs:s.size≤1048576):HFun Tryz.prog 99 [.v (.string s),.v (.int .u8 47)] (fun h st=>h=.v (.int .i64 (mC s.data.toList))):=by
 refine fJ (N:=8) Tryz.func99 rfl Tryz.ntmps99 Tryz.results99 (by simp) ?_
 refine zE ?_;refine zJ (fun K hK=>?_);simp (disch:=omega) only [push_cast,↓Int.cast_ofNat_Int,simprocAttr];refine hK _ ?_;clear hK K
 refine zE ?_;refine zJ (fun K hK=>?_);simp (disch:=omega) only [push_cast,↓Int.cast_ofNat_Int,simprocAttr]
 refine cP zT2 (zFl s hs) (.cons (.v _) (.cons (.v _) .nil)) ?_;with_reducible refine aC ?_;simp (disch:=omega) only [push_cast,↓Int.cast_ofNat_Int,simprocAttr]
 refine hK _ ?_;clear hK K;refine zA ?_;refine zW ?_;simp only [yA,yM,yH,yE,aA,aD,yK,yJ,zS,zM,Nat.reduceEqDiff,reduceIte,reduceCtorEq];exact aM rfl
theorem zFm (s:ByteArray):(if (0:Int) < mC s.data.toList then mC s.data.toList else 0)=(qA5 s:Int)∧qA5 s≤s.size:=by
 unfold mC qA5
 cases e:gG s.data.toList with
|none=>exact ⟨rfl,Nat.zero_le _⟩
|some i =>
  have:=(oH e).1
  rw [← Lib.size_eq] at this;refine ⟨?_,Nat.le_of_lt this⟩;dsimp only [Option.getD_some];split <;> omega
set_option maxHeartbeats 1000000 in
theorem zHx (s:ByteArray) (hs:s.size≤1048576):HFun Tryz.prog 68 [.v (.string s)] (fun h st=>h=.v (.string (par s))):=by
 refine fJ (N:=8) Tryz.func68 rfl Tryz.ntmps68 Tryz.results68 (by simp) ?_
 refine zE ?_;refine zJ (fun K hK=>?_);simp (disch:=omega) only [push_cast,↓Int.cast_ofNat_Int,simprocAttr];refine hK _ ?_;clear hK K
 refine zE ?_;refine zJ (fun K hK=>?_);simp (disch:=omega) only [push_cast,↓Int.cast_ofNat_Int,simprocAttr]
 refine cP zU0 (zJe s hs) (.cons (.v _) (.cons (.v _) .nil)) ?_;obtain ⟨h1,h2⟩:=zFm s;with_reducible refine aC ?_;simp (disch:=omega) only [push_cast,↓Int.cast_ofNat_Int,simprocAttr,h1]
 refine ⟨by first|omega|decide|((repeat' apply And.intro) <;> first|omega|decide),?_⟩
 refine hK _ ?_;clear hK K;refine zA ?_;refine zW ?_;simp only [yA,yM,yH,yE,aA,aD,yK,yJ,zS,zM,Nat.reduceEqDiff,reduceIte,reduceCtorEq];exact aM rfl
def pre (s p:ByteArray):Bool:=p.data.toList.isPrefixOf s.data.toList
theorem zMm (s p:ByteArray) (h:p.size≤s.size):decide (s.extract 0 p.size=p)=pre s p:=by
 rw [pre,Bool.eq_iff_iff,decide_eq_true_iff,List.isPrefixOf_iff_prefix]
 have e:(s.extract 0 p.size).data.toList=s.data.toList.take p.data.toList.length:=by rw [Lib.extract_from_zero,← Lib.size_eq]
 rw [List.prefix_iff_eq_take];constructor
 ·intro h;rw [← e,h]
 ·intro h
  apply toList_inj
  rw [Lib.toList_data,Lib.toList_data,e];exact h.symm
theorem zFd {s p:ByteArray} (h:¬ p.size≤s.size):pre s p=false:=by
 rw [pre,Bool.eq_false_iff];intro hp
 have:=(List.isPrefixOf_iff_prefix.1 hp).length_le
 rw [← Lib.size_eq,← Lib.size_eq] at this;exact h this
set_option maxHeartbeats 1000000 in
theorem qR2 (s p:ByteArray):HFun Tryz.prog 129 [.v (.string s),.v (.string p)] (fun h st=>h=.v (.bool (pre s p))):=by
 refine fJ (N:=18) Tryz.func129 rfl Tryz.ntmps129 Tryz.results129 (by simp) ?_
 refine zE ?_;refine zJ (fun K hK=>?_);simp (disch:=omega) only [push_cast,↓Int.cast_ofNat_Int,simprocAttr];refine hK _ ?_;clear hK K
 by_cases h:p.size≤s.size
 ·have e:=zMm s p h
  refine zE ?_;refine zJ (fun K hK=>?_);simp (disch:=omega) only [push_cast,↓Int.cast_ofNat_Int,simprocAttr,e]
  refine ⟨by first|omega|decide|((repeat' apply And.intro) <;> first|omega|decide),?_⟩
  refine hK _ ?_;clear hK K;refine zA ?_;refine zW ?_;simp only [yA,yM,yH,yE,aA,aD,yK,yJ,zS,zM,Nat.reduceEqDiff,reduceIte,reduceCtorEq];exact aM rfl
 ·rw [zFd h];refine zE ?_;refine zJ (fun K hK=>?_);simp (disch:=omega) only [push_cast,↓Int.cast_ofNat_Int,simprocAttr];refine hK _ ?_;clear hK K
  refine zA ?_;refine zW ?_;simp only [yA,yM,yH,yE,aA,aD,yK,yJ,zS,zM,Nat.reduceEqDiff,reduceIte,reduceCtorEq];exact aM rfl
set_option maxHeartbeats 1000000 in
theorem zJ0 (s p:ByteArray):HFun Tryz.prog 102 [.v (.string s),.v (.string p)] (fun h st=>h=.v (.bool (pre s p))):=by
 refine fJ (N:=8) Tryz.func102 rfl Tryz.ntmps102 Tryz.results102 (by simp) ?_
 refine zE ?_;refine zJ (fun K hK=>?_);simp (disch:=omega) only [push_cast,↓Int.cast_ofNat_Int,simprocAttr];refine hK _ ?_;clear hK K
 refine zE ?_;refine zJ (fun K hK=>?_);simp (disch:=omega) only [push_cast,↓Int.cast_ofNat_Int,simprocAttr]
 refine cP zLa (qR2 s p) (.cons (.v _) (.cons (.v _) .nil)) ?_;with_reducible refine aC ?_;simp (disch:=omega) only [push_cast,↓Int.cast_ofNat_Int,simprocAttr]
 refine hK _ ?_;clear hK K;refine zA ?_;refine zW ?_;simp only [yA,yM,yH,yE,aA,aD,yK,yJ,zS,zM,Nat.reduceEqDiff,reduceIte,reduceCtorEq];exact aM rfl
theorem zGp (p t:ByteArray):eK p t=(decide (t={ data:=#[] }) || decide (p=t) || pre p (t ++ { data:=#[47] })):=rfl
set_option maxHeartbeats 1000000 in
theorem qHi (p t:ByteArray) (hp:p.size≤1048576) (ht:t.size≤1048576):HFun Tryz.prog 72 [.v (.string p),.v (.string t)] (fun h st=>h=.v (.bool (eK p t))):=by
 refine fJ (N:=18) Tryz.func72 rfl Tryz.ntmps72 Tryz.results72 (by simp) ?_
 rw [zGp]
 have c:=zJ0 p (t ++ { data:=#[47] })
 refine zE ?_;refine zJ (fun K hK=>?_);simp (disch:=omega) only [push_cast,↓Int.cast_ofNat_Int,simprocAttr];refine hK _ ?_;clear hK K
 cases e1:decide (t={ data:=#[] }) with
|true =>
  refine zE ?_;refine zJ (fun K hK=>?_);simp (disch:=omega) only [push_cast,↓Int.cast_ofNat_Int,simprocAttr,e1];refine hK _ ?_;clear hK K
  refine zA ?_;refine zW ?_;simp only [yA,yM,yH,yE,aA,aD,yK,yJ,zS,zM,Nat.reduceEqDiff,reduceIte,reduceCtorEq];exact aM rfl
|false =>
  cases e2:decide (p=t) with
 |true =>
   refine zE ?_;refine zJ (fun K hK=>?_);simp (disch:=omega) only [push_cast,↓Int.cast_ofNat_Int,simprocAttr,e1,e2];refine hK _ ?_;clear hK K
   refine zA ?_;refine zW ?_;simp only [yA,yM,yH,yE,aA,aD,yK,yJ,zS,zM,Nat.reduceEqDiff,reduceIte,reduceCtorEq];exact aM rfl
 |false =>
   have hsz:t.size + ({ data:=#[47] }:ByteArray).size≤9223372036854775807:=by have:({ data:=#[47] }:ByteArray).size=1:=rfl;omega
   refine zE ?_;refine zJ (fun K hK=>?_);simp (disch:=omega) only [push_cast,↓Int.cast_ofNat_Int,simprocAttr,e1,e2]
   refine ⟨hsz,?_⟩;refine cP zT8 c (.cons (.v _) (.cons (.v _) .nil)) ?_;with_reducible refine aC ?_;simp (disch:=omega) only [push_cast,↓Int.cast_ofNat_Int,simprocAttr]
   refine hK _ ?_;clear hK K;refine zA ?_;refine zW ?_;simp only [yA,yM,yH,yE,aA,aD,yK,yJ,zS,zM,Nat.reduceEqDiff,reduceIte,reduceCtorEq];exact aM rfl
def okN (b:Bool):Int:=bif b then 0 else 10
set_option maxHeartbeats 4000000 in
theorem qVl (p:ByteArray) (d:Nat) (hp:p.size≤1048576) (hd:d≤1000):HFun Tryz.prog 66 [.v (.string p),.v (.int .i64 d)] (fun h st=>h=.v (.int .i64 (okN (pOk p d)))):=by
 refine fJ (N:=30) Tryz.func66 rfl Tryz.ntmps66 Tryz.results66 (by simp) ?_
 have pl:=qCt p
 have plz:1≤(parts p).length:=by have:=qQm p;omega
 have hsz:∀ q ∈ parts p,q.size≤1048576:=fun q hq=>by
  obtain ⟨l,hl,rfl⟩:=List.mem_map.1 hq
  have:∀ (s:List UInt8),∀ l ∈ jX s,l.length≤s.length:=by
   intro s
   induction s with
  |nil=>intro l h;simp [jX] at h;subst h;simp
  |cons c r ih =>
    intro l h
    by_cases hc:c=47
    ·subst hc;rw [mM] at h
     rcases List.mem_cons.1 h with rfl|h
     ·simp
     ·have:=ih l h;simp;omega
    ·cases e:jX r with
    |nil=>exact absurd e (xK r)
    |cons a t =>
      rw [lN hc e] at h
      rcases List.mem_cons.1 h with rfl|h
      ·have:=ih a (by rw [e];simp);simp;omega
      ·have:=ih l (by rw [e];simp [h]);simp;omega
  have:=this _ l hl
  rw [← Lib.size_eq] at this
  have e:(mkB l).size=l.length:=by simp [mkB,ByteArray.size]
  omega
 refine zE ?_;refine zJ (fun K hK=>?_);simp (disch:=omega) only [push_cast,↓Int.cast_ofNat_Int,simprocAttr];refine hK _ ?_;clear hK K
 by_cases h0:p={ data:=#[] }
 ·have hd0:decide (p={ data:=#[] })=true:=decide_eq_true h0
  have e:pOk p d=false:=by
   rw [Bool.eq_false_iff];intro h;exact qTv h h0
  rw [e];refine zE ?_;refine zE ?_;refine zJ (fun K hK=>?_);simp (disch:=omega) only [push_cast,↓Int.cast_ofNat_Int,simprocAttr,hd0];refine hK _ ?_;clear hK K
  refine yD rfl ?_;refine zE ?_;refine zJ (fun K hK=>?_);simp (disch:=omega) only [push_cast,↓Int.cast_ofNat_Int,simprocAttr];refine hK _ ?_;clear hK K
  refine zA ?_;refine zW ?_;refine zK ?_;simp only [yA,yM,yH,yE,aA,aD,yK,yJ,zS,zM,Nat.reduceEqDiff,reduceIte,reduceCtorEq];exact aM rfl
 have hd0:decide (p={ data:=#[] })=false:=decide_eq_false h0
 by_cases h1:d < 1
 ·have e:pOk p d=false:=by
   rw [pOk,decide_eq_false (by omega)];rfl
  rw [e];refine zE ?_;refine zE ?_;refine zJ (fun K hK=>?_);simp (disch:=omega) only [push_cast,↓Int.cast_ofNat_Int,simprocAttr,hd0];refine hK _ ?_;clear hK K
  refine yD rfl ?_;refine zE ?_;refine zJ (fun K hK=>?_);simp (disch:=omega) only [push_cast,↓Int.cast_ofNat_Int,simprocAttr];refine hK _ ?_;clear hK K
  refine zA ?_;refine zW ?_;refine zK ?_;simp only [yA,yM,yH,yE,aA,aD,yK,yJ,zS,zM,Nat.reduceEqDiff,reduceIte,reduceCtorEq];exact aM rfl
 refine zE ?_;refine zE ?_;refine zJ (fun K hK=>?_);simp (disch:=omega) only [push_cast,↓Int.cast_ofNat_Int,simprocAttr,hd0];refine hK _ ?_;clear hK K
 refine yC rfl ?_;refine zC ?_;refine zE ?_;refine zJ (fun K hK=>?_);simp (disch:=omega) only [push_cast,↓Int.cast_ofNat_Int,simprocAttr]
 refine hat 120 zU2 (zMb p hp) (.cons (.v _) (.cons (.v _) .nil)) ?_;rintro _ _ ⟨rfl,rfl⟩;with_reducible refine aC ?_;simp (disch:=omega) only [push_cast,↓Int.cast_ofNat_Int,simprocAttr]
 refine hK _ ?_;clear hK K
 by_cases h2:d < (parts p).length
 ·have e:pOk p d=false:=by
   rw [pOk,decide_eq_false (by omega)];rfl
  rw [e];refine zE ?_;refine zE ?_;refine zJ (fun K hK=>?_);simp (disch:=omega) only [push_cast,↓Int.cast_ofNat_Int,simprocAttr,cY];refine hK _ ?_;clear hK K
  refine yD rfl ?_;refine zE ?_;refine zJ (fun K hK=>?_);simp (disch:=omega) only [push_cast,↓Int.cast_ofNat_Int,simprocAttr];refine hK _ ?_;clear hK K
  refine zA ?_;refine zW ?_;refine zK ?_;simp only [yA,yM,yH,yE,aA,aD,yK,yJ,zS,zM,Nat.reduceEqDiff,reduceIte,reduceCtorEq];exact aM rfl
 have e:pOk p d=(parts p).all eQ:=by rw [pOk,decide_eq_true (by omega),Bool.true_and]
 rw [e];generalize parts p=L at *
 refine zE ?_;refine zE ?_;refine zJ (fun K hK=>?_);simp (disch:=omega) only [push_cast,↓Int.cast_ofNat_Int,simprocAttr,cY];refine hK _ ?_;clear hK K
 refine yC rfl ?_;refine zC ?_;refine zE ?_;refine zE ?_;refine zJ (fun K hK=>?_);simp (disch:=omega) only [push_cast,↓Int.cast_ofNat_Int,simprocAttr,cY];refine hK _ ?_;clear hK K
 refine zA ?_;refine zD ?_;refine cH (fun i:Nat=>⟨[(20,.lst true (cX L)),(21,.v (.int .i64 L.length)),(22,.v (.int .i64 i))],[]⟩) (fun i=>i≤L.length∧(L.take i).all eQ=true) (fun i=>L.length - i) [20,21,22] [] 0 rfl ⟨Nat.zero_le _,rfl⟩ ?_
 rintro i ⟨hi,ha⟩
 by_cases hlt:i < L.length
 ·refine zE ?_;refine zJ (fun K hK=>?_);simp (disch:=omega) only [push_cast,↓Int.cast_ofNat_Int,simprocAttr];refine hK _ ?_;clear hK K
  refine zE ?_;refine yD rfl ?_;refine zC ?_;refine zE ?_;refine zD ?_;refine zE ?_;refine zJ (fun K hK=>?_);simp (disch:=omega) only [push_cast,↓Int.cast_ofNat_Int,simprocAttr,cY,rM,qCa hlt];refine hK _ ?_;clear hK K
  refine zE ?_;refine zJ (fun K hK=>?_);simp (disch:=omega) only [push_cast,↓Int.cast_ofNat_Int,simprocAttr]
  refine cP zU1 (zMo L[i] (hsz _ (List.getElem_mem hlt))) (.cons (.v _) .nil) ?_
  cases hn:eQ L[i] with
 |false =>
   with_reducible refine aC ?_;simp (disch:=omega) only [push_cast,↓Int.cast_ofNat_Int,simprocAttr]
   refine hK _ ?_;clear hK K;refine yD rfl ?_;refine zE ?_;refine zJ (fun K hK=>?_);simp (disch:=omega) only [push_cast,↓Int.cast_ofNat_Int,simprocAttr];refine hK _ ?_;clear hK K
   refine zA ?_;refine zW ?_;refine zL ?_;refine zK ?_;refine zK ?_;refine zL ?_;refine zK ?_;simp only [yA,yM,yH,yE,aA,aD,yK,yJ,zS,zM,Nat.reduceEqDiff,reduceIte,reduceCtorEq];refine aM ?_
   have:L.all eQ=false:=by
    rw [Bool.eq_false_iff];intro h;rw [List.all_eq_true.1 h _ (List.getElem_mem hlt)] at hn;cases hn
   rw [this];rfl
 |true =>
   with_reducible refine aC ?_;simp (disch:=omega) only [push_cast,↓Int.cast_ofNat_Int,simprocAttr]
   refine hK _ ?_;clear hK K;refine yC rfl ?_;refine zC ?_;refine zB ?_;refine zA ?_;refine zJ (fun K hK=>?_);simp (disch:=omega) only [push_cast,↓Int.cast_ofNat_Int,simprocAttr];refine hK _ ?_;clear hK K
   refine zA ?_;refine ⟨i + 1,rfl,⟨hlt,?_⟩,by omega⟩
   rw [List.take_succ_eq_append_getElem hlt,List.all_append,ha];simp [hn]
 ·have hne:i=L.length:=by omega
  subst hne;rw [List.take_length] at ha;rw [ha];refine zE ?_;refine zJ (fun K hK=>?_);simp (disch:=omega) only [push_cast,↓Int.cast_ofNat_Int,simprocAttr];refine hK _ ?_;clear hK K
  refine zE ?_;refine yC rfl ?_;refine zT ?_;refine zG ?_;refine zG ?_;refine zH ?_;refine zE ?_;refine zJ (fun K hK=>?_);simp (disch:=omega) only [push_cast,↓Int.cast_ofNat_Int,simprocAttr];refine hK _ ?_;clear hK K
  refine zA ?_;refine zW ?_;simp only [yA,yM,yH,yE,aA,aD,yK,yJ,zS,zM,Nat.reduceEqDiff,reduceIte,reduceCtorEq];exact aM rfl
end Go.Proofs.YtbdomkfdkfdfgaaGreatDoor
