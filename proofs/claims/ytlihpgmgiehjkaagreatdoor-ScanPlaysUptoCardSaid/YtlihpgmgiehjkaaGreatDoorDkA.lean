/-
  The disk's functions that name no map: may, step; volumes, depths.
-/
import Derived.Test.YtlihpgmgiehjkaaGreatDoorTrG
import Derived.Test.YtlihpgmgiehjkaaGreatDoorDk
set_option linter.unusedSimpArgs false
set_option linter.unusedVariables false
section
set_option maxRecDepth 20000
namespace Go.Tr
open Go
theorem qBx:∀ {s:List UInt8},eB s=none→∀ i:Nat,s[i]?≠some 47
|[],_,i=>by simp
|c :: r,h,i=>by
  rw [eB] at h;split at h
  ·cases h
  ·rename_i e;split at h
   ·cases h
   ·rename_i hc
    cases i with
   |zero=>simpa using hc
   |succ i=>simpa using qBx e i
theorem qZ0 {s:List UInt8} {i:Nat} (h:s[i]?=some 47) (h2:∀ j:Nat,i < j→s[j]?≠some 47):eB s=some i:=by
 cases e:eB s with
|none=>exact absurd h (qBx e i)
|some k =>
  have hk:=(pQ e).2
  rcases Nat.lt_trichotomy i k with h'|h'|h'
  ·exact absurd hk (h2 k h')
  ·rw [h']
  ·have:∀ {s:List UInt8} {k:Nat},eB s=some k→∀ j:Nat,k < j→s[j]?≠some 47:=by
    intro s
    induction s with
   |nil=>intro k h;simp [eB] at h
   |cons c r ih =>
     intro k h j hj;rw [eB] at h;split at h
     ·rename_i m hm;simp only [Option.some.injEq] at h;subst h
      cases j with
     |zero=>omega
     |succ j=>simpa using ih hm j (by omega)
     ·rename_i hn;split at h
      ·simp only [Option.some.injEq] at h;subst h
       cases j with
      |zero=>omega
      |succ j=>simpa using qBx hn j
      ·cases h
   exact absurd h (this e i h')
end Go.Tr
namespace Go.Proofs.YtlihpgmgiehjkaaGreatDoor
open Go Go.Eng Go.RowKit Go.Tr
theorem zN2 (s:ByteArray) (i:Nat) (h:i < s.size):decide (qB s i=47)=decide (s.data.toList[i]?=some 47):=by
 have h':i < s.data.size:=h
 rw [Array.getElem?_toList,Array.getElem?_eq_getElem h',decide_eq_decide];unfold qB;rw [Array.getD_eq_getD_getElem?,Array.getElem?_eq_getElem h'];simp only [Option.getD_some,Option.some.injEq];constructor
 ·intro h;apply UInt8.toNat_inj.1;have e:(47:UInt8).toNat=47:=rfl;omega
 ·intro h;rw [h];rfl
set_option maxHeartbeats 4000000 in
theorem zE9 (s:ByteArray) (hs:s.size≤1048576):HFun Tryz.prog 104 [.v (.string s),.v (.int .u8 47)] (fun h st=>h=.v (.int .i64 (nP s.data.toList))):=by
 refine iD (N:=19) Tryz.func104 rfl Tryz.ntmps104 Tryz.results104 (by simp) ?_
 refine zE ?_;refine zJ (fun K hK=>?_);simp (disch:=omega) only [push_cast,↓iC9,simprocAttr];refine hK _ ?_;clear hK K
 refine zE ?_;refine zE ?_;refine zJ (fun K hK=>?_);simp (disch:=omega) only [push_cast,↓iC9,simprocAttr];refine hK _ ?_;clear hK K
 refine zA ?_;refine zD ?_;refine dW (fun i:Nat=>⟨[(0,.v (.string s)),(1,.v (.int .u8 47)),(5,.v (.int .i64 ((i:Int) - 1)))],[]⟩) (fun i=>i≤s.size∧∀ j,i≤j→s.data.toList[j]?≠some 47) (fun i=>i) [0,1,5] [] s.size rfl ⟨Nat.le_refl _,fun j hj=>by rw [List.getElem?_eq_none (by rw [← Lib.size_eq];exact hj)];simp⟩ ?_
 rintro i ⟨hi,hn⟩
 cases i with
|zero =>
  have hl:nP s.data.toList=-1:=by
   unfold nP
   cases e:eB s.data.toList with
  |none=>rfl
  |some k=>exact absurd (pQ e).2 (hn k (Nat.zero_le _))
  rw [hl];refine zE ?_;refine zE ?_;refine zJ (fun K hK=>?_);simp (disch:=omega) only [push_cast,↓iC9,simprocAttr];refine hK _ ?_;clear hK K
  refine zA ?_;refine yC rfl ?_;refine zT ?_;refine zG ?_;refine zG ?_;refine zH ?_;refine zE ?_;refine zJ (fun K hK=>?_);simp (disch:=omega) only [push_cast,↓iC9,simprocAttr];refine hK _ ?_;clear hK K
  refine zA ?_;refine zW ?_;simp only [yA,yM,yH,yE,aL,aU,yK,yJ,zS,zM,Nat.reduceEqDiff,reduceIte,reduceCtorEq];exact bK rfl
|succ i =>
  have e1:((i + 1:Nat):Int) - 1=i:=by omega
  rw [e1]
  have h47:=zN2 s i hi
  refine zE ?_;refine zE ?_;refine zJ (fun K hK=>?_);simp (disch:=omega) only [push_cast,↓iC9,simprocAttr];refine hK _ ?_;clear hK K
  refine zA ?_;refine yD rfl ?_;refine zC ?_;refine zE ?_
  by_cases hc:s.data.toList[i]?=some 47
  ·rw [decide_eq_true hc] at h47
   have hl:nP s.data.toList=i:=by rw [nP,qZ0 hc (fun j hj=>hn j hj)]
   rw [hl];refine zD ?_;refine zE ?_;refine zJ (fun K hK=>?_);simp (disch:=omega) only [push_cast,↓iC9,simprocAttr,h47];(repeat refine ⟨by first|omega|decide|((repeat' apply And.intro) <;> first|omega|decide),?_⟩);refine hK _ ?_;clear hK K
   refine zA ?_;refine yD rfl ?_;refine zE ?_;refine zJ (fun K hK=>?_);simp (disch:=omega) only [push_cast,↓iC9,simprocAttr];refine hK _ ?_;clear hK K
   refine zA ?_;refine zW ?_;refine zL ?_;refine zK ?_;refine zK ?_;refine zL ?_;refine zK ?_;simp only [yA,yM,yH,yE,aL,aU,yK,yJ,zS,zM,Nat.reduceEqDiff,reduceIte,reduceCtorEq];exact bK rfl
  ·rw [decide_eq_false hc] at h47;refine zD ?_;refine zE ?_;refine zJ (fun K hK=>?_);simp (disch:=omega) only [push_cast,↓iC9,simprocAttr,h47];(repeat refine ⟨by first|omega|decide|((repeat' apply And.intro) <;> first|omega|decide),?_⟩);refine hK _ ?_;clear hK K
   refine zA ?_;refine yC rfl ?_;refine zC ?_;refine zB ?_;refine zA ?_;refine zJ (fun K hK=>?_);simp (disch:=omega) only [push_cast,↓iC9,simprocAttr];refine hK _ ?_;clear hK K
   refine zA ?_;refine ⟨i,rfl,⟨by omega,fun j hj=>?_⟩,by omega⟩
   rcases Nat.lt_or_ge i j with h|h
   ·exact hn j h
   ·have:j=i:=by omega
    subst this;exact hc
set_option maxHeartbeats 1000000 in
theorem zJf (s:ByteArray) (hs:s.size≤1048576):HFun Tryz.prog 93 [.v (.string s),.v (.int .u8 47)] (fun h st=>h=.v (.int .i64 (nP s.data.toList))):=by
 refine iD (N:=8) Tryz.func93 rfl Tryz.ntmps93 Tryz.results93 (by simp) ?_
 refine zE ?_;refine zJ (fun K hK=>?_);simp (disch:=omega) only [push_cast,↓iC9,simprocAttr];refine hK _ ?_;clear hK K
 refine zE ?_;refine zJ (fun K hK=>?_);simp (disch:=omega) only [push_cast,↓iC9,simprocAttr]
 refine cK zTf (zE9 s hs) (.cons (.v _) (.cons (.v _) .nil)) ?_;with_reducible refine aM ?_;simp (disch:=omega) only [push_cast,↓iC9,simprocAttr]
 refine hK _ ?_;clear hK K;refine zA ?_;refine zW ?_;simp only [yA,yM,yH,yE,aL,aU,yK,yJ,zS,zM,Nat.reduceEqDiff,reduceIte,reduceCtorEq];exact bK rfl
theorem zFa (s:ByteArray):(if (0:Int) < nP s.data.toList then nP s.data.toList else 0)=(qA6 s:Int)∧qA6 s≤s.size:=by
 unfold nP qA6
 cases e:eB s.data.toList with
|none=>exact ⟨rfl,Nat.zero_le _⟩
|some i =>
  have:=(pQ e).1
  rw [← Lib.size_eq] at this;refine ⟨?_,Nat.le_of_lt this⟩;dsimp only [Option.getD_some];split <;> omega
set_option maxHeartbeats 1000000 in
theorem qVx (s:ByteArray) (hs:s.size≤1048576):HFun Tryz.prog 59 [.v (.string s)] (fun h st=>h=.v (.string (par s))):=by
 refine iD (N:=8) Tryz.func59 rfl Tryz.ntmps59 Tryz.results59 (by simp) ?_
 refine zE ?_;refine zJ (fun K hK=>?_);simp (disch:=omega) only [push_cast,↓iC9,simprocAttr];refine hK _ ?_;clear hK K
 refine zE ?_;refine zJ (fun K hK=>?_);simp (disch:=omega) only [push_cast,↓iC9,simprocAttr]
 refine cK zT7 (zJf s hs) (.cons (.v _) (.cons (.v _) .nil)) ?_;obtain ⟨h1,h2⟩:=zFa s;with_reducible refine aM ?_;simp (disch:=omega) only [push_cast,↓iC9,simprocAttr,h1]
 refine ⟨by first|omega|decide|((repeat' apply And.intro) <;> first|omega|decide),?_⟩
 refine hK _ ?_;clear hK K;refine zA ?_;refine zW ?_;simp only [yA,yM,yH,yE,aL,aU,yK,yJ,zS,zM,Nat.reduceEqDiff,reduceIte,reduceCtorEq];exact bK rfl
def pre (s p:ByteArray):Bool:=p.data.toList.isPrefixOf s.data.toList
theorem zM8 (s p:ByteArray) (h:p.size≤s.size):decide (s.extract 0 p.size=p)=pre s p:=by
 rw [pre,Bool.eq_iff_iff,decide_eq_true_iff,List.isPrefixOf_iff_prefix]
 have e:(s.extract 0 p.size).data.toList=s.data.toList.take p.data.toList.length:=by rw [Lib.extract_from_zero,← Lib.size_eq]
 rw [List.prefix_iff_eq_take];constructor
 ·intro h;rw [← e,h]
 ·intro h
  apply toList_inj
  rw [Lib.toList_data,Lib.toList_data,e];exact h.symm
theorem zE0 {s p:ByteArray} (h:¬ p.size≤s.size):pre s p=false:=by
 rw [pre,Bool.eq_false_iff];intro hp
 have:=(List.isPrefixOf_iff_prefix.1 hp).length_le
 rw [← Lib.size_eq,← Lib.size_eq] at this;exact h this
theorem zGd (p t:ByteArray):iL p t=(decide (t={ data:=#[] }) || decide (p=t) || pre p (t ++ { data:=#[47] })):=rfl
def okN (b:Bool):Int:=bif b then 0 else 10
set_option maxHeartbeats 4000000 in
theorem qVw (p:ByteArray) (d:Nat) (hp:p.size≤1048576) (hd:d≤1000):HFun Tryz.prog 43 [.v (.string p),.v (.int .i64 d)] (fun h st=>h=.v (.int .i64 (okN (pOk p d)))):=by
 refine iD (N:=30) Tryz.func43 rfl Tryz.ntmps43 Tryz.results43 (by simp) ?_
 have pl:=qDh p
 have plz:1≤(parts p).length:=by have:=qQl p;omega
 have hsz:∀ q ∈ parts p,q.size≤1048576:=fun q hq=>by
  obtain ⟨l,hl,rfl⟩:=List.mem_map.1 hq
  have:∀ (s:List UInt8),∀ l ∈ kW s,l.length≤s.length:=by
   intro s
   induction s with
  |nil=>intro l h;simp [kW] at h;subst h;simp
  |cons c r ih =>
    intro l h
    by_cases hc:c=47
    ·subst hc;rw [jF] at h
     rcases List.mem_cons.1 h with rfl|h
     ·simp
     ·have:=ih l h;simp;omega
    ·cases e:kW r with
    |nil=>exact absurd e (qAz r)
    |cons a t =>
      rw [kV hc e] at h
      rcases List.mem_cons.1 h with rfl|h
      ·have:=ih a (by rw [e];simp);simp;omega
      ·have:=ih l (by rw [e];simp [h]);simp;omega
  have:=this _ l hl
  rw [← Lib.size_eq] at this
  have e:(mkB l).size=l.length:=by simp [mkB,ByteArray.size]
  omega
 refine zE ?_;refine zJ (fun K hK=>?_);simp (disch:=omega) only [push_cast,↓iC9,simprocAttr];refine hK _ ?_;clear hK K
 by_cases h0:p={ data:=#[] }
 ·have hd0:decide (p={ data:=#[] })=true:=decide_eq_true h0
  have e:pOk p d=false:=by
   rw [Bool.eq_false_iff];intro h;exact nZ h h0
  rw [e];refine zE ?_;refine zE ?_;refine zJ (fun K hK=>?_);simp (disch:=omega) only [push_cast,↓iC9,simprocAttr,hd0];refine hK _ ?_;clear hK K
  refine yD rfl ?_;refine zE ?_;refine zJ (fun K hK=>?_);simp (disch:=omega) only [push_cast,↓iC9,simprocAttr];refine hK _ ?_;clear hK K
  refine zA ?_;refine zW ?_;refine zK ?_;simp only [yA,yM,yH,yE,aL,aU,yK,yJ,zS,zM,Nat.reduceEqDiff,reduceIte,reduceCtorEq];exact bK rfl
 have hd0:decide (p={ data:=#[] })=false:=decide_eq_false h0
 by_cases h1:d < 1
 ·have e:pOk p d=false:=by
   rw [pOk,decide_eq_false (by omega)];rfl
  rw [e];refine zE ?_;refine zE ?_;refine zJ (fun K hK=>?_);simp (disch:=omega) only [push_cast,↓iC9,simprocAttr,hd0];refine hK _ ?_;clear hK K
  refine yD rfl ?_;refine zE ?_;refine zJ (fun K hK=>?_);simp (disch:=omega) only [push_cast,↓iC9,simprocAttr];refine hK _ ?_;clear hK K
  refine zA ?_;refine zW ?_;refine zK ?_;simp only [yA,yM,yH,yE,aL,aU,yK,yJ,zS,zM,Nat.reduceEqDiff,reduceIte,reduceCtorEq];exact bK rfl
 refine zE ?_;refine zE ?_;refine zJ (fun K hK=>?_);simp (disch:=omega) only [push_cast,↓iC9,simprocAttr,hd0];refine hK _ ?_;clear hK K
 refine yC rfl ?_;refine zC ?_;refine zE ?_;refine zJ (fun K hK=>?_);simp (disch:=omega) only [push_cast,↓iC9,simprocAttr]
 refine hat 120 zUb (zMo p hp) (.cons (.v _) (.cons (.v _) .nil)) ?_;rintro _ _ ⟨rfl,rfl⟩;with_reducible refine aM ?_;simp (disch:=omega) only [push_cast,↓iC9,simprocAttr]
 refine hK _ ?_;clear hK K
 by_cases h2:d < (parts p).length
 ·have e:pOk p d=false:=by
   rw [pOk,decide_eq_false (by omega)];rfl
  rw [e];refine zE ?_;refine zE ?_;refine zJ (fun K hK=>?_);simp (disch:=omega) only [push_cast,↓iC9,simprocAttr,cT];refine hK _ ?_;clear hK K
  refine yD rfl ?_;refine zE ?_;refine zJ (fun K hK=>?_);simp (disch:=omega) only [push_cast,↓iC9,simprocAttr];refine hK _ ?_;clear hK K
  refine zA ?_;refine zW ?_;refine zK ?_;simp only [yA,yM,yH,yE,aL,aU,yK,yJ,zS,zM,Nat.reduceEqDiff,reduceIte,reduceCtorEq];exact bK rfl
 have e:pOk p d=(parts p).all fJ:=by rw [pOk,decide_eq_true (by omega),Bool.true_and]
 rw [e];generalize parts p=L at *
 refine zE ?_;refine zE ?_;refine zJ (fun K hK=>?_);simp (disch:=omega) only [push_cast,↓iC9,simprocAttr,cT];refine hK _ ?_;clear hK K
 refine yC rfl ?_;refine zC ?_;refine zE ?_;refine zE ?_;refine zJ (fun K hK=>?_);simp (disch:=omega) only [push_cast,↓iC9,simprocAttr,cT];refine hK _ ?_;clear hK K
 refine zA ?_;refine zD ?_;refine dW (fun i:Nat=>⟨[(20,.lst true (dP L)),(21,.v (.int .i64 L.length)),(22,.v (.int .i64 i))],[]⟩) (fun i=>i≤L.length∧(L.take i).all fJ=true) (fun i=>L.length - i) [20,21,22] [] 0 rfl ⟨Nat.zero_le _,rfl⟩ ?_
 rintro i ⟨hi,ha⟩
 by_cases hlt:i < L.length
 ·refine zE ?_;refine zJ (fun K hK=>?_);simp (disch:=omega) only [push_cast,↓iC9,simprocAttr];refine hK _ ?_;clear hK K
  refine zE ?_;refine yD rfl ?_;refine zC ?_;refine zE ?_;refine zD ?_;refine zE ?_;refine zJ (fun K hK=>?_);simp (disch:=omega) only [push_cast,↓iC9,simprocAttr,cT,sJ,qJk hlt];refine hK _ ?_;clear hK K
  refine zE ?_;refine zJ (fun K hK=>?_);simp (disch:=omega) only [push_cast,↓iC9,simprocAttr]
  refine cK zUa (zNa L[i] (hsz _ (List.getElem_mem hlt))) (.cons (.v _) .nil) ?_
  cases hn:fJ L[i] with
 |false =>
   with_reducible refine aM ?_;simp (disch:=omega) only [push_cast,↓iC9,simprocAttr]
   refine hK _ ?_;clear hK K;refine yD rfl ?_;refine zE ?_;refine zJ (fun K hK=>?_);simp (disch:=omega) only [push_cast,↓iC9,simprocAttr];refine hK _ ?_;clear hK K
   refine zA ?_;refine zW ?_;refine zL ?_;refine zK ?_;refine zK ?_;refine zL ?_;refine zK ?_;simp only [yA,yM,yH,yE,aL,aU,yK,yJ,zS,zM,Nat.reduceEqDiff,reduceIte,reduceCtorEq];refine bK ?_
   have:L.all fJ=false:=by
    rw [Bool.eq_false_iff];intro h;rw [List.all_eq_true.1 h _ (List.getElem_mem hlt)] at hn;cases hn
   rw [this];rfl
 |true =>
   with_reducible refine aM ?_;simp (disch:=omega) only [push_cast,↓iC9,simprocAttr]
   refine hK _ ?_;clear hK K;refine yC rfl ?_;refine zC ?_;refine zB ?_;refine zA ?_;refine zJ (fun K hK=>?_);simp (disch:=omega) only [push_cast,↓iC9,simprocAttr];refine hK _ ?_;clear hK K
   refine zA ?_;refine ⟨i + 1,rfl,⟨hlt,?_⟩,by omega⟩
   rw [List.take_succ_eq_append_getElem hlt,List.all_append,ha];simp [hn]
 ·have hne:i=L.length:=by omega
  subst hne;rw [List.take_length] at ha;rw [ha];refine zE ?_;refine zJ (fun K hK=>?_);simp (disch:=omega) only [push_cast,↓iC9,simprocAttr];refine hK _ ?_;clear hK K
  refine zE ?_;refine yC rfl ?_;refine zT ?_;refine zG ?_;refine zG ?_;refine zH ?_;refine zE ?_;refine zJ (fun K hK=>?_);simp (disch:=omega) only [push_cast,↓iC9,simprocAttr];refine hK _ ?_;clear hK K
  refine zA ?_;refine zW ?_;simp only [yA,yM,yH,yE,aL,aU,yK,yJ,zS,zM,Nat.reduceEqDiff,reduceIte,reduceCtorEq];exact bK rfl
end Go.Proofs.YtlihpgmgiehjkaaGreatDoor
end
section
set_option maxRecDepth 20000
namespace Go.Proofs.YtlihpgmgiehjkaaGreatDoor
open Go Go.Eng Go.RowKit Go.Tr Go.Dk
abbrev kS:TypeId:=9
theorem mtI:MapTy Tryz.prog 61 9 97 itm0.val:=⟨by kernel_rfl,by kernel_rfl,fun w=>by kernel_rfl⟩
theorem mtL:MapTy Tryz.prog 62 9 3 (.int .i64 0):=⟨by kernel_rfl,by kernel_rfl,fun w=>by kernel_rfl⟩
theorem zLx (p:ByteArray) (hs:p.size≤1048576):HFun Tryz.prog 96 [.v (.string p)] (fun h st=>h=.v (.int .i64 (qFo p))):=by
 refine iD (N:=8) Tryz.func96 rfl Tryz.ntmps96 Tryz.results96 (by simp) ?_
 have hc:=zDh p
 have hle:p.data.toList.count 47≤p.size:=by rw [Lib.size_eq];exact List.count_le_length
 unfold qFo
 by_cases e:p={ data:=#[] }
 ·subst e;refine zE ?_;refine zJ (fun K hK=>?_);simp (disch:=omega) only [push_cast,↓iC9,simprocAttr];refine hK _ ?_;clear hK K
  refine zE ?_;refine zE ?_;refine zJ (fun K hK=>?_);simp (disch:=omega) only [push_cast,↓iC9,simprocAttr];refine hK _ ?_;clear hK K
  refine zA ?_;refine yD rfl ?_;refine zE ?_;refine zJ (fun K hK=>?_);simp (disch:=omega) only [push_cast,↓iC9,simprocAttr];refine hK _ ?_;clear hK K
  refine zA ?_;refine zW ?_;refine zK ?_;simp only [yA,yM,yH,yE,aL,aU,yK,yJ,zS,zM,Nat.reduceEqDiff,reduceIte,reduceCtorEq];exact bK rfl
 ·rw [if_neg e]
  have e':decide (p={ data:=#[] })=false:=decide_eq_false e
  refine zE ?_;refine zJ (fun K hK=>?_);simp (disch:=omega) only [push_cast,↓iC9,simprocAttr];refine hK _ ?_;clear hK K
  refine zE ?_;refine zE ?_;refine zJ (fun K hK=>?_);simp (disch:=omega) only [push_cast,↓iC9,simprocAttr,e'];refine hK _ ?_;clear hK K
  refine zA ?_;refine yC rfl ?_;refine zC ?_;refine zE ?_;refine zJ (fun K hK=>?_);simp (disch:=omega) only [push_cast,↓iC9,simprocAttr]
  refine cK zPu hc (.cons (.v _) (.cons (.v _) .nil)) ?_;with_reducible refine aM ?_;simp (disch:=omega) only [push_cast,↓iC9,simprocAttr]
  refine hK _ ?_;clear hK K;refine zA ?_;refine zW ?_;simp only [yA,yM,yH,yE,aL,aU,yK,yJ,zS,zM,Nat.reduceEqDiff,reduceIte,reduceCtorEq];exact bK rfl
theorem qQz (d:Dk) (p:ByteArray) (k:Int) (r1 r2:Nat) (hs:p.size≤1048576):HFunS Tryz.prog 61 [.ptr 0 6 0 0,.v (.string p),.v (.int .i64 k)] [(0,.bx false 64 (d.cells r1 r2))] (fun h st=>h=.v (.int .i64 (may d p k))∧st=[(0,.bx false 64 (d.cells r1 r2))]):=by
 refine pS (N:=25) Tryz.func61 rfl Tryz.ntmps61 Tryz.results61 (by simp) ?_
 rw [bM]
 have hc:HFun Tryz.prog 43 [.v (.string p),.v (.int .i64 6)] (fun h st=>h=.v (.int .i64 (okN (pOk p 6)))):=qVw p 6 hs (by decide)
 have hde:=zLx p hs
 unfold may;refine zE ?_;refine zJ (fun K hK=>?_);simp (disch:=omega) only [push_cast,↓iC9,simprocAttr];refine hK _ ?_;clear hK K
 refine zE ?_;refine zD ?_;refine zE ?_;refine zJ (fun K hK=>?_);simp (disch:=omega) only [push_cast,↓iC9,simprocAttr];refine hK _ ?_;clear hK K
 refine zA ?_;refine yC rfl ?_;refine zE ?_;refine zJ (fun K hK=>?_);simp (disch:=omega) only [push_cast,↓iC9,simprocAttr];refine hK _ ?_;clear hK K
 refine zA ?_
 cases hd:d.down with
|true =>
  refine yD rfl ?_;refine zE ?_;refine zJ (fun K hK=>?_);simp (disch:=omega) only [push_cast,↓iC9,simprocAttr];refine hK _ ?_;clear hK K
  refine zA ?_;refine zW ?_;refine zL ?_;refine zK ?_;simp only [aR,aZ,yH,yE,yK,yJ,aH,zS,zM,Nat.reduceEqDiff,reduceIte,reduceCtorEq];refine cZ [0] (by decide) (by decide) (by simp only [push_cast,simprocAttr]) (by simp only [push_cast,simprocAttr]) (by simp only [push_cast,simprocAttr];rfl) (by simp only [push_cast,simprocAttr];rfl) ?_
  exact ⟨rfl,rfl⟩
|false =>
  refine yC rfl ?_
  cases hp:pOk p 6 with
 |false =>
   rw [hp] at hc
   have hc:HFun Tryz.prog 43 [.v (.string p),.v (.int .i64 6)] (fun h st=>h=.v (.int .i64 10)):=hc
   refine zE ?_;refine zJ (fun K hK=>?_);simp (disch:=omega) only [push_cast,↓iC9,simprocAttr]
   refine cK zNy hc (.cons (.v _) (.cons (.v _) .nil)) ?_;with_reducible refine aM ?_;simp (disch:=omega) only [push_cast,↓iC9,simprocAttr]
   refine hK _ ?_;clear hK K;refine zA ?_;refine yD rfl ?_;refine zE ?_;refine zJ (fun K hK=>?_);simp (disch:=omega) only [push_cast,↓iC9,simprocAttr];refine hK _ ?_;clear hK K
   refine zA ?_;refine zW ?_;refine zL ?_;refine zK ?_;simp only [aR,aZ,yH,yE,yK,yJ,aH,zS,zM,Nat.reduceEqDiff,reduceIte,reduceCtorEq];refine cZ [0] (by decide) (by decide) (by simp only [push_cast,simprocAttr]) (by simp only [push_cast,simprocAttr]) (by simp only [push_cast,simprocAttr];rfl) (by simp only [push_cast,simprocAttr];rfl) ?_
   exact ⟨by simp,rfl⟩
 |true =>
   rw [hp] at hc
   have hc:HFun Tryz.prog 43 [.v (.string p),.v (.int .i64 6)] (fun h st=>h=.v (.int .i64 0)):=hc
   refine zE ?_;refine zJ (fun K hK=>?_);simp (disch:=omega) only [push_cast,↓iC9,simprocAttr]
   refine cK zNy hc (.cons (.v _) (.cons (.v _) .nil)) ?_;with_reducible refine aM ?_;simp (disch:=omega) only [push_cast,↓iC9,simprocAttr]
   refine cK zQu hde (.cons (.v _) .nil) ?_;with_reducible refine aM ?_;simp (disch:=omega) only [push_cast,↓iC9,simprocAttr]
   refine hK _ ?_;clear hK K;refine zA ?_
   by_cases hk:qFo p≤k
   ·refine bE rfl (fun ht=>?_) (fun hf=>by simp [hk] at hf)
    refine zE ?_;refine zJ (fun K hK=>?_);simp (disch:=omega) only [push_cast,↓iC9,simprocAttr];refine hK _ ?_;clear hK K
    refine zA ?_;refine zW ?_;refine zL ?_;refine zK ?_;simp only [aR,aZ,yH,yE,yK,yJ,aH,zS,zM,Nat.reduceEqDiff,reduceIte,reduceCtorEq];refine cZ [0] (by decide) (by decide) (by simp only [push_cast,simprocAttr]) (by simp only [push_cast,simprocAttr]) (by simp only [push_cast,simprocAttr];rfl) (by simp only [push_cast,simprocAttr];rfl) ?_
    exact ⟨by simp [hk],rfl⟩
   ·refine bE rfl (fun ht=>by simp [hk] at ht) (fun hf=>?_)
    refine zC ?_;refine zE ?_;refine zJ (fun K hK=>?_);simp (disch:=omega) only [push_cast,↓iC9,simprocAttr];refine hK _ ?_;clear hK K
    refine zA ?_;refine zW ?_;simp only [aR,aZ,yH,yE,yK,yJ,aH,zS,zM,Nat.reduceEqDiff,reduceIte,reduceCtorEq];refine cZ [0] (by decide) (by decide) (by simp only [push_cast,simprocAttr]) (by simp only [push_cast,simprocAttr]) (by simp only [push_cast,simprocAttr];rfl) (by simp only [push_cast,simprocAttr];rfl) ?_
    exact ⟨by simp [hk],rfl⟩
theorem qJo (d:Dk) (r1 r2:Nat) (h1:0≤d.steps∧d.steps < 4611686018427387904) (h2:-1≤d.armed∧d.armed≤9223372036854775807):HFunS Tryz.prog 63 [.ptr 0 6 0 0] [(0,.bx false 64 (d.cells r1 r2))] (fun h st=>h=.v (.int .i64 (aW d).1)∧st=[(0,.bx false 64 ((aW d).2.cells r1 r2))]):=by
 refine pS (N:=33) Tryz.func63 rfl Tryz.ntmps63 Tryz.results63 (by simp) ?_
 obtain ⟨L,R,steps,stamps,armed,down,n,m⟩:=d;simp only at h1 h2;simp only [bM];unfold aW;refine zE ?_;refine zJ (fun K hK=>?_);simp (disch:=omega) only [push_cast,↓iC9,simprocAttr];refine hK _ ?_;clear hK K
 refine zE ?_;refine zE ?_;refine zJ (fun K hK=>?_);simp (disch:=omega) only [push_cast,↓iC9,simprocAttr];refine hK _ ?_;clear hK K
 refine zA ?_
 by_cases ha:armed=0
 ·subst ha;refine yD rfl ?_;refine zE ?_;refine zJ (fun K hK=>?_);simp (disch:=omega) only [push_cast,↓iC9,simprocAttr];refine hK _ ?_;clear hK K
  refine zE ?_;refine zJ (fun K hK=>?_);simp (disch:=omega) only [push_cast,↓iC9,simprocAttr];refine hK _ ?_;clear hK K
  refine zA ?_;refine zW ?_;refine zK ?_;simp only [aR,aZ,yH,yE,yK,yJ,aH,zS,zM,Nat.reduceEqDiff,reduceIte,reduceCtorEq];refine cZ [0] (by decide) (by decide) (by simp only [push_cast,simprocAttr]) (by simp only [push_cast,simprocAttr]) (by simp only [push_cast,simprocAttr];rfl) (by simp only [push_cast,simprocAttr];rfl) ?_
  exact ⟨rfl,rfl⟩
 ·refine bE rfl (fun ht=>by simp [ha] at ht) (fun _=>?_)
  by_cases hg:0 < armed
  ·refine zC ?_;refine zE ?_;refine zE ?_;refine zJ (fun K hK=>?_);simp (disch:=omega) only [push_cast,↓iC9,simprocAttr,hg];refine hK _ ?_;clear hK K
   refine zA ?_;refine bE rfl (fun _=>?_) (fun hf=>by simp [hg] at hf)
   refine zJ (fun K hK=>?_);simp (disch:=omega) only [push_cast,↓iC9,simprocAttr];refine hK _ ?_;clear hK K
   refine zE ?_;refine zJ (fun K hK=>?_);simp (disch:=omega) only [push_cast,↓iC9,simprocAttr];refine hK _ ?_;clear hK K
   refine zE ?_;refine zJ (fun K hK=>?_);simp (disch:=omega) only [push_cast,↓iC9,simprocAttr];refine hK _ ?_;clear hK K
   refine zA ?_;refine zW ?_;simp only [aR,aZ,yH,yE,yK,yJ,aH,zS,zM,Nat.reduceEqDiff,reduceIte,reduceCtorEq];refine cZ [0] (by decide) (by decide) (by simp only [push_cast,simprocAttr]) (by simp only [push_cast,simprocAttr]) (by simp only [push_cast,simprocAttr];rfl) (by simp only [push_cast,simprocAttr];rfl) ?_
   rw [if_neg ha];exact ⟨rfl,by simp [hg]⟩
  ·refine zC ?_;refine zE ?_;refine zE ?_;refine zJ (fun K hK=>?_);simp (disch:=omega) only [push_cast,↓iC9,simprocAttr];refine hK _ ?_;clear hK K
   refine zA ?_;refine bE rfl (fun ht=>by simp [hg] at ht) (fun _=>?_)
   refine zC ?_;refine zE ?_;refine zJ (fun K hK=>?_);simp (disch:=omega) only [push_cast,↓iC9,simprocAttr];refine hK _ ?_;clear hK K
   refine zE ?_;refine zJ (fun K hK=>?_);simp (disch:=omega) only [push_cast,↓iC9,simprocAttr];refine hK _ ?_;clear hK K
   refine zA ?_;refine zW ?_;simp only [aR,aZ,yH,yE,yK,yJ,aH,zS,zM,Nat.reduceEqDiff,reduceIte,reduceCtorEq];refine cZ [0] (by decide) (by decide) (by simp only [push_cast,simprocAttr]) (by simp only [push_cast,simprocAttr]) (by simp only [push_cast,simprocAttr];rfl) (by simp only [push_cast,simprocAttr];rfl) ?_
   rw [if_neg ha];exact ⟨rfl,by simp [hg]⟩
end Go.Proofs.YtlihpgmgiehjkaaGreatDoor
end
