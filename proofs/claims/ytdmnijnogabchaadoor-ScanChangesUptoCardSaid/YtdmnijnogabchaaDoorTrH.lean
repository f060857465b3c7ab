/-
  path.Check, Parent, Under, walked.
-/
import Derived.Test.YtdmnijnogabchaaDoorTrG
set_option linter.unusedSimpArgs false
set_option linter.unusedVariables false
set_option maxRecDepth 20000
namespace Go.Tr
open Go
theorem vF:∀ {s:List UInt8},gD s=none→∀ i:Nat,s[i]?≠some 47
|[],_,i=>by simp
|c :: r,h,i=>by
  rw [gD] at h;split at h
  ·cases h
  ·rename_i e;split at h
   ·cases h
   ·rename_i hc
    cases i with
   |zero=>simpa using hc
   |succ i=>simpa using vF e i
theorem qWp {s:List UInt8} {i:Nat} (h:s[i]?=some 47) (h2:∀ j:Nat,i < j→s[j]?≠some 47):gD s=some i:=by
 cases e:gD s with
|none=>exact absurd h (vF e i)
|some k =>
  have hk:=(mE e).2
  rcases Nat.lt_trichotomy i k with h'|h'|h'
  ·exact absurd hk (h2 k h')
  ·rw [h']
  ·have:∀ {s:List UInt8} {k:Nat},gD s=some k→∀ j:Nat,k < j→s[j]?≠some 47:=by
    intro s
    induction s with
   |nil=>intro k h;simp [gD] at h
   |cons c r ih =>
     intro k h j hj;rw [gD] at h;split at h
     ·rename_i m hm;simp only [Option.some.injEq] at h;subst h
      cases j with
     |zero=>omega
     |succ j=>simpa using ih hm j (by omega)
     ·rename_i hn;split at h
      ·simp only [Option.some.injEq] at h;subst h
       cases j with
      |zero=>omega
      |succ j=>simpa using vF hn j
      ·cases h
   exact absurd h (this e i h')
end Go.Tr
namespace Go.Proofs.YtdmnijnogabchaaDoor
open Go Go.Eng Go.RowKit Go.Tr
theorem zJq (s:ByteArray) (i:Nat) (h:i < s.size):decide (sL s i=47)=decide (s.data.toList[i]?=some 47):=by
 have h':i < s.data.size:=h
 rw [Array.getElem?_toList,Array.getElem?_eq_getElem h',decide_eq_decide];unfold sL;rw [Array.getD_eq_getD_getElem?,Array.getElem?_eq_getElem h'];simp only [Option.getD_some,Option.some.injEq];constructor
 ·intro h;apply UInt8.toNat_inj.1;have e:(47:UInt8).toNat=47:=rfl;omega
 ·intro h;rw [h];rfl
set_option maxHeartbeats 4000000 in
theorem zA6 (s:ByteArray) (hs:s.size≤1048576):HFun Tryd.prog 52 [.v (.string s),.v (.int .u8 47)] (fun h st=>h=.v (.int .i64 (kD s.data.toList))):=by
 refine kG (N:=19) Tryd.func52 rfl Tryd.ntmps52 Tryd.results52 (by simp) ?_
 refine zE ?_;refine zJ (fun K hK=>?_);simp (disch:=omega) only [push_cast,↓iC9,simprocAttr];refine hK _ ?_;clear hK K
 refine zE ?_;refine zE ?_;refine zJ (fun K hK=>?_);simp (disch:=omega) only [push_cast,↓iC9,simprocAttr];refine hK _ ?_;clear hK K
 refine zA ?_;refine zD ?_;refine gC (fun i:Nat=>⟨[(0,.v (.string s)),(1,.v (.int .u8 47)),(5,.v (.int .i64 ((i:Int) - 1)))],[]⟩) (fun i=>i≤s.size∧∀ j,i≤j→s.data.toList[j]?≠some 47) (fun i=>i) [0,1,5] [] s.size rfl ⟨Nat.le_refl _,fun j hj=>by rw [List.getElem?_eq_none (by rw [← Lib.size_eq];exact hj)];simp⟩ ?_
 rintro i ⟨hi,hn⟩
 cases i with
|zero =>
  have hl:kD s.data.toList=-1:=by
   unfold kD
   cases e:gD s.data.toList with
  |none=>rfl
  |some k=>exact absurd (mE e).2 (hn k (Nat.zero_le _))
  rw [hl];refine zE ?_;refine zE ?_;refine zJ (fun K hK=>?_);simp (disch:=omega) only [push_cast,↓iC9,simprocAttr];refine hK _ ?_;clear hK K
  refine zA ?_;refine yC rfl ?_;refine zT ?_;refine zG ?_;refine zG ?_;refine zH ?_;refine zE ?_;refine zJ (fun K hK=>?_);simp (disch:=omega) only [push_cast,↓iC9,simprocAttr];refine hK _ ?_;clear hK K
  refine zA ?_;refine zW ?_;simp only [yA,yM,yH,yE,aH,aT,yK,yJ,zS,zM,Nat.reduceEqDiff,reduceIte,reduceCtorEq];exact bD rfl
|succ i =>
  have e1:((i + 1:Nat):Int) - 1=i:=by omega
  rw [e1]
  have h47:=zJq s i hi
  refine zE ?_;refine zE ?_;refine zJ (fun K hK=>?_);simp (disch:=omega) only [push_cast,↓iC9,simprocAttr];refine hK _ ?_;clear hK K
  refine zA ?_;refine yD rfl ?_;refine zC ?_;refine zE ?_
  by_cases hc:s.data.toList[i]?=some 47
  ·rw [decide_eq_true hc] at h47
   have hl:kD s.data.toList=i:=by rw [kD,qWp hc (fun j hj=>hn j hj)]
   rw [hl];refine zD ?_;refine zE ?_;refine zJ (fun K hK=>?_);simp (disch:=omega) only [push_cast,↓iC9,simprocAttr,h47];(repeat refine ⟨by first|omega|decide|((repeat' apply And.intro) <;> first|omega|decide),?_⟩);refine hK _ ?_;clear hK K
   refine zA ?_;refine yD rfl ?_;refine zE ?_;refine zJ (fun K hK=>?_);simp (disch:=omega) only [push_cast,↓iC9,simprocAttr];refine hK _ ?_;clear hK K
   refine zA ?_;refine zW ?_;refine zL ?_;refine zK ?_;refine zK ?_;refine zL ?_;refine zK ?_;simp only [yA,yM,yH,yE,aH,aT,yK,yJ,zS,zM,Nat.reduceEqDiff,reduceIte,reduceCtorEq];exact bD rfl
  ·rw [decide_eq_false hc] at h47;refine zD ?_;refine zE ?_;refine zJ (fun K hK=>?_);simp (disch:=omega) only [push_cast,↓iC9,simprocAttr,h47];(repeat refine ⟨by first|omega|decide|((repeat' apply And.intro) <;> first|omega|decide),?_⟩);refine hK _ ?_;clear hK K
   refine zA ?_;refine yC rfl ?_;refine zC ?_;refine zB ?_;refine zA ?_;refine zJ (fun K hK=>?_);simp (disch:=omega) only [push_cast,↓iC9,simprocAttr];refine hK _ ?_;clear hK K
   refine zA ?_;refine ⟨i,rfl,⟨by omega,fun j hj=>?_⟩,by omega⟩
   rcases Nat.lt_or_ge i j with h|h
   ·exact hn j h
   ·have:j=i:=by omega
    subst this;exact hc
set_option maxHeartbeats 1000000 in
theorem zDf (s:ByteArray) (hs:s.size≤1048576):HFun Tryd.prog 40 [.v (.string s),.v (.int .u8 47)] (fun h st=>h=.v (.int .i64 (kD s.data.toList))):=by
 refine kG (N:=8) Tryd.func40 rfl Tryd.ntmps40 Tryd.results40 (by simp) ?_
 refine zE ?_;refine zJ (fun K hK=>?_);simp (disch:=omega) only [push_cast,↓iC9,simprocAttr];refine hK _ ?_;clear hK K
 refine zE ?_;refine zJ (fun K hK=>?_);simp (disch:=omega) only [push_cast,↓iC9,simprocAttr]
 refine cU zMa (zA6 s hs) (.cons (.v _) (.cons (.v _) .nil)) ?_;with_reducible refine aP ?_;simp (disch:=omega) only [push_cast,↓iC9,simprocAttr]
 refine hK _ ?_;clear hK K;refine zA ?_;refine zW ?_;simp only [yA,yM,yH,yE,aH,aT,yK,yJ,zS,zM,Nat.reduceEqDiff,reduceIte,reduceCtorEq];exact bD rfl
theorem zA7 (s:ByteArray):(if (0:Int) < kD s.data.toList then kD s.data.toList else 0)=(qD3 s:Int)∧qD3 s≤s.size:=by
 unfold kD qD3
 cases e:gD s.data.toList with
|none=>exact ⟨rfl,Nat.zero_le _⟩
|some i =>
  have:=(mE e).1
  rw [← Lib.size_eq] at this;refine ⟨?_,Nat.le_of_lt this⟩;dsimp only [Option.getD_some];split <;> omega
set_option maxHeartbeats 1000000 in
theorem qSh (s:ByteArray) (hs:s.size≤1048576):HFun Tryd.prog 29 [.v (.string s)] (fun h st=>h=.v (.string (par s))):=by
 refine kG (N:=8) Tryd.func29 rfl Tryd.ntmps29 Tryd.results29 (by simp) ?_
 refine zE ?_;refine zJ (fun K hK=>?_);simp (disch:=omega) only [push_cast,↓iC9,simprocAttr];refine hK _ ?_;clear hK K
 refine zE ?_;refine zJ (fun K hK=>?_);simp (disch:=omega) only [push_cast,↓iC9,simprocAttr]
 refine cU zMh (zDf s hs) (.cons (.v _) (.cons (.v _) .nil)) ?_;obtain ⟨h1,h2⟩:=zA7 s;with_reducible refine aP ?_;simp (disch:=omega) only [push_cast,↓iC9,simprocAttr,h1]
 refine ⟨by first|omega|decide|((repeat' apply And.intro) <;> first|omega|decide),?_⟩
 refine hK _ ?_;clear hK K;refine zA ?_;refine zW ?_;simp only [yA,yM,yH,yE,aH,aT,yK,yJ,zS,zM,Nat.reduceEqDiff,reduceIte,reduceCtorEq];exact bD rfl
def pre (s p:ByteArray):Bool:=p.data.toList.isPrefixOf s.data.toList
def okN (b:Bool):Int:=bif b then 0 else 10
set_option maxHeartbeats 4000000 in
theorem qSg (p:ByteArray) (d:Nat) (hp:p.size≤1048576) (hd:d≤1000):HFun Tryd.prog 27 [.v (.string p),.v (.int .i64 d)] (fun h st=>h=.v (.int .i64 (okN (pOk p d)))):=by
 refine kG (N:=30) Tryd.func27 rfl Tryd.ntmps27 Tryd.results27 (by simp) ?_
 have pl:=xP p
 have plz:1≤(parts p).length:=by have:=qL8 p;omega
 have hsz:∀ q ∈ parts p,q.size≤1048576:=fun q hq=>by
  obtain ⟨l,hl,rfl⟩:=List.mem_map.1 hq
  have:∀ (s:List UInt8),∀ l ∈ iE s,l.length≤s.length:=by
   intro s
   induction s with
  |nil=>intro l h;simp [iE] at h;subst h;simp
  |cons c r ih =>
    intro l h
    by_cases hc:c=47
    ·subst hc;rw [kK] at h
     rcases List.mem_cons.1 h with rfl|h
     ·simp
     ·have:=ih l h;simp;omega
    ·cases e:iE r with
    |nil=>exact absurd e (tF r)
    |cons a t =>
      rw [jM hc e] at h
      rcases List.mem_cons.1 h with rfl|h
      ·have:=ih a (by rw [e];simp);simp;omega
      ·have:=ih l (by rw [e];simp [h]);simp;omega
  have:=this _ l hl
  rw [← Lib.size_eq] at this
  have e:(mkB l).size=l.length:=by simp [mkB,ByteArray.size]
  omega
 refine zE ?_;refine zJ (fun K hK=>?_);simp (disch:=omega) only [push_cast,↓iC9,simprocAttr];refine hK _ ?_;clear hK K
 by_cases h0:p={ data:=#[] }
 ·have hd0:decide (p={ data:=#[] })=true:=decide_eq_true h0
  have e:pOk p d=false:=by
   rw [Bool.eq_false_iff];intro h;exact qQz h h0
  rw [e];refine zE ?_;refine zE ?_;refine zJ (fun K hK=>?_);simp (disch:=omega) only [push_cast,↓iC9,simprocAttr,hd0];refine hK _ ?_;clear hK K
  refine yD rfl ?_;refine zE ?_;refine zJ (fun K hK=>?_);simp (disch:=omega) only [push_cast,↓iC9,simprocAttr];refine hK _ ?_;clear hK K
  refine zA ?_;refine zW ?_;refine zK ?_;simp only [yA,yM,yH,yE,aH,aT,yK,yJ,zS,zM,Nat.reduceEqDiff,reduceIte,reduceCtorEq];exact bD rfl
 have hd0:decide (p={ data:=#[] })=false:=decide_eq_false h0
 by_cases h1:d < 1
 ·have e:pOk p d=false:=by
   rw [pOk,decide_eq_false (by omega)];rfl
  rw [e];refine zE ?_;refine zE ?_;refine zJ (fun K hK=>?_);simp (disch:=omega) only [push_cast,↓iC9,simprocAttr,hd0];refine hK _ ?_;clear hK K
  refine yD rfl ?_;refine zE ?_;refine zJ (fun K hK=>?_);simp (disch:=omega) only [push_cast,↓iC9,simprocAttr];refine hK _ ?_;clear hK K
  refine zA ?_;refine zW ?_;refine zK ?_;simp only [yA,yM,yH,yE,aH,aT,yK,yJ,zS,zM,Nat.reduceEqDiff,reduceIte,reduceCtorEq];exact bD rfl
 refine zE ?_;refine zE ?_;refine zJ (fun K hK=>?_);simp (disch:=omega) only [push_cast,↓iC9,simprocAttr,hd0];refine hK _ ?_;clear hK K
 refine yC rfl ?_;refine zC ?_;refine zE ?_;refine zJ (fun K hK=>?_);simp (disch:=omega) only [push_cast,↓iC9,simprocAttr]
 refine hat 120 zMj (zF1 p hp) (.cons (.v _) (.cons (.v _) .nil)) ?_;rintro _ _ ⟨rfl,rfl⟩;with_reducible refine aP ?_;simp (disch:=omega) only [push_cast,↓iC9,simprocAttr]
 refine hK _ ?_;clear hK K
 by_cases h2:d < (parts p).length
 ·have e:pOk p d=false:=by
   rw [pOk,decide_eq_false (by omega)];rfl
  rw [e];refine zE ?_;refine zE ?_;refine zJ (fun K hK=>?_);simp (disch:=omega) only [push_cast,↓iC9,simprocAttr,aM];refine hK _ ?_;clear hK K
  refine yD rfl ?_;refine zE ?_;refine zJ (fun K hK=>?_);simp (disch:=omega) only [push_cast,↓iC9,simprocAttr];refine hK _ ?_;clear hK K
  refine zA ?_;refine zW ?_;refine zK ?_;simp only [yA,yM,yH,yE,aH,aT,yK,yJ,zS,zM,Nat.reduceEqDiff,reduceIte,reduceCtorEq];exact bD rfl
 have e:pOk p d=(parts p).all dG:=by rw [pOk,decide_eq_true (by omega),Bool.true_and]
 rw [e];generalize parts p=L at *
 refine zE ?_;refine zE ?_;refine zJ (fun K hK=>?_);simp (disch:=omega) only [push_cast,↓iC9,simprocAttr,aM];refine hK _ ?_;clear hK K
 refine yC rfl ?_;refine zC ?_;refine zE ?_;refine zE ?_;refine zJ (fun K hK=>?_);simp (disch:=omega) only [push_cast,↓iC9,simprocAttr,aM];refine hK _ ?_;clear hK K
 refine zA ?_;refine zD ?_;refine gC (fun i:Nat=>⟨[(20,.lst true (bZ L)),(21,.v (.int .i64 L.length)),(22,.v (.int .i64 i))],[]⟩) (fun i=>i≤L.length∧(L.take i).all dG=true) (fun i=>L.length - i) [20,21,22] [] 0 rfl ⟨Nat.zero_le _,rfl⟩ ?_
 rintro i ⟨hi,ha⟩
 by_cases hlt:i < L.length
 ·refine zE ?_;refine zJ (fun K hK=>?_);simp (disch:=omega) only [push_cast,↓iC9,simprocAttr];refine hK _ ?_;clear hK K
  refine zE ?_;refine yD rfl ?_;refine zC ?_;refine zE ?_;refine zD ?_;refine zE ?_;refine zJ (fun K hK=>?_);simp (disch:=omega) only [push_cast,↓iC9,simprocAttr,aM,dD,jY hlt];refine hK _ ?_;clear hK K
  refine zE ?_;refine zJ (fun K hK=>?_);simp (disch:=omega) only [push_cast,↓iC9,simprocAttr]
  refine cU zMi (zGf L[i] (hsz _ (List.getElem_mem hlt))) (.cons (.v _) .nil) ?_
  cases hn:dG L[i] with
 |false =>
   with_reducible refine aP ?_;simp (disch:=omega) only [push_cast,↓iC9,simprocAttr]
   refine hK _ ?_;clear hK K;refine yD rfl ?_;refine zE ?_;refine zJ (fun K hK=>?_);simp (disch:=omega) only [push_cast,↓iC9,simprocAttr];refine hK _ ?_;clear hK K
   refine zA ?_;refine zW ?_;refine zL ?_;refine zK ?_;refine zK ?_;refine zL ?_;refine zK ?_;simp only [yA,yM,yH,yE,aH,aT,yK,yJ,zS,zM,Nat.reduceEqDiff,reduceIte,reduceCtorEq];refine bD ?_
   have:L.all dG=false:=by
    rw [Bool.eq_false_iff];intro h;rw [List.all_eq_true.1 h _ (List.getElem_mem hlt)] at hn;cases hn
   rw [this];rfl
 |true =>
   with_reducible refine aP ?_;simp (disch:=omega) only [push_cast,↓iC9,simprocAttr]
   refine hK _ ?_;clear hK K;refine yC rfl ?_;refine zC ?_;refine zB ?_;refine zA ?_;refine zJ (fun K hK=>?_);simp (disch:=omega) only [push_cast,↓iC9,simprocAttr];refine hK _ ?_;clear hK K
   refine zA ?_;refine ⟨i + 1,rfl,⟨hlt,?_⟩,by omega⟩
   rw [List.take_succ_eq_append_getElem hlt,List.all_append,ha];simp [hn]
 ·have hne:i=L.length:=by omega
  subst hne;rw [List.take_length] at ha;rw [ha];refine zE ?_;refine zJ (fun K hK=>?_);simp (disch:=omega) only [push_cast,↓iC9,simprocAttr];refine hK _ ?_;clear hK K
  refine zE ?_;refine yC rfl ?_;refine zT ?_;refine zG ?_;refine zG ?_;refine zH ?_;refine zE ?_;refine zJ (fun K hK=>?_);simp (disch:=omega) only [push_cast,↓iC9,simprocAttr];refine hK _ ?_;clear hK K
  refine zA ?_;refine zW ?_;simp only [yA,yM,yH,yE,aH,aT,yK,yJ,zS,zM,Nat.reduceEqDiff,reduceIte,reduceCtorEq];exact bD rfl
end Go.Proofs.YtdmnijnogabchaaDoor
