/-
  The document's Check, Parent, Under of paths, walked.
-/
import Derived.Test.YtlihpgmgiehjkaaGreatDoorTrI
set_option linter.unusedSimpArgs false
set_option linter.unusedVariables false
set_option maxRecDepth 20000
namespace Go.Tr
theorem qZs (p:ByteArray):∀ q ∈ parts p,q.size≤p.size:=fun q hq=>by
 obtain ⟨l,hl,rfl⟩:=List.mem_map.1 hq
 have:∀ (s:List UInt8),∀ l ∈ kW s,l.length≤s.length:=by
  intro s
  induction s with
 |nil=>intro l h;simp [kW] at h;subst h;simp
 |cons c r ih =>
   intro l h
   by_cases hc:c=47
   ·subst hc;rw [jF] at h
    rcases List.mem_cons.1 h with rfl|h
    ·simp
    ·have:=ih l h;simp;omega
   ·cases e:kW r with
   |nil=>exact absurd e (qAz r)
   |cons a t =>
     rw [kV hc e] at h
     rcases List.mem_cons.1 h with rfl|h
     ·have:=ih a (by rw [e];simp);simp;omega
     ·have:=ih l (by rw [e];simp [h]);simp;omega
 have:=this _ l hl
 rw [← Lib.size_eq] at this
 have e:(mkB l).size=l.length:=by simp [mkB,ByteArray.size]
 omega
end Go.Tr
namespace Go.Proofs.YtlihpgmgiehjkaaGreatDoor
open Go Go.Eng Go.RowKit Go.Tr
set_option maxHeartbeats 4000000 in
theorem qP1 (p:ByteArray) (d:Nat) (hp:p.size≤1048576) (hd:d≤1000):HFun Tryz.prog 40 [.v (.string p),.v (.int .i64 d)] (fun h st=>h=.v (.int .i64 (okN (pOk p d)))):=by
 refine iD (N:=25) Tryz.func40 rfl Tryz.ntmps40 Tryz.results40 (by simp) ?_
 have pl:=qDh p
 have hsz:∀ q ∈ parts p,q.size≤1048576:=fun q hq=>by have:=qZs p q hq;omega
 refine zE ?_;refine zJ (fun K hK=>?_);simp (disch:=omega) only [push_cast,↓iC9,simprocAttr];refine hK _ ?_;clear hK K
 refine zE ?_;refine zJ (fun K hK=>?_);simp (disch:=omega) only [push_cast,↓iC9,simprocAttr]
 refine hat 64 zQx (qKb p hp) (.cons (.v _) .nil) ?_;rintro _ _ ⟨rfl,rfl⟩;with_reducible refine aM ?_;simp (disch:=omega) only [push_cast,↓iC9,simprocAttr]
 refine hK _ ?_;clear hK K
 by_cases h2:d < (parts p).length
 ·have e:pOk p d=false:=by
   rw [pOk,decide_eq_false (by omega)];rfl
  rw [e];refine zE ?_;refine zE ?_;refine zJ (fun K hK=>?_);simp (disch:=omega) only [push_cast,↓iC9,simprocAttr,cT];refine hK _ ?_;clear hK K
  refine yD rfl ?_;refine zE ?_;refine zJ (fun K hK=>?_);simp (disch:=omega) only [push_cast,↓iC9,simprocAttr];refine hK _ ?_;clear hK K
  refine zA ?_;refine zW ?_;refine zK ?_;simp only [yA,yM,yH,yE,aL,aU,yK,yJ,zS,zM,Nat.reduceEqDiff,reduceIte,reduceCtorEq];exact bK rfl
 have e:pOk p d=(parts p).all fJ:=by rw [pOk,decide_eq_true (by omega),Bool.true_and]
 rw [e];generalize parts p=L at *
 refine zE ?_;refine zE ?_;refine zJ (fun K hK=>?_);simp (disch:=omega) only [push_cast,↓iC9,simprocAttr,cT];refine hK _ ?_;clear hK K
 refine yC rfl ?_;refine zC ?_;refine zE ?_;refine zE ?_;refine zJ (fun K hK=>?_);simp (disch:=omega) only [push_cast,↓iC9,simprocAttr];refine hK _ ?_;clear hK K
 refine zA ?_;refine zD ?_;refine dW (fun i:Nat=>⟨[(5,.own 64),(6,.v (.int .i64 i))],[(64,.sl true 9 1 (dP L))]⟩) (fun i=>i≤L.length∧(L.take i).all fJ=true) (fun i=>L.length - i) [5,6] [64] 0 rfl ⟨Nat.zero_le _,rfl⟩ ?_
 rintro i ⟨hi,ha⟩
 by_cases hlt:i < L.length
 ·refine zE ?_;refine zE ?_;refine zJ (fun K hK=>?_);simp (disch:=omega) only [push_cast,↓iC9,simprocAttr,cT];refine hK _ ?_;clear hK K
  refine zA ?_;refine yD rfl ?_;refine zC ?_;refine zE ?_;refine zD ?_;refine zE ?_;refine zJ (fun K hK=>?_);simp (disch:=omega) only [push_cast,↓iC9,simprocAttr,cT,sJ,qJk hlt]
  refine cK zUc (zM1 L[i] (hsz _ (List.getElem_mem hlt))) (.cons (.v _) .nil) ?_
  cases hn:fJ L[i] with
 |false =>
   with_reducible refine aM ?_;simp (disch:=omega) only [push_cast,↓iC9,simprocAttr]
   refine hK _ ?_;clear hK K;refine yD rfl ?_;refine zE ?_;refine zJ (fun K hK=>?_);simp (disch:=omega) only [push_cast,↓iC9,simprocAttr];refine hK _ ?_;clear hK K
   refine zA ?_;refine zW ?_;refine zL ?_;refine zK ?_;refine zK ?_;refine zL ?_;refine zK ?_;simp only [yA,yM,yH,yE,aL,aU,yK,yJ,zS,zM,Nat.reduceEqDiff,reduceIte,reduceCtorEq];refine bK ?_
   have:L.all fJ=false:=by
    rw [Bool.eq_false_iff];intro h;rw [List.all_eq_true.1 h _ (List.getElem_mem hlt)] at hn;cases hn
   rw [this];rfl
 |true =>
   with_reducible refine aM ?_;simp (disch:=omega) only [push_cast,↓iC9,simprocAttr]
   refine hK _ ?_;clear hK K;refine yC rfl ?_;refine zC ?_;refine zB ?_;refine zA ?_;refine zJ (fun K hK=>?_);simp (disch:=omega) only [push_cast,↓iC9,simprocAttr];refine hK _ ?_;clear hK K
   refine zA ?_;refine ⟨i + 1,rfl,⟨hlt,?_⟩,by omega⟩
   rw [List.take_succ_eq_append_getElem hlt,List.all_append,ha,List.all_cons,hn];rfl
 ·have hne:i=L.length:=by omega
  subst hne;rw [List.take_length] at ha;rw [ha];refine zE ?_;refine zE ?_;refine zJ (fun K hK=>?_);simp (disch:=omega) only [push_cast,↓iC9,simprocAttr,cT];refine hK _ ?_;clear hK K
  refine zA ?_;refine yC rfl ?_;refine zT ?_;refine zG ?_;refine zG ?_;refine zH ?_;refine zE ?_;refine zJ (fun K hK=>?_);simp (disch:=omega) only [push_cast,↓iC9,simprocAttr];refine hK _ ?_;clear hK K
  refine zA ?_;refine zW ?_;simp only [yA,yM,yH,yE,aL,aU,yK,yJ,zS,zM,Nat.reduceEqDiff,reduceIte,reduceCtorEq];exact bK rfl
theorem qZ1 (s:List UInt8) (c:UInt8):nP (s ++ [c])=if c=47 then (s.length:Int) else nP s:=by
 rw [nP,qT9]
 by_cases h:c=47
 ·rw [if_pos h,if_pos h]
 ·rw [if_neg h,if_neg h];rfl
set_option maxHeartbeats 4000000 in
theorem zM4 (s:ByteArray) (hs:s.size≤1048576):HFun Tryz.prog 88 [.v (.string s)] (fun h st=>h=.v (.int .i64 (nP s.data.toList))):=by
 refine iD (N:=17) Tryz.func88 rfl Tryz.ntmps88 Tryz.results88 (by simp) ?_
 refine zE ?_;refine zJ (fun K hK=>?_);simp (disch:=omega) only [push_cast,↓iC9,simprocAttr];refine hK _ ?_;clear hK K
 refine zE ?_;refine zJ (fun K hK=>?_);simp (disch:=omega) only [push_cast,↓iC9,simprocAttr];refine hK _ ?_;clear hK K
 refine zE ?_;refine zE ?_;refine zJ (fun K hK=>?_);simp (disch:=omega) only [push_cast,↓iC9,simprocAttr];refine hK _ ?_;clear hK K
 refine zA ?_;refine zD ?_;refine dW (fun i:Nat=>⟨[(0,.v (.string s)),(3,.v (.int .i64 (nP (s.data.toList.take i)))),(4,.v (.int .i64 i))],[]⟩) (fun i=>i≤s.size) (fun i=>s.size - i) [0,3,4] [] 0 rfl (Nat.zero_le _) ?_
 rintro i hi
 by_cases hlt:i < s.size
 ·have hll:i < s.data.toList.length:=by rw [← Lib.size_eq];exact hlt
  have h47:=zN2 s i hlt
  have hstep:nP (s.data.toList.take (i + 1))=if s.data.toList[i]=47 then (i:Int) else nP (s.data.toList.take i):=by
   rw [List.take_succ_eq_append_getElem hll,qZ1,List.length_take,Nat.min_eq_left (by omega)]
  rw [List.getElem?_eq_getElem hll] at h47;refine zE ?_;refine zE ?_;refine zJ (fun K hK=>?_);simp (disch:=omega) only [push_cast,↓iC9,simprocAttr];refine hK _ ?_;clear hK K
  refine zA ?_;refine yD rfl ?_;refine zC ?_;refine zE ?_
  by_cases hc:s.data.toList[i]=47
  ·have hz:some s.data.toList[i]=some (47:UInt8):=by rw [hc]
   rw [decide_eq_true hz] at h47;rw [if_pos hc] at hstep;refine zD ?_;refine zE ?_;refine zJ (fun K hK=>?_);simp (disch:=omega) only [push_cast,↓iC9,simprocAttr,h47];(repeat refine ⟨by first|omega|decide|((repeat' apply And.intro) <;> first|omega|decide),?_⟩);refine hK _ ?_;clear hK K
   refine zA ?_;refine yD rfl ?_;refine zJ (fun K hK=>?_);simp (disch:=omega) only [push_cast,↓iC9,simprocAttr];refine hK _ ?_;clear hK K
   refine zB ?_;refine zA ?_;refine zJ (fun K hK=>?_);simp (disch:=omega) only [push_cast,↓iC9,simprocAttr];refine hK _ ?_;clear hK K
   refine zA ?_;exact ⟨i + 1,by simp only [zZ,zR,zP,zQ,zN,zS,zM,zX,zU,Nat.reduceEqDiff,reduceIte];rw [hstep];rfl,hlt,by omega⟩
  ·have hz:¬ some s.data.toList[i]=some (47:UInt8):=fun e=>hc (Option.some.inj e)
   rw [decide_eq_false hz] at h47;rw [if_neg hc] at hstep;refine zD ?_;refine zE ?_;refine zJ (fun K hK=>?_);simp (disch:=omega) only [push_cast,↓iC9,simprocAttr,h47];(repeat refine ⟨by first|omega|decide|((repeat' apply And.intro) <;> first|omega|decide),?_⟩);refine hK _ ?_;clear hK K
   refine zA ?_;refine yC rfl ?_;refine zC ?_;refine zB ?_;refine zA ?_;refine zJ (fun K hK=>?_);simp (disch:=omega) only [push_cast,↓iC9,simprocAttr];refine hK _ ?_;clear hK K
   refine zA ?_;exact ⟨i + 1,by simp only [zZ,zR,zP,zQ,zN,zS,zM,zX,zU,Nat.reduceEqDiff,reduceIte];rw [hstep];rfl,hlt,by omega⟩
 ·have hne:i=s.size:=by omega
  subst hne;rw [show s.data.toList.take s.size=s.data.toList by rw [Lib.size_eq,List.take_length]]
  refine zE ?_;refine zE ?_;refine zJ (fun K hK=>?_);simp (disch:=omega) only [push_cast,↓iC9,simprocAttr];refine hK _ ?_;clear hK K
  refine zA ?_;refine yC rfl ?_;refine zT ?_;refine zG ?_;refine zG ?_;refine zH ?_;refine zE ?_;refine zJ (fun K hK=>?_);simp (disch:=omega) only [push_cast,↓iC9,simprocAttr];refine hK _ ?_;clear hK K
  refine zA ?_;refine zW ?_;simp only [yA,yM,yH,yE,aL,aU,yK,yJ,zS,zM,Nat.reduceEqDiff,reduceIte,reduceCtorEq];exact bK rfl
set_option maxHeartbeats 2000000 in
theorem qP2 (s:ByteArray) (hs:s.size≤1048576):HFun Tryz.prog 51 [.v (.string s)] (fun h st=>h=.v (.string (par s))):=by
 refine iD (N:=10) Tryz.func51 rfl Tryz.ntmps51 Tryz.results51 (by simp) ?_
 have c:=zM4 s hs
 refine zE ?_;refine zJ (fun K hK=>?_);simp (disch:=omega) only [push_cast,↓iC9,simprocAttr];refine hK _ ?_;clear hK K
 unfold nP at c;unfold par qA6
 cases e:eB s.data.toList with
|none =>
  rw [e] at c;refine zE ?_;refine zE ?_;refine zJ (fun K hK=>?_);simp (disch:=omega) only [push_cast,↓iC9,simprocAttr]
  refine cK zQv c (.cons (.v _) .nil) ?_;with_reducible refine aM ?_;simp (disch:=omega) only [push_cast,↓iC9,simprocAttr]
  refine hK _ ?_;clear hK K;refine yD rfl ?_;refine zE ?_;refine zJ (fun K hK=>?_);simp (disch:=omega) only [push_cast,↓iC9,simprocAttr];refine hK _ ?_;clear hK K
  refine zA ?_;refine zW ?_;refine zK ?_;simp only [yA,yM,yH,yE,aL,aU,yK,yJ,zS,zM,Nat.reduceEqDiff,reduceIte,reduceCtorEq];refine bK ?_
  have:s.extract 0 0={ data:=#[] }:=by apply ByteArray.ext;simp
  rw [Option.getD_none,this]
|some i =>
  rw [e] at c
  have hi:=(pQ e).1
  rw [← Lib.size_eq] at hi;refine zE ?_;refine zE ?_;refine zJ (fun K hK=>?_);simp (disch:=omega) only [push_cast,↓iC9,simprocAttr]
  refine cK zQv c (.cons (.v _) .nil) ?_;with_reducible refine aM ?_;simp (disch:=omega) only [push_cast,↓iC9,simprocAttr]
  refine hK _ ?_;clear hK K;refine yC rfl ?_;refine zC ?_;refine zE ?_;refine zJ (fun K hK=>?_);simp (disch:=omega) only [push_cast,↓iC9,simprocAttr]
  refine cK zQv c (.cons (.v _) .nil) ?_;with_reducible refine aM ?_;simp (disch:=omega) only [push_cast,↓iC9,simprocAttr]
  refine ⟨by first|omega|decide|((repeat' apply And.intro) <;> first|omega|decide),?_⟩
  refine hK _ ?_;clear hK K;refine zA ?_;refine zW ?_;simp only [yA,yM,yH,yE,aL,aU,yK,yJ,zS,zM,Nat.reduceEqDiff,reduceIte,reduceCtorEq];exact bK rfl
theorem qZr (p t:ByteArray):pre p (t ++ { data:=#[47] })=(decide (t.size < p.size) && decide (p.extract 0 t.size=t) && decide (qB p t.size=47)):=by
 by_cases h:t.size < p.size
 ·rw [decide_eq_true h,Bool.true_and,zN2 p t.size h,zM8 p t (by omega),pre,pre,Bool.eq_iff_iff]
  simp only [Bool.and_eq_true,List.isPrefixOf_iff_prefix,decide_eq_true_eq];rw [ByteArray.data_append,Array.toList_append];show t.data.toList ++ [47] <+: p.data.toList↔_
  rw [Lib.size_eq t];constructor
  ·rintro ⟨r,hr⟩;refine ⟨⟨47 :: r,by rw [← hr];simp⟩,?_⟩
   rw [← hr];simp
  ·rintro ⟨⟨r,hr⟩,h2⟩;rw [← hr] at h2
   cases r with
  |nil=>simp at h2
  |cons c r =>
    simp at h2;subst h2;exact ⟨r,by rw [← hr];simp⟩
 ·rw [decide_eq_false h,Bool.false_and,Bool.false_and];refine zE0 ?_;rw [ByteArray.size_append]
  have:({ data:=#[47] }:ByteArray).size=1:=rfl
  omega
set_option maxHeartbeats 2000000 in
theorem zGz (p t:ByteArray) (hp:p.size≤1048576) (ht:t.size≤1048576):HFun Tryz.prog 42 [.v (.string p),.v (.string t)] (fun h st=>h=.v (.bool (iL p t))):=by
 refine iD (N:=32) Tryz.func42 rfl Tryz.ntmps42 Tryz.results42 (by simp) ?_
 rw [zGd];refine zE ?_;refine zJ (fun K hK=>?_);simp (disch:=omega) only [push_cast,↓iC9,simprocAttr];refine hK _ ?_;clear hK K
 cases e1:decide (t={ data:=#[] }) with
|true =>
  refine zE ?_;refine zE ?_;refine zJ (fun K hK=>?_);simp (disch:=omega) only [push_cast,↓iC9,simprocAttr,e1];refine hK _ ?_;clear hK K
  refine yD rfl ?_;refine zE ?_;refine zJ (fun K hK=>?_);simp (disch:=omega) only [push_cast,↓iC9,simprocAttr];refine hK _ ?_;clear hK K
  refine zA ?_;refine zW ?_;refine zK ?_;simp only [yA,yM,yH,yE,aL,aU,yK,yJ,zS,zM,Nat.reduceEqDiff,reduceIte,reduceCtorEq];exact bK rfl
|false =>
  cases e2:decide (p=t) with
 |true =>
   refine zE ?_;refine zE ?_;refine zJ (fun K hK=>?_);simp (disch:=omega) only [push_cast,↓iC9,simprocAttr,e1,e2];refine hK _ ?_;clear hK K
   refine yD rfl ?_;refine zE ?_;refine zJ (fun K hK=>?_);simp (disch:=omega) only [push_cast,↓iC9,simprocAttr];refine hK _ ?_;clear hK K
   refine zA ?_;refine zW ?_;refine zK ?_;simp only [yA,yM,yH,yE,aL,aU,yK,yJ,zS,zM,Nat.reduceEqDiff,reduceIte,reduceCtorEq];exact bK rfl
 |false =>
   rw [qZr];refine zE ?_;refine zE ?_;refine zJ (fun K hK=>?_);simp (disch:=omega) only [push_cast,↓iC9,simprocAttr,e1,e2];refine hK _ ?_;clear hK K
   refine yC rfl ?_;refine zC ?_;refine zE ?_
   by_cases h:t.size < p.size
   ·rw [decide_eq_true h]
    cases e3:decide (p.extract 0 t.size=t) with
   |true =>
     refine zJ (fun K hK=>?_);simp (disch:=omega) only [push_cast,↓iC9,simprocAttr,e3]
     refine ⟨by first|omega|decide|((repeat' apply And.intro) <;> first|omega|decide),?_⟩
     refine ⟨by first|omega|decide|((repeat' apply And.intro) <;> first|omega|decide),?_⟩
     refine hK _ ?_;clear hK K;refine zA ?_;refine zW ?_;simp only [yA,yM,yH,yE,aL,aU,yK,yJ,zS,zM,Nat.reduceEqDiff,reduceIte,reduceCtorEq];exact bK rfl
   |false =>
     refine zJ (fun K hK=>?_);simp (disch:=omega) only [push_cast,↓iC9,simprocAttr,e3]
     refine ⟨by first|omega|decide|((repeat' apply And.intro) <;> first|omega|decide),?_⟩
     refine hK _ ?_;clear hK K;refine zA ?_;refine zW ?_;simp only [yA,yM,yH,yE,aL,aU,yK,yJ,zS,zM,Nat.reduceEqDiff,reduceIte,reduceCtorEq];exact bK rfl
   ·rw [decide_eq_false h];refine zJ (fun K hK=>?_);simp (disch:=omega) only [push_cast,↓iC9,simprocAttr];refine hK _ ?_;clear hK K
    refine zA ?_;refine zW ?_;simp only [yA,yM,yH,yE,aL,aU,yK,yJ,zS,zM,Nat.reduceEqDiff,reduceIte,reduceCtorEq];exact bK rfl
end Go.Proofs.YtlihpgmgiehjkaaGreatDoor
