/-
  The document's Check, Parent, Under of paths, walked.
-/
import Derived.Test.YtdmnijnogabchaaDoorTrI
set_option linter.unusedSimpArgs false
set_option linter.unusedVariables false
set_option maxRecDepth 20000
namespace Go.Tr
theorem qWh (p:ByteArray):∀ q ∈ parts p,q.size≤p.size:=fun q hq=>by
 obtain ⟨l,hl,rfl⟩:=List.mem_map.1 hq
 have:∀ (s:List UInt8),∀ l ∈ iE s,l.length≤s.length:=by
  intro s
  induction s with
 |nil=>intro l h;simp [iE] at h;subst h;simp
 |cons c r ih =>
   intro l h
   by_cases hc:c=47
   ·subst hc;rw [kK] at h
    rcases List.mem_cons.1 h with rfl|h
    ·simp
    ·have:=ih l h;simp;omega
   ·cases e:iE r with
   |nil=>exact absurd e (tF r)
   |cons a t =>
     rw [jM hc e] at h
     rcases List.mem_cons.1 h with rfl|h
     ·have:=ih a (by rw [e];simp);simp;omega
     ·have:=ih l (by rw [e];simp [h]);simp;omega
 have:=this _ l hl
 rw [← Lib.size_eq] at this
 have e:(mkB l).size=l.length:=by simp [mkB,ByteArray.size]
 omega
end Go.Tr
namespace Go.Proofs.YtdmnijnogabchaaDoor
open Go Go.Eng Go.RowKit Go.Tr
set_option maxHeartbeats 4000000 in
theorem qLs (p:ByteArray) (d:Nat) (hp:p.size≤1048576) (hd:d≤1000):HFun Tryd.prog 7 [.v (.string p),.v (.int .i64 d)] (fun h st=>h=.v (.int .i64 (okN (pOk p d)))):=by
 refine kG (N:=25) Tryd.func7 rfl Tryd.ntmps7 Tryd.results7 (by simp) ?_
 have pl:=xP p
 have hsz:∀ q ∈ parts p,q.size≤1048576:=fun q hq=>by have:=qWh p q hq;omega
 refine zE ?_;refine zJ (fun K hK=>?_);simp (disch:=omega) only [push_cast,↓iC9,simprocAttr];refine hK _ ?_;clear hK K
 refine zE ?_;refine zJ (fun K hK=>?_);simp (disch:=omega) only [push_cast,↓iC9,simprocAttr]
 refine hat 64 zMr (zCd p hp) (.cons (.v _) .nil) ?_;rintro _ _ ⟨rfl,rfl⟩;with_reducible refine aP ?_;simp (disch:=omega) only [push_cast,↓iC9,simprocAttr]
 refine hK _ ?_;clear hK K
 by_cases h2:d < (parts p).length
 ·have e:pOk p d=false:=by
   rw [pOk,decide_eq_false (by omega)];rfl
  rw [e];refine zE ?_;refine zE ?_;refine zJ (fun K hK=>?_);simp (disch:=omega) only [push_cast,↓iC9,simprocAttr,aM];refine hK _ ?_;clear hK K
  refine yD rfl ?_;refine zE ?_;refine zJ (fun K hK=>?_);simp (disch:=omega) only [push_cast,↓iC9,simprocAttr];refine hK _ ?_;clear hK K
  refine zA ?_;refine zW ?_;refine zK ?_;simp only [yA,yM,yH,yE,aH,aT,yK,yJ,zS,zM,Nat.reduceEqDiff,reduceIte,reduceCtorEq];exact bD rfl
 have e:pOk p d=(parts p).all dG:=by rw [pOk,decide_eq_true (by omega),Bool.true_and]
 rw [e];generalize parts p=L at *
 refine zE ?_;refine zE ?_;refine zJ (fun K hK=>?_);simp (disch:=omega) only [push_cast,↓iC9,simprocAttr,aM];refine hK _ ?_;clear hK K
 refine yC rfl ?_;refine zC ?_;refine zE ?_;refine zE ?_;refine zJ (fun K hK=>?_);simp (disch:=omega) only [push_cast,↓iC9,simprocAttr];refine hK _ ?_;clear hK K
 refine zA ?_;refine zD ?_;refine gC (fun i:Nat=>⟨[(5,.own 64),(6,.v (.int .i64 i))],[(64,.sl true 9 1 (bZ L))]⟩) (fun i=>i≤L.length∧(L.take i).all dG=true) (fun i=>L.length - i) [5,6] [64] 0 rfl ⟨Nat.zero_le _,rfl⟩ ?_
 rintro i ⟨hi,ha⟩
 by_cases hlt:i < L.length
 ·refine zE ?_;refine zE ?_;refine zJ (fun K hK=>?_);simp (disch:=omega) only [push_cast,↓iC9,simprocAttr,aM];refine hK _ ?_;clear hK K
  refine zA ?_;refine yD rfl ?_;refine zC ?_;refine zE ?_;refine zD ?_;refine zE ?_;refine zJ (fun K hK=>?_);simp (disch:=omega) only [push_cast,↓iC9,simprocAttr,aM,dD,jY hlt]
  refine cU zMq (zF7 L[i] (hsz _ (List.getElem_mem hlt))) (.cons (.v _) .nil) ?_
  cases hn:dG L[i] with
 |false =>
   with_reducible refine aP ?_;simp (disch:=omega) only [push_cast,↓iC9,simprocAttr]
   refine hK _ ?_;clear hK K;refine yD rfl ?_;refine zE ?_;refine zJ (fun K hK=>?_);simp (disch:=omega) only [push_cast,↓iC9,simprocAttr];refine hK _ ?_;clear hK K
   refine zA ?_;refine zW ?_;refine zL ?_;refine zK ?_;refine zK ?_;refine zL ?_;refine zK ?_;simp only [yA,yM,yH,yE,aH,aT,yK,yJ,zS,zM,Nat.reduceEqDiff,reduceIte,reduceCtorEq];refine bD ?_
   have:L.all dG=false:=by
    rw [Bool.eq_false_iff];intro h;rw [List.all_eq_true.1 h _ (List.getElem_mem hlt)] at hn;cases hn
   rw [this];rfl
 |true =>
   with_reducible refine aP ?_;simp (disch:=omega) only [push_cast,↓iC9,simprocAttr]
   refine hK _ ?_;clear hK K;refine yC rfl ?_;refine zC ?_;refine zB ?_;refine zA ?_;refine zJ (fun K hK=>?_);simp (disch:=omega) only [push_cast,↓iC9,simprocAttr];refine hK _ ?_;clear hK K
   refine zA ?_;refine ⟨i + 1,rfl,⟨hlt,?_⟩,by omega⟩
   rw [List.take_succ_eq_append_getElem hlt,List.all_append,ha,List.all_cons,hn];rfl
 ·have hne:i=L.length:=by omega
  subst hne;rw [List.take_length] at ha;rw [ha];refine zE ?_;refine zE ?_;refine zJ (fun K hK=>?_);simp (disch:=omega) only [push_cast,↓iC9,simprocAttr,aM];refine hK _ ?_;clear hK K
  refine zA ?_;refine yC rfl ?_;refine zT ?_;refine zG ?_;refine zG ?_;refine zH ?_;refine zE ?_;refine zJ (fun K hK=>?_);simp (disch:=omega) only [push_cast,↓iC9,simprocAttr];refine hK _ ?_;clear hK K
  refine zA ?_;refine zW ?_;simp only [yA,yM,yH,yE,aH,aT,yK,yJ,zS,zM,Nat.reduceEqDiff,reduceIte,reduceCtorEq];exact bD rfl
theorem qWq (s:List UInt8) (c:UInt8):kD (s ++ [c])=if c=47 then (s.length:Int) else kD s:=by
 rw [kD,qQ7]
 by_cases h:c=47
 ·rw [if_pos h,if_pos h]
 ·rw [if_neg h,if_neg h];rfl
set_option maxHeartbeats 4000000 in
theorem zF9 (s:ByteArray) (hs:s.size≤1048576):HFun Tryd.prog 26 [.v (.string s)] (fun h st=>h=.v (.int .i64 (kD s.data.toList))):=by
 refine kG (N:=17) Tryd.func26 rfl Tryd.ntmps26 Tryd.results26 (by simp) ?_
 refine zE ?_;refine zJ (fun K hK=>?_);simp (disch:=omega) only [push_cast,↓iC9,simprocAttr];refine hK _ ?_;clear hK K
 refine zE ?_;refine zJ (fun K hK=>?_);simp (disch:=omega) only [push_cast,↓iC9,simprocAttr];refine hK _ ?_;clear hK K
 refine zE ?_;refine zE ?_;refine zJ (fun K hK=>?_);simp (disch:=omega) only [push_cast,↓iC9,simprocAttr];refine hK _ ?_;clear hK K
 refine zA ?_;refine zD ?_;refine gC (fun i:Nat=>⟨[(0,.v (.string s)),(3,.v (.int .i64 (kD (s.data.toList.take i)))),(4,.v (.int .i64 i))],[]⟩) (fun i=>i≤s.size) (fun i=>s.size - i) [0,3,4] [] 0 rfl (Nat.zero_le _) ?_
 rintro i hi
 by_cases hlt:i < s.size
 ·have hll:i < s.data.toList.length:=by rw [← Lib.size_eq];exact hlt
  have h47:=zJq s i hlt
  have hstep:kD (s.data.toList.take (i + 1))=if s.data.toList[i]=47 then (i:Int) else kD (s.data.toList.take i):=by
   rw [List.take_succ_eq_append_getElem hll,qWq,List.length_take,Nat.min_eq_left (by omega)]
  rw [List.getElem?_eq_getElem hll] at h47;refine zE ?_;refine zE ?_;refine zJ (fun K hK=>?_);simp (disch:=omega) only [push_cast,↓iC9,simprocAttr];refine hK _ ?_;clear hK K
  refine zA ?_;refine yD rfl ?_;refine zC ?_;refine zE ?_
  by_cases hc:s.data.toList[i]=47
  ·have hz:some s.data.toList[i]=some (47:UInt8):=by rw [hc]
   rw [decide_eq_true hz] at h47;rw [if_pos hc] at hstep;refine zD ?_;refine zE ?_;refine zJ (fun K hK=>?_);simp (disch:=omega) only [push_cast,↓iC9,simprocAttr,h47];(repeat refine ⟨by first|omega|decide|((repeat' apply And.intro) <;> first|omega|decide),?_⟩);refine hK _ ?_;clear hK K
   refine zA ?_;refine yD rfl ?_;refine zJ (fun K hK=>?_);simp (disch:=omega) only [push_cast,↓iC9,simprocAttr];refine hK _ ?_;clear hK K
   refine zB ?_;refine zA ?_;refine zJ (fun K hK=>?_);simp (disch:=omega) only [push_cast,↓iC9,simprocAttr];refine hK _ ?_;clear hK K
   refine zA ?_;exact ⟨i + 1,by simp only [zZ,zR,zP,zQ,zN,zS,zM,zX,zU,Nat.reduceEqDiff,reduceIte];rw [hstep];rfl,hlt,by omega⟩
  ·have hz:¬ some s.data.toList[i]=some (47:UInt8):=fun e=>hc (Option.some.inj e)
   rw [decide_eq_false hz] at h47;rw [if_neg hc] at hstep;refine zD ?_;refine zE ?_;refine zJ (fun K hK=>?_);simp (disch:=omega) only [push_cast,↓iC9,simprocAttr,h47];(repeat refine ⟨by first|omega|decide|((repeat' apply And.intro) <;> first|omega|decide),?_⟩);refine hK _ ?_;clear hK K
   refine zA ?_;refine yC rfl ?_;refine zC ?_;refine zB ?_;refine zA ?_;refine zJ (fun K hK=>?_);simp (disch:=omega) only [push_cast,↓iC9,simprocAttr];refine hK _ ?_;clear hK K
   refine zA ?_;exact ⟨i + 1,by simp only [zZ,zR,zP,zQ,zN,zS,zM,zX,zU,Nat.reduceEqDiff,reduceIte];rw [hstep];rfl,hlt,by omega⟩
 ·have hne:i=s.size:=by omega
  subst hne;rw [show s.data.toList.take s.size=s.data.toList by rw [Lib.size_eq,List.take_length]]
  refine zE ?_;refine zE ?_;refine zJ (fun K hK=>?_);simp (disch:=omega) only [push_cast,↓iC9,simprocAttr];refine hK _ ?_;clear hK K
  refine zA ?_;refine yC rfl ?_;refine zT ?_;refine zG ?_;refine zG ?_;refine zH ?_;refine zE ?_;refine zJ (fun K hK=>?_);simp (disch:=omega) only [push_cast,↓iC9,simprocAttr];refine hK _ ?_;clear hK K
  refine zA ?_;refine zW ?_;simp only [yA,yM,yH,yE,aH,aT,yK,yJ,zS,zM,Nat.reduceEqDiff,reduceIte,reduceCtorEq];exact bD rfl
set_option maxHeartbeats 2000000 in
theorem zAs (s:ByteArray) (hs:s.size≤1048576):HFun Tryd.prog 16 [.v (.string s)] (fun h st=>h=.v (.string (par s))):=by
 refine kG (N:=10) Tryd.func16 rfl Tryd.ntmps16 Tryd.results16 (by simp) ?_
 have c:=zF9 s hs
 refine zE ?_;refine zJ (fun K hK=>?_);simp (disch:=omega) only [push_cast,↓iC9,simprocAttr];refine hK _ ?_;clear hK K
 unfold kD at c;unfold par qD3
 cases e:gD s.data.toList with
|none =>
  rw [e] at c;refine zE ?_;refine zE ?_;refine zJ (fun K hK=>?_);simp (disch:=omega) only [push_cast,↓iC9,simprocAttr]
  refine cU zJn c (.cons (.v _) .nil) ?_;with_reducible refine aP ?_;simp (disch:=omega) only [push_cast,↓iC9,simprocAttr]
  refine hK _ ?_;clear hK K;refine yD rfl ?_;refine zE ?_;refine zJ (fun K hK=>?_);simp (disch:=omega) only [push_cast,↓iC9,simprocAttr];refine hK _ ?_;clear hK K
  refine zA ?_;refine zW ?_;refine zK ?_;simp only [yA,yM,yH,yE,aH,aT,yK,yJ,zS,zM,Nat.reduceEqDiff,reduceIte,reduceCtorEq];refine bD ?_
  have:s.extract 0 0={ data:=#[] }:=by apply ByteArray.ext;simp
  rw [Option.getD_none,this]
|some i =>
  rw [e] at c
  have hi:=(mE e).1
  rw [← Lib.size_eq] at hi;refine zE ?_;refine zE ?_;refine zJ (fun K hK=>?_);simp (disch:=omega) only [push_cast,↓iC9,simprocAttr]
  refine cU zJn c (.cons (.v _) .nil) ?_;with_reducible refine aP ?_;simp (disch:=omega) only [push_cast,↓iC9,simprocAttr]
  refine hK _ ?_;clear hK K;refine yC rfl ?_;refine zC ?_;refine zE ?_;refine zJ (fun K hK=>?_);simp (disch:=omega) only [push_cast,↓iC9,simprocAttr]
  refine cU zJn c (.cons (.v _) .nil) ?_;with_reducible refine aP ?_;simp (disch:=omega) only [push_cast,↓iC9,simprocAttr]
  refine ⟨by first|omega|decide|((repeat' apply And.intro) <;> first|omega|decide),?_⟩
  refine hK _ ?_;clear hK K;refine zA ?_;refine zW ?_;simp only [yA,yM,yH,yE,aH,aT,yK,yJ,zS,zM,Nat.reduceEqDiff,reduceIte,reduceCtorEq];exact bD rfl
end Go.Proofs.YtdmnijnogabchaaDoor
