/-
  Nodes and entries compared; which nodes may be; the document's Same, Get.
-/
import Derived.Test.YtbdomkfdkfdfgaaGreatDoorTrI
import Derived.Test.YtbdomkfdkfdfgaaGreatDoorTrE
set_option linter.unusedSimpArgs false
set_option linter.unusedVariables false
section
set_option maxRecDepth 20000
namespace Go.Tr
theorem zBu (p:ByteArray):∀ q ∈ parts p,q.size≤p.size:=fun q hq=>by
 obtain ⟨l,hl,rfl⟩:=List.mem_map.1 hq
 have:∀ (s:List UInt8),∀ l ∈ pQ s,l.length≤s.length:=by
  intro s
  induction s with
 |nil=>intro l h;simp [pQ] at h;subst h;simp
 |cons c r ih =>
   intro l h
   by_cases hc:c=47
   ·subst hc;rw [uR] at h
    rcases List.mem_cons.1 h with rfl|h
    ·simp
    ·have:=ih l h;simp;omega
   ·cases e:pQ r with
   |nil=>exact absurd e (qGm r)
   |cons a t =>
     rw [tG hc e] at h
     rcases List.mem_cons.1 h with rfl|h
     ·have:=ih a (by rw [e];simp);simp;omega
     ·have:=ih l (by rw [e];simp [h]);simp;omega
 have:=this _ l hl
 rw [← Lib.size_eq] at this
 have e:(mkB l).size=l.length:=by simp [mkB,ByteArray.size]
 omega
end Go.Tr
namespace Go.Proofs.YtbdomkfdkfdfgaaGreatDoor
open Go Go.Eng Go.RowKit Go.Tr
set_option maxHeartbeats 4000000 in
theorem qSb (p:ByteArray) (d:Nat) (hp:p.size≤1048576) (hd:d≤1000):HFun Tryz.prog 37 [.v (.string p),.v (.int .i64 d)] (fun h st=>h=.v (.int .i64 (okN (pOk p d)))):=by
 refine eX (N:=25) Tryz.func37 rfl Tryz.ntmps37 Tryz.results37 (by simp) ?_
 have pl:=qFh p
 have hsz:∀ q ∈ parts p,q.size≤1048576:=fun q hq=>by have:=zBu p q hq;omega
 refine zE ?_;refine zJ (fun K hK=>?_);simp (disch:=omega) only [push_cast,↓Int.cast_ofNat_Int,simprocAttr];refine hK _ ?_;clear hK K
 refine zE ?_;refine zJ (fun K hK=>?_);simp (disch:=omega) only [push_cast,↓Int.cast_ofNat_Int,simprocAttr]
 refine hat 64 zXg (zJ7 p hp) (.cons (.v _) .nil) ?_;rintro _ _ ⟨rfl,rfl⟩;with_reducible refine aB ?_;simp (disch:=omega) only [push_cast,↓Int.cast_ofNat_Int,simprocAttr]
 refine hK _ ?_;clear hK K
 by_cases h2:d < (parts p).length
 ·have e:pOk p d=false:=by
   rw [pOk,decide_eq_false (by omega)];rfl
  rw [e];refine zE ?_;refine zE ?_;refine zJ (fun K hK=>?_);simp (disch:=omega) only [push_cast,↓Int.cast_ofNat_Int,simprocAttr,gP];refine hK _ ?_;clear hK K
  refine yD rfl ?_;refine zE ?_;refine zJ (fun K hK=>?_);simp (disch:=omega) only [push_cast,↓Int.cast_ofNat_Int,simprocAttr];refine hK _ ?_;clear hK K
  refine zA ?_;refine zW ?_;refine zK ?_;simp only [yA,yM,yH,yE,aA,aC,yK,yJ,zS,zM,Nat.reduceEqDiff,reduceIte,reduceCtorEq];exact aJ rfl
 have e:pOk p d=(parts p).all gC:=by rw [pOk,decide_eq_true (by omega),Bool.true_and]
 rw [e];generalize parts p=L at *
 refine zE ?_;refine zE ?_;refine zJ (fun K hK=>?_);simp (disch:=omega) only [push_cast,↓Int.cast_ofNat_Int,simprocAttr,gP];refine hK _ ?_;clear hK K
 refine yC rfl ?_;refine zC ?_;refine zE ?_;refine zE ?_;refine zJ (fun K hK=>?_);simp (disch:=omega) only [push_cast,↓Int.cast_ofNat_Int,simprocAttr];refine hK _ ?_;clear hK K
 refine zA ?_;refine zD ?_;refine cP (fun i:Nat=>⟨[(5,.own 64),(6,.v (.int .i64 i))],[(64,.sl true 9 1 (iG L))]⟩) (fun i=>i≤L.length∧(L.take i).all gC=true) (fun i=>L.length - i) [5,6] [64] 0 rfl ⟨Nat.zero_le _,rfl⟩ ?_
 rintro i ⟨hi,ha⟩
 by_cases hlt:i < L.length
 ·refine zE ?_;refine zE ?_;refine zJ (fun K hK=>?_);simp (disch:=omega) only [push_cast,↓Int.cast_ofNat_Int,simprocAttr,gP];refine hK _ ?_;clear hK K
  refine zA ?_;refine yD rfl ?_;refine zC ?_;refine zE ?_;refine zD ?_;refine zE ?_;refine zJ (fun K hK=>?_);simp (disch:=omega) only [push_cast,↓Int.cast_ofNat_Int,simprocAttr,gP,qEp,qK9 hlt]
  refine bE zXf (zPl L[i] (hsz _ (List.getElem_mem hlt))) (.cons (.v _) .nil) ?_
  cases hn:gC L[i] with
 |false =>
   with_reducible refine aB ?_;simp (disch:=omega) only [push_cast,↓Int.cast_ofNat_Int,simprocAttr]
   refine hK _ ?_;clear hK K;refine yD rfl ?_;refine zE ?_;refine zJ (fun K hK=>?_);simp (disch:=omega) only [push_cast,↓Int.cast_ofNat_Int,simprocAttr];refine hK _ ?_;clear hK K
   refine zA ?_;refine zW ?_;refine zL ?_;refine zK ?_;refine zK ?_;refine zL ?_;refine zK ?_;simp only [yA,yM,yH,yE,aA,aC,yK,yJ,zS,zM,Nat.reduceEqDiff,reduceIte,reduceCtorEq];refine aJ ?_
   have:L.all gC=false:=by
    rw [Bool.eq_false_iff];intro h;rw [List.all_eq_true.1 h _ (List.getElem_mem hlt)] at hn;cases hn
   rw [this];rfl
 |true =>
   with_reducible refine aB ?_;simp (disch:=omega) only [push_cast,↓Int.cast_ofNat_Int,simprocAttr]
   refine hK _ ?_;clear hK K;refine yC rfl ?_;refine zC ?_;refine zB ?_;refine zA ?_;refine zJ (fun K hK=>?_);simp (disch:=omega) only [push_cast,↓Int.cast_ofNat_Int,simprocAttr];refine hK _ ?_;clear hK K
   refine zA ?_;refine ⟨i + 1,rfl,⟨hlt,?_⟩,by omega⟩
   rw [List.take_succ_eq_append_getElem hlt,List.all_append,ha,List.all_cons,hn];rfl
 ·have hne:i=L.length:=by omega
  subst hne;rw [List.take_length] at ha;rw [ha];refine zE ?_;refine zE ?_;refine zJ (fun K hK=>?_);simp (disch:=omega) only [push_cast,↓Int.cast_ofNat_Int,simprocAttr,gP];refine hK _ ?_;clear hK K
  refine zA ?_;refine yC rfl ?_;refine zT ?_;refine zG ?_;refine zG ?_;refine zH ?_;refine zE ?_;refine zJ (fun K hK=>?_);simp (disch:=omega) only [push_cast,↓Int.cast_ofNat_Int,simprocAttr];refine hK _ ?_;clear hK K
  refine zA ?_;refine zW ?_;simp only [yA,yM,yH,yE,aA,aC,yK,yJ,zS,zM,Nat.reduceEqDiff,reduceIte,reduceCtorEq];exact aJ rfl
theorem zB5 (s:List UInt8) (c:UInt8):pD (s ++ [c])=if c=47 then (s.length:Int) else pD s:=by
 rw [pD,qV4]
 by_cases h:c=47
 ·rw [if_pos h,if_pos h]
 ·rw [if_neg h,if_neg h];rfl
set_option maxHeartbeats 4000000 in
theorem zPn (s:ByteArray) (hs:s.size≤1048576):HFun Tryz.prog 62 [.v (.string s)] (fun h st=>h=.v (.int .i64 (pD s.data.toList))):=by
 refine eX (N:=17) Tryz.func62 rfl Tryz.ntmps62 Tryz.results62 (by simp) ?_
 refine zE ?_;refine zJ (fun K hK=>?_);simp (disch:=omega) only [push_cast,↓Int.cast_ofNat_Int,simprocAttr];refine hK _ ?_;clear hK K
 refine zE ?_;refine zJ (fun K hK=>?_);simp (disch:=omega) only [push_cast,↓Int.cast_ofNat_Int,simprocAttr];refine hK _ ?_;clear hK K
 refine zE ?_;refine zE ?_;refine zJ (fun K hK=>?_);simp (disch:=omega) only [push_cast,↓Int.cast_ofNat_Int,simprocAttr];refine hK _ ?_;clear hK K
 refine zA ?_;refine zD ?_;refine cP (fun i:Nat=>⟨[(0,.v (.string s)),(3,.v (.int .i64 (pD (s.data.toList.take i)))),(4,.v (.int .i64 i))],[]⟩) (fun i=>i≤s.size) (fun i=>s.size - i) [0,3,4] [] 0 rfl (Nat.zero_le _) ?_
 rintro i hi
 by_cases hlt:i < s.size
 ·have hll:i < s.data.toList.length:=by rw [← Lib.size_eq];exact hlt
  have h47:=zQn s i hlt
  have hstep:pD (s.data.toList.take (i + 1))=if s.data.toList[i]=47 then (i:Int) else pD (s.data.toList.take i):=by
   rw [List.take_succ_eq_append_getElem hll,zB5,List.length_take,Nat.min_eq_left (by omega)]
  rw [List.getElem?_eq_getElem hll] at h47;refine zE ?_;refine zE ?_;refine zJ (fun K hK=>?_);simp (disch:=omega) only [push_cast,↓Int.cast_ofNat_Int,simprocAttr];refine hK _ ?_;clear hK K
  refine zA ?_;refine yD rfl ?_;refine zC ?_;refine zE ?_
  by_cases hc:s.data.toList[i]=47
  ·have hz:some s.data.toList[i]=some (47:UInt8):=by rw [hc]
   rw [decide_eq_true hz] at h47;rw [if_pos hc] at hstep;refine zD ?_;refine zE ?_;refine zJ (fun K hK=>?_);simp (disch:=omega) only [push_cast,↓Int.cast_ofNat_Int,simprocAttr,h47];(repeat refine ⟨by first|omega|decide|((repeat' apply And.intro) <;> first|omega|decide),?_⟩);refine hK _ ?_;clear hK K
   refine zA ?_;refine yD rfl ?_;refine zJ (fun K hK=>?_);simp (disch:=omega) only [push_cast,↓Int.cast_ofNat_Int,simprocAttr];refine hK _ ?_;clear hK K
   refine zB ?_;refine zA ?_;refine zJ (fun K hK=>?_);simp (disch:=omega) only [push_cast,↓Int.cast_ofNat_Int,simprocAttr];refine hK _ ?_;clear hK K
   refine zA ?_;exact ⟨i + 1,by simp only [zZ,zR,zP,zQ,zN,zS,zM,zX,zU,Nat.reduceEqDiff,reduceIte];rw [hstep];rfl,hlt,by omega⟩
  ·have hz:¬ some s.data.toList[i]=some (47:UInt8):=fun e=>hc (Option.some.inj e)
   rw [decide_eq_false hz] at h47;rw [if_neg hc] at hstep;refine zD ?_;refine zE ?_;refine zJ (fun K hK=>?_);simp (disch:=omega) only [push_cast,↓Int.cast_ofNat_Int,simprocAttr,h47];(repeat refine ⟨by first|omega|decide|((repeat' apply And.intro) <;> first|omega|decide),?_⟩);refine hK _ ?_;clear hK K
   refine zA ?_;refine yC rfl ?_;refine zC ?_;refine zB ?_;refine zA ?_;refine zJ (fun K hK=>?_);simp (disch:=omega) only [push_cast,↓Int.cast_ofNat_Int,simprocAttr];refine hK _ ?_;clear hK K
   refine zA ?_;exact ⟨i + 1,by simp only [zZ,zR,zP,zQ,zN,zS,zM,zX,zU,Nat.reduceEqDiff,reduceIte];rw [hstep];rfl,hlt,by omega⟩
 ·have hne:i=s.size:=by omega
  subst hne;rw [show s.data.toList.take s.size=s.data.toList by rw [Lib.size_eq,List.take_length]]
  refine zE ?_;refine zE ?_;refine zJ (fun K hK=>?_);simp (disch:=omega) only [push_cast,↓Int.cast_ofNat_Int,simprocAttr];refine hK _ ?_;clear hK K
  refine zA ?_;refine yC rfl ?_;refine zT ?_;refine zG ?_;refine zG ?_;refine zH ?_;refine zE ?_;refine zJ (fun K hK=>?_);simp (disch:=omega) only [push_cast,↓Int.cast_ofNat_Int,simprocAttr];refine hK _ ?_;clear hK K
  refine zA ?_;refine zW ?_;simp only [yA,yM,yH,yE,aA,aC,yK,yJ,zS,zM,Nat.reduceEqDiff,reduceIte,reduceCtorEq];exact aJ rfl
set_option maxHeartbeats 2000000 in
theorem qSc (s:ByteArray) (hs:s.size≤1048576):HFun Tryz.prog 39 [.v (.string s)] (fun h st=>h=.v (.string (par s))):=by
 refine eX (N:=10) Tryz.func39 rfl Tryz.ntmps39 Tryz.results39 (by simp) ?_
 have c:=zPn s hs
 refine zE ?_;refine zJ (fun K hK=>?_);simp (disch:=omega) only [push_cast,↓Int.cast_ofNat_Int,simprocAttr];refine hK _ ?_;clear hK K
 unfold pD at c;unfold par qD2
 cases e:iR s.data.toList with
|none =>
  rw [e] at c;refine zE ?_;refine zE ?_;refine zJ (fun K hK=>?_);simp (disch:=omega) only [push_cast,↓Int.cast_ofNat_Int,simprocAttr]
  refine bE zTv c (.cons (.v _) .nil) ?_;with_reducible refine aB ?_;simp (disch:=omega) only [push_cast,↓Int.cast_ofNat_Int,simprocAttr]
  refine hK _ ?_;clear hK K;refine yD rfl ?_;refine zE ?_;refine zJ (fun K hK=>?_);simp (disch:=omega) only [push_cast,↓Int.cast_ofNat_Int,simprocAttr];refine hK _ ?_;clear hK K
  refine zA ?_;refine zW ?_;refine zK ?_;simp only [yA,yM,yH,yE,aA,aC,yK,yJ,zS,zM,Nat.reduceEqDiff,reduceIte,reduceCtorEq];refine aJ ?_
  have:s.extract 0 0={ data:=#[] }:=by apply ByteArray.ext;simp
  rw [Option.getD_none,this]
|some i =>
  rw [e] at c
  have hi:=(rV e).1
  rw [← Lib.size_eq] at hi;refine zE ?_;refine zE ?_;refine zJ (fun K hK=>?_);simp (disch:=omega) only [push_cast,↓Int.cast_ofNat_Int,simprocAttr]
  refine bE zTv c (.cons (.v _) .nil) ?_;with_reducible refine aB ?_;simp (disch:=omega) only [push_cast,↓Int.cast_ofNat_Int,simprocAttr]
  refine hK _ ?_;clear hK K;refine yC rfl ?_;refine zC ?_;refine zE ?_;refine zJ (fun K hK=>?_);simp (disch:=omega) only [push_cast,↓Int.cast_ofNat_Int,simprocAttr]
  refine bE zTv c (.cons (.v _) .nil) ?_;with_reducible refine aB ?_;simp (disch:=omega) only [push_cast,↓Int.cast_ofNat_Int,simprocAttr]
  refine ⟨by first|omega|decide|((repeat' apply And.intro) <;> first|omega|decide),?_⟩
  refine hK _ ?_;clear hK K;refine zA ?_;refine zW ?_;simp only [yA,yM,yH,yE,aA,aC,yK,yJ,zS,zM,Nat.reduceEqDiff,reduceIte,reduceCtorEq];exact aJ rfl
theorem zBp (p t:ByteArray):pre p (t ++ { data:=#[47] })=(decide (t.size < p.size) && decide (p.extract 0 t.size=t) && decide (yY p t.size=47)):=by
 by_cases h:t.size < p.size
 ·rw [decide_eq_true h,Bool.true_and,zQn p t.size h,zD9 p t (by omega),pre,pre,Bool.eq_iff_iff]
  simp only [Bool.and_eq_true,List.isPrefixOf_iff_prefix,decide_eq_true_eq];rw [ByteArray.data_append,Array.toList_append];show t.data.toList ++ [47] <+: p.data.toList↔_
  rw [Lib.size_eq t];constructor
  ·rintro ⟨r,hr⟩;refine ⟨⟨47 :: r,by rw [← hr];simp⟩,?_⟩
   rw [← hr];simp
  ·rintro ⟨⟨r,hr⟩,h2⟩;rw [← hr] at h2
   cases r with
  |nil=>simp at h2
  |cons c r =>
    simp at h2;subst h2;exact ⟨r,by rw [← hr];simp⟩
 ·rw [decide_eq_false h,Bool.false_and,Bool.false_and];refine qSm ?_;rw [ByteArray.size_append]
  have:({ data:=#[47] }:ByteArray).size=1:=rfl
  omega
set_option maxHeartbeats 2000000 in
theorem zJ6 (p t:ByteArray) (hp:p.size≤1048576) (ht:t.size≤1048576):HFun Tryz.prog 58 [.v (.string p),.v (.string t)] (fun h st=>h=.v (.bool (dY p t))):=by
 refine eX (N:=32) Tryz.func58 rfl Tryz.ntmps58 Tryz.results58 (by simp) ?_
 rw [qWq];refine zE ?_;refine zJ (fun K hK=>?_);simp (disch:=omega) only [push_cast,↓Int.cast_ofNat_Int,simprocAttr];refine hK _ ?_;clear hK K
 cases e1:decide (t={ data:=#[] }) with
|true =>
  refine zE ?_;refine zE ?_;refine zJ (fun K hK=>?_);simp (disch:=omega) only [push_cast,↓Int.cast_ofNat_Int,simprocAttr,e1];refine hK _ ?_;clear hK K
  refine yD rfl ?_;refine zE ?_;refine zJ (fun K hK=>?_);simp (disch:=omega) only [push_cast,↓Int.cast_ofNat_Int,simprocAttr];refine hK _ ?_;clear hK K
  refine zA ?_;refine zW ?_;refine zK ?_;simp only [yA,yM,yH,yE,aA,aC,yK,yJ,zS,zM,Nat.reduceEqDiff,reduceIte,reduceCtorEq];exact aJ rfl
|false =>
  cases e2:decide (p=t) with
 |true =>
   refine zE ?_;refine zE ?_;refine zJ (fun K hK=>?_);simp (disch:=omega) only [push_cast,↓Int.cast_ofNat_Int,simprocAttr,e1,e2];refine hK _ ?_;clear hK K
   refine yD rfl ?_;refine zE ?_;refine zJ (fun K hK=>?_);simp (disch:=omega) only [push_cast,↓Int.cast_ofNat_Int,simprocAttr];refine hK _ ?_;clear hK K
   refine zA ?_;refine zW ?_;refine zK ?_;simp only [yA,yM,yH,yE,aA,aC,yK,yJ,zS,zM,Nat.reduceEqDiff,reduceIte,reduceCtorEq];exact aJ rfl
 |false =>
   rw [zBp];refine zE ?_;refine zE ?_;refine zJ (fun K hK=>?_);simp (disch:=omega) only [push_cast,↓Int.cast_ofNat_Int,simprocAttr,e1,e2];refine hK _ ?_;clear hK K
   refine yC rfl ?_;refine zC ?_;refine zE ?_
   by_cases h:t.size < p.size
   ·rw [decide_eq_true h]
    cases e3:decide (p.extract 0 t.size=t) with
   |true =>
     refine zJ (fun K hK=>?_);simp (disch:=omega) only [push_cast,↓Int.cast_ofNat_Int,simprocAttr,e3]
     refine ⟨by first|omega|decide|((repeat' apply And.intro) <;> first|omega|decide),?_⟩
     refine ⟨by first|omega|decide|((repeat' apply And.intro) <;> first|omega|decide),?_⟩
     refine hK _ ?_;clear hK K;refine zA ?_;refine zW ?_;simp only [yA,yM,yH,yE,aA,aC,yK,yJ,zS,zM,Nat.reduceEqDiff,reduceIte,reduceCtorEq];exact aJ rfl
   |false =>
     refine zJ (fun K hK=>?_);simp (disch:=omega) only [push_cast,↓Int.cast_ofNat_Int,simprocAttr,e3]
     refine ⟨by first|omega|decide|((repeat' apply And.intro) <;> first|omega|decide),?_⟩
     refine hK _ ?_;clear hK K;refine zA ?_;refine zW ?_;simp only [yA,yM,yH,yE,aA,aC,yK,yJ,zS,zM,Nat.reduceEqDiff,reduceIte,reduceCtorEq];exact aJ rfl
   ·rw [decide_eq_false h];refine zJ (fun K hK=>?_);simp (disch:=omega) only [push_cast,↓Int.cast_ofNat_Int,simprocAttr];refine hK _ ?_;clear hK K
    refine zA ?_;refine zW ?_;simp only [yA,yM,yH,yE,aA,aC,yK,yJ,zS,zM,Nat.reduceEqDiff,reduceIte,reduceCtorEq];exact aJ rfl
end Go.Proofs.YtbdomkfdkfdfgaaGreatDoor
end
section
set_option maxRecDepth 20000
namespace Go.Proofs.YtbdomkfdkfdfgaaGreatDoor
open Go Go.Eng Go.RowKit Go.Tr
theorem i3:(sizeOf 3).run Tryz.prog=fun w=>.ok 1 w:=by funext w;kernel_rfl
theorem i9:(sizeOf 9).run Tryz.prog=fun w=>.ok 1 w:=by funext w;kernel_rfl
theorem i24:(sizeOf 47).run Tryz.prog=fun w=>.ok 2 w:=by funext w;kernel_rfl
theorem zM6 (d:Nat) (x y:Int) (w:World):(Op.equalIn (d + 1) 3 (.int .i64 x) (.int .i64 y)).run Tryz.prog w=.ok (decide (x=y)) w:=by
 simp [Op.equalIn,run_underlying Tryz.underlying3]
 by_cases h:x=y <;> simp [h]
theorem zWw:Tryz.prog.stoodInHeld 47=false:=by kernel_rfl
theorem zWu:Tryz.prog.stoodInHeld 67=false:=by kernel_rfl
theorem zGb (d:Nat) (x y:ByteArray) (w:World):(Op.equalIn (d + 1) 9 (.string x) (.string y)).run Tryz.prog w=.ok (decide (x=y)) w:=by
 unfold Op.equalIn;simp [run_underlying Tryz.underlying9];obtain ⟨a⟩:=x;obtain ⟨b⟩:=y;show (a == b)=_
 by_cases h:a=b <;> simp [h]
theorem zCn (d:Nat) (x y:Int) (s t:ByteArray) (w:World):(Op.equalIn (d + 2) 47 (.agg #[.int .i64 x,.string s]) (.agg #[.int .i64 y,.string t])).run Tryz.prog w=.ok (decide (x=y∧s=t)) w:=by
 unfold Op.equalIn;simp [run_underlying Tryz.underlying47,zWw,i3,i9,part,cR kt3,cR kt9,zM6,zGb,Sem.run_bind]
 have hr:List.range' 0 2=[0,1]:=rfl
 try rw [hr]
 try simp [cR kt3,cR kt9,zM6,zGb,Sem.run_bind]
 by_cases h1:x=y <;> by_cases h2:s=t <;> simp [h1,h2]
theorem eqN (x y:Int) (s t:ByteArray):EqR Tryz.prog 47 [.int .i64 x,.string s].toArray [.int .i64 y,.string t].toArray (decide (x=y∧s=t)):=⟨by kernel_rfl,fun w=>zCn _ x y s t w⟩
theorem eqE (p q:ByteArray) (x y:Int) (s t:ByteArray):EqR Tryz.prog 67 [.string p,.int .i64 x,.string s].toArray [.string q,.int .i64 y,.string t].toArray (decide ((p,x,s)=(q,y,t))):=by
 refine ⟨by kernel_rfl,fun w=>?_⟩
 unfold Op.equal Op.maxDepth Op.equalIn;simp [run_underlying Tryz.underlying67,zWu,i9,i24,part,cR kt9,kY zPz,zGb,zCn,Sem.run_bind]
 by_cases h0:p=q <;> by_cases h1:x=y <;> by_cases h2:s=t <;> simp [h0,h1,h2]
end Go.Proofs.YtbdomkfdkfdfgaaGreatDoor
end
