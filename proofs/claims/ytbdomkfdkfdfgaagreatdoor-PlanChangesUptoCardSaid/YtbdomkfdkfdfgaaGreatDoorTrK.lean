/-
  Nodes and entries compared; which nodes may be; the document's Same, Get.
-/
import Derived.Test.YtbdomkfdkfdfgaaGreatDoorTrI
import Derived.Test.YtbdomkfdkfdfgaaGreatDoorTrE
set_option linter.unusedSimpArgs false
set_option linter.unusedVariables false
section
set_option maxRecDepth 20000
namespace Go.Tr
theorem qZn (p:ByteArray):∀ q ∈ parts p,q.size≤p.size:=fun q hq=>by
 obtain ⟨l,hl,rfl⟩:=List.mem_map.1 hq
 have:∀ (s:List UInt8),∀ l ∈ jX s,l.length≤s.length:=by
  intro s
  induction s with
 |nil=>intro l h;simp [jX] at h;subst h;simp
 |cons c r ih =>
   intro l h
   by_cases hc:c=47
   ·subst hc;rw [mM] at h
    rcases List.mem_cons.1 h with rfl|h
    ·simp
    ·have:=ih l h;simp;omega
   ·cases e:jX r with
   |nil=>exact absurd e (xK r)
   |cons a t =>
     rw [lN hc e] at h
     rcases List.mem_cons.1 h with rfl|h
     ·have:=ih a (by rw [e];simp);simp;omega
     ·have:=ih l (by rw [e];simp [h]);simp;omega
 have:=this _ l hl
 rw [← Lib.size_eq] at this
 have e:(mkB l).size=l.length:=by simp [mkB,ByteArray.size]
 omega
end Go.Tr
namespace Go.Proofs.YtbdomkfdkfdfgaaGreatDoor
open Go Go.Eng Go.RowKit Go.Tr
set_option maxHeartbeats 4000000 in
theorem zE2 (p:ByteArray) (d:Nat) (hp:p.size≤1048576) (hd:d≤1000):HFun Tryz.prog 37 [.v (.string p),.v (.int .i64 d)] (fun h st=>h=.v (.int .i64 (okN (pOk p d)))):=by
 refine fJ (N:=25) Tryz.func37 rfl Tryz.ntmps37 Tryz.results37 (by simp) ?_
 have pl:=qCt p
 have hsz:∀ q ∈ parts p,q.size≤1048576:=fun q hq=>by have:=qZn p q hq;omega
 refine zE ?_;refine zJ (fun K hK=>?_);simp (disch:=omega) only [push_cast,↓Int.cast_ofNat_Int,simprocAttr];refine hK _ ?_;clear hK K
 refine zE ?_;refine zJ (fun K hK=>?_);simp (disch:=omega) only [push_cast,↓Int.cast_ofNat_Int,simprocAttr]
 refine hat 64 zVf (zGx p hp) (.cons (.v _) .nil) ?_;rintro _ _ ⟨rfl,rfl⟩;with_reducible refine aC ?_;simp (disch:=omega) only [push_cast,↓Int.cast_ofNat_Int,simprocAttr]
 refine hK _ ?_;clear hK K
 by_cases h2:d < (parts p).length
 ·have e:pOk p d=false:=by
   rw [pOk,decide_eq_false (by omega)];rfl
  rw [e];refine zE ?_;refine zE ?_;refine zJ (fun K hK=>?_);simp (disch:=omega) only [push_cast,↓Int.cast_ofNat_Int,simprocAttr,cY];refine hK _ ?_;clear hK K
  refine yD rfl ?_;refine zE ?_;refine zJ (fun K hK=>?_);simp (disch:=omega) only [push_cast,↓Int.cast_ofNat_Int,simprocAttr];refine hK _ ?_;clear hK K
  refine zA ?_;refine zW ?_;refine zK ?_;simp only [yA,yM,yH,yE,aA,aD,yK,yJ,zS,zM,Nat.reduceEqDiff,reduceIte,reduceCtorEq];exact aM rfl
 have e:pOk p d=(parts p).all eQ:=by rw [pOk,decide_eq_true (by omega),Bool.true_and]
 rw [e];generalize parts p=L at *
 refine zE ?_;refine zE ?_;refine zJ (fun K hK=>?_);simp (disch:=omega) only [push_cast,↓Int.cast_ofNat_Int,simprocAttr,cY];refine hK _ ?_;clear hK K
 refine yC rfl ?_;refine zC ?_;refine zE ?_;refine zE ?_;refine zJ (fun K hK=>?_);simp (disch:=omega) only [push_cast,↓Int.cast_ofNat_Int,simprocAttr];refine hK _ ?_;clear hK K
 refine zA ?_;refine zD ?_;refine cH (fun i:Nat=>⟨[(5,.own 64),(6,.v (.int .i64 i))],[(64,.sl true 9 1 (cX L))]⟩) (fun i=>i≤L.length∧(L.take i).all eQ=true) (fun i=>L.length - i) [5,6] [64] 0 rfl ⟨Nat.zero_le _,rfl⟩ ?_
 rintro i ⟨hi,ha⟩
 by_cases hlt:i < L.length
 ·refine zE ?_;refine zE ?_;refine zJ (fun K hK=>?_);simp (disch:=omega) only [push_cast,↓Int.cast_ofNat_Int,simprocAttr,cY];refine hK _ ?_;clear hK K
  refine zA ?_;refine yD rfl ?_;refine zC ?_;refine zE ?_;refine zD ?_;refine zE ?_;refine zJ (fun K hK=>?_);simp (disch:=omega) only [push_cast,↓Int.cast_ofNat_Int,simprocAttr,cY,rM,qCa hlt]
  refine cP zVe (zMi L[i] (hsz _ (List.getElem_mem hlt))) (.cons (.v _) .nil) ?_
  cases hn:eQ L[i] with
 |false =>
   with_reducible refine aC ?_;simp (disch:=omega) only [push_cast,↓Int.cast_ofNat_Int,simprocAttr]
   refine hK _ ?_;clear hK K;refine yD rfl ?_;refine zE ?_;refine zJ (fun K hK=>?_);simp (disch:=omega) only [push_cast,↓Int.cast_ofNat_Int,simprocAttr];refine hK _ ?_;clear hK K
   refine zA ?_;refine zW ?_;refine zL ?_;refine zK ?_;refine zK ?_;refine zL ?_;refine zK ?_;simp only [yA,yM,yH,yE,aA,aD,yK,yJ,zS,zM,Nat.reduceEqDiff,reduceIte,reduceCtorEq];refine aM ?_
   have:L.all eQ=false:=by
    rw [Bool.eq_false_iff];intro h;rw [List.all_eq_true.1 h _ (List.getElem_mem hlt)] at hn;cases hn
   rw [this];rfl
 |true =>
   with_reducible refine aC ?_;simp (disch:=omega) only [push_cast,↓Int.cast_ofNat_Int,simprocAttr]
   refine hK _ ?_;clear hK K;refine yC rfl ?_;refine zC ?_;refine zB ?_;refine zA ?_;refine zJ (fun K hK=>?_);simp (disch:=omega) only [push_cast,↓Int.cast_ofNat_Int,simprocAttr];refine hK _ ?_;clear hK K
   refine zA ?_;refine ⟨i + 1,rfl,⟨hlt,?_⟩,by omega⟩
   rw [List.take_succ_eq_append_getElem hlt,List.all_append,ha,List.all_cons,hn];rfl
 ·have hne:i=L.length:=by omega
  subst hne;rw [List.take_length] at ha;rw [ha];refine zE ?_;refine zE ?_;refine zJ (fun K hK=>?_);simp (disch:=omega) only [push_cast,↓Int.cast_ofNat_Int,simprocAttr,cY];refine hK _ ?_;clear hK K
  refine zA ?_;refine yC rfl ?_;refine zT ?_;refine zG ?_;refine zG ?_;refine zH ?_;refine zE ?_;refine zJ (fun K hK=>?_);simp (disch:=omega) only [push_cast,↓Int.cast_ofNat_Int,simprocAttr];refine hK _ ?_;clear hK K
  refine zA ?_;refine zW ?_;simp only [yA,yM,yH,yE,aA,aD,yK,yJ,zS,zM,Nat.reduceEqDiff,reduceIte,reduceCtorEq];exact aM rfl
theorem qZz (s:List UInt8) (c:UInt8):mC (s ++ [c])=if c=47 then (s.length:Int) else mC s:=by
 rw [mC,qT5]
 by_cases h:c=47
 ·rw [if_pos h,if_pos h]
 ·rw [if_neg h,if_neg h];rfl
set_option maxHeartbeats 4000000 in
theorem zMk (s:ByteArray) (hs:s.size≤1048576):HFun Tryz.prog 62 [.v (.string s)] (fun h st=>h=.v (.int .i64 (mC s.data.toList))):=by
 refine fJ (N:=17) Tryz.func62 rfl Tryz.ntmps62 Tryz.results62 (by simp) ?_
 refine zE ?_;refine zJ (fun K hK=>?_);simp (disch:=omega) only [push_cast,↓Int.cast_ofNat_Int,simprocAttr];refine hK _ ?_;clear hK K
 refine zE ?_;refine zJ (fun K hK=>?_);simp (disch:=omega) only [push_cast,↓Int.cast_ofNat_Int,simprocAttr];refine hK _ ?_;clear hK K
 refine zE ?_;refine zE ?_;refine zJ (fun K hK=>?_);simp (disch:=omega) only [push_cast,↓Int.cast_ofNat_Int,simprocAttr];refine hK _ ?_;clear hK K
 refine zA ?_;refine zD ?_;refine cH (fun i:Nat=>⟨[(0,.v (.string s)),(3,.v (.int .i64 (mC (s.data.toList.take i)))),(4,.v (.int .i64 i))],[]⟩) (fun i=>i≤s.size) (fun i=>s.size - i) [0,3,4] [] 0 rfl (Nat.zero_le _) ?_
 rintro i hi
 by_cases hlt:i < s.size
 ·have hll:i < s.data.toList.length:=by rw [← Lib.size_eq];exact hlt
  have h47:=zRs s i hlt
  have hstep:mC (s.data.toList.take (i + 1))=if s.data.toList[i]=47 then (i:Int) else mC (s.data.toList.take i):=by
   rw [List.take_succ_eq_append_getElem hll,qZz,List.length_take,Nat.min_eq_left (by omega)]
  rw [List.getElem?_eq_getElem hll] at h47;refine zE ?_;refine zE ?_;refine zJ (fun K hK=>?_);simp (disch:=omega) only [push_cast,↓Int.cast_ofNat_Int,simprocAttr];refine hK _ ?_;clear hK K
  refine zA ?_;refine yD rfl ?_;refine zC ?_;refine zE ?_
  by_cases hc:s.data.toList[i]=47
  ·have hz:some s.data.toList[i]=some (47:UInt8):=by rw [hc]
   rw [decide_eq_true hz] at h47;rw [if_pos hc] at hstep;refine zD ?_;refine zE ?_;refine zJ (fun K hK=>?_);simp (disch:=omega) only [push_cast,↓Int.cast_ofNat_Int,simprocAttr,h47];(repeat refine ⟨by first|omega|decide|((repeat' apply And.intro) <;> first|omega|decide),?_⟩);refine hK _ ?_;clear hK K
   refine zA ?_;refine yD rfl ?_;refine zJ (fun K hK=>?_);simp (disch:=omega) only [push_cast,↓Int.cast_ofNat_Int,simprocAttr];refine hK _ ?_;clear hK K
   refine zB ?_;refine zA ?_;refine zJ (fun K hK=>?_);simp (disch:=omega) only [push_cast,↓Int.cast_ofNat_Int,simprocAttr];refine hK _ ?_;clear hK K
   refine zA ?_;exact ⟨i + 1,by simp only [zZ,zR,zP,zQ,zN,zS,zM,zX,zU,Nat.reduceEqDiff,reduceIte];rw [hstep];rfl,hlt,by omega⟩
  ·have hz:¬ some s.data.toList[i]=some (47:UInt8):=fun e=>hc (Option.some.inj e)
   rw [decide_eq_false hz] at h47;rw [if_neg hc] at hstep;refine zD ?_;refine zE ?_;refine zJ (fun K hK=>?_);simp (disch:=omega) only [push_cast,↓Int.cast_ofNat_Int,simprocAttr,h47];(repeat refine ⟨by first|omega|decide|((repeat' apply And.intro) <;> first|omega|decide),?_⟩);refine hK _ ?_;clear hK K
   refine zA ?_;refine yC rfl ?_;refine zC ?_;refine zB ?_;refine zA ?_;refine zJ (fun K hK=>?_);simp (disch:=omega) only [push_cast,↓Int.cast_ofNat_Int,simprocAttr];refine hK _ ?_;clear hK K
   refine zA ?_;exact ⟨i + 1,by simp only [zZ,zR,zP,zQ,zN,zS,zM,zX,zU,Nat.reduceEqDiff,reduceIte];rw [hstep];rfl,hlt,by omega⟩
 ·have hne:i=s.size:=by omega
  subst hne;rw [show s.data.toList.take s.size=s.data.toList by rw [Lib.size_eq,List.take_length]]
  refine zE ?_;refine zE ?_;refine zJ (fun K hK=>?_);simp (disch:=omega) only [push_cast,↓Int.cast_ofNat_Int,simprocAttr];refine hK _ ?_;clear hK K
  refine zA ?_;refine yC rfl ?_;refine zT ?_;refine zG ?_;refine zG ?_;refine zH ?_;refine zE ?_;refine zJ (fun K hK=>?_);simp (disch:=omega) only [push_cast,↓Int.cast_ofNat_Int,simprocAttr];refine hK _ ?_;clear hK K
  refine zA ?_;refine zW ?_;simp only [yA,yM,yH,yE,aA,aD,yK,yJ,zS,zM,Nat.reduceEqDiff,reduceIte,reduceCtorEq];exact aM rfl
set_option maxHeartbeats 2000000 in
theorem zE3 (s:ByteArray) (hs:s.size≤1048576):HFun Tryz.prog 39 [.v (.string s)] (fun h st=>h=.v (.string (par s))):=by
 refine fJ (N:=10) Tryz.func39 rfl Tryz.ntmps39 Tryz.results39 (by simp) ?_
 have c:=zMk s hs
 refine zE ?_;refine zJ (fun K hK=>?_);simp (disch:=omega) only [push_cast,↓Int.cast_ofNat_Int,simprocAttr];refine hK _ ?_;clear hK K
 unfold mC at c;unfold par qA5
 cases e:gG s.data.toList with
|none =>
  rw [e] at c;refine zE ?_;refine zE ?_;refine zJ (fun K hK=>?_);simp (disch:=omega) only [push_cast,↓Int.cast_ofNat_Int,simprocAttr]
  refine cP zRn c (.cons (.v _) .nil) ?_;with_reducible refine aC ?_;simp (disch:=omega) only [push_cast,↓Int.cast_ofNat_Int,simprocAttr]
  refine hK _ ?_;clear hK K;refine yD rfl ?_;refine zE ?_;refine zJ (fun K hK=>?_);simp (disch:=omega) only [push_cast,↓Int.cast_ofNat_Int,simprocAttr];refine hK _ ?_;clear hK K
  refine zA ?_;refine zW ?_;refine zK ?_;simp only [yA,yM,yH,yE,aA,aD,yK,yJ,zS,zM,Nat.reduceEqDiff,reduceIte,reduceCtorEq];refine aM ?_
  have:s.extract 0 0={ data:=#[] }:=by apply ByteArray.ext;simp
  rw [Option.getD_none,this]
|some i =>
  rw [e] at c
  have hi:=(oH e).1
  rw [← Lib.size_eq] at hi;refine zE ?_;refine zE ?_;refine zJ (fun K hK=>?_);simp (disch:=omega) only [push_cast,↓Int.cast_ofNat_Int,simprocAttr]
  refine cP zRn c (.cons (.v _) .nil) ?_;with_reducible refine aC ?_;simp (disch:=omega) only [push_cast,↓Int.cast_ofNat_Int,simprocAttr]
  refine hK _ ?_;clear hK K;refine yC rfl ?_;refine zC ?_;refine zE ?_;refine zJ (fun K hK=>?_);simp (disch:=omega) only [push_cast,↓Int.cast_ofNat_Int,simprocAttr]
  refine cP zRn c (.cons (.v _) .nil) ?_;with_reducible refine aC ?_;simp (disch:=omega) only [push_cast,↓Int.cast_ofNat_Int,simprocAttr]
  refine ⟨by first|omega|decide|((repeat' apply And.intro) <;> first|omega|decide),?_⟩
  refine hK _ ?_;clear hK K;refine zA ?_;refine zW ?_;simp only [yA,yM,yH,yE,aA,aD,yK,yJ,zS,zM,Nat.reduceEqDiff,reduceIte,reduceCtorEq];exact aM rfl
end Go.Proofs.YtbdomkfdkfdfgaaGreatDoor
end
section
set_option maxRecDepth 20000
namespace Go.Proofs.YtbdomkfdkfdfgaaGreatDoor
open Go Go.Eng Go.RowKit Go.Tr
theorem i3:(sizeOf 3).run Tryz.prog=fun w=>.ok 1 w:=by funext w;kernel_rfl
theorem i9:(sizeOf 9).run Tryz.prog=fun w=>.ok 1 w:=by funext w;kernel_rfl
theorem i24:(sizeOf 47).run Tryz.prog=fun w=>.ok 2 w:=by funext w;kernel_rfl
theorem zDy (d:Nat) (x y:Int) (w:World):(Op.equalIn (d + 1) 3 (.int .i64 x) (.int .i64 y)).run Tryz.prog w=.ok (decide (x=y)) w:=by
 simp [Op.equalIn,run_underlying Tryz.underlying3]
 by_cases h:x=y <;> simp [h]
theorem zUu:Tryz.prog.stoodInHeld 47=false:=by kernel_rfl
theorem zUq:Tryz.prog.stoodInHeld 67=false:=by kernel_rfl
theorem qX8 (d:Nat) (x y:ByteArray) (w:World):(Op.equalIn (d + 1) 9 (.string x) (.string y)).run Tryz.prog w=.ok (decide (x=y)) w:=by
 unfold Op.equalIn;simp [run_underlying Tryz.underlying9];obtain ⟨a⟩:=x;obtain ⟨b⟩:=y;show (a == b)=_
 by_cases h:a=b <;> simp [h]
theorem wA (d:Nat) (x y:Int) (s t:ByteArray) (w:World):(Op.equalIn (d + 2) 47 (.agg #[.int .i64 x,.string s]) (.agg #[.int .i64 y,.string t])).run Tryz.prog w=.ok (decide (x=y∧s=t)) w:=by
 unfold Op.equalIn;simp [run_underlying Tryz.underlying47,zUu,i3,i9,part,bE kt3,bE kt9,zDy,qX8,Sem.run_bind]
 have hr:List.range' 0 2=[0,1]:=rfl
 try rw [hr]
 try simp [bE kt3,bE kt9,zDy,qX8,Sem.run_bind]
 by_cases h1:x=y <;> by_cases h2:s=t <;> simp [h1,h2]
theorem eqN (x y:Int) (s t:ByteArray):EqR Tryz.prog 47 [.int .i64 x,.string s].toArray [.int .i64 y,.string t].toArray (decide (x=y∧s=t)):=⟨by kernel_rfl,fun w=>wA _ x y s t w⟩
theorem eqE (p q:ByteArray) (x y:Int) (s t:ByteArray):EqR Tryz.prog 67 [.string p,.int .i64 x,.string s].toArray [.string q,.int .i64 y,.string t].toArray (decide ((p,x,s)=(q,y,t))):=by
 refine ⟨by kernel_rfl,fun w=>?_⟩
 unfold Op.equal Op.maxDepth Op.equalIn;simp [run_underlying Tryz.underlying67,zUq,i9,i24,part,bE kt9,cZ qT6,qX8,wA,Sem.run_bind]
 by_cases h0:p=q <;> by_cases h1:x=y <;> by_cases h2:s=t <;> simp [h0,h1,h2]
end Go.Proofs.YtbdomkfdkfdfgaaGreatDoor
end
