/-
  The document's paths (tetherref03), walked.
-/
import Derived.Test.YtbdomkfdkfdfgaaGreatDoorTrH
set_option linter.unusedSimpArgs false
set_option linter.unusedVariables false
set_option maxRecDepth 20000
namespace Go.Tr
open Go Go.Eng
def gB (out:List ByteArray) (one:ByteArray) (l:List UInt8):List ByteArray:=(qDn (out.map (·.data.toList)) one.data.toList l).map mkB
theorem zTl (s:ByteArray):gB [] { data:=#[] } s.data.toList=parts s:=by rw [gB,parts];exact congrArg _ (zJd _)
theorem zPx (out:List ByteArray):(out.map (·.data.toList)).map mkB=out:=by
 rw [List.map_map]
 conv=>rhs;rw [← List.map_id out]
 exact List.map_congr_left fun s _=>pC s
theorem zTk (out:List ByteArray) (one:ByteArray):gB out one []=out ++ [one]:=by
 rw [gB,qDn,List.map_append,zPx,List.map_singleton,pC]
theorem zH9 (out:List ByteArray) (one:ByteArray) (r:List UInt8):gB out one (47 :: r)=gB (out ++ [one]) { data:=#[] } r:=by
 rw [gB,qDn,if_pos rfl,gB,List.map_append];rfl
theorem zMb (out:List ByteArray) (one x:ByteArray) (c:UInt8) (r:List UInt8) (hc:c≠47) (hx:x.data.toList=[c]):gB out one (c :: r)=gB out (one ++ x) r:=by
 rw [gB,qDn,if_neg hc,gB]
 congr 2
 rw [ByteArray.data_append,Array.toList_append,hx]
theorem zQe (s:ByteArray) (i:Nat) (h:i < s.size):∃ c,s.data.toList[i]?=some c∧(s.extract i (i + 1)).data.toList=[c]∧s.data.toList.drop i=c :: s.data.toList.drop (i + 1):=by
 have hl:i < s.data.toList.length:=by rw [← Lib.size_eq];exact h
 refine ⟨s.data.toList[i],List.getElem?_eq_getElem hl,?_,List.drop_eq_getElem_cons hl⟩;rw [ByteArray.data_extract,Array.toList_extract,List.extract_eq_take_drop,List.drop_eq_getElem_cons hl,show i + 1 - i=1 by omega];rfl
end Go.Tr
namespace Go.Proofs.YtbdomkfdkfdfgaaGreatDoor
open Go Go.Eng Go.RowKit Go.Tr
set_option maxHeartbeats 4000000 in
theorem zJ7 (s:ByteArray) (hs:s.size≤1048576):HFun Tryz.prog 60 [.v (.string s)] (fun h st=>h=.own 0∧st=[(0,.sl true 9 1 (iG (parts s)))]):=by
 refine eX (N:=31) Tryz.func60 rfl Tryz.ntmps60 Tryz.results60 (by simp) ?_
 refine zE ?_;refine zJ (fun K hK=>?_);simp (disch:=omega) only [push_cast,↓Int.cast_ofNat_Int,simprocAttr];refine hK _ ?_;clear hK K
 refine zE ?_;refine zJ (fun K hK=>?_);simp (disch:=omega) only [push_cast,↓Int.cast_ofNat_Int,simprocAttr];refine hK _ ?_;clear hK K
 refine zE ?_;refine zJ (fun K hK=>?_);simp (disch:=omega) only [push_cast,↓Int.cast_ofNat_Int,simprocAttr];refine hK _ ?_;clear hK K
 refine zE ?_;refine zE ?_;refine zJ (fun K hK=>?_);simp (disch:=omega) only [push_cast,↓Int.cast_ofNat_Int,simprocAttr];refine hK _ ?_;clear hK K
 refine zA ?_;refine zD ?_;refine eW 3 9000 9 1 rfl (by simp only [dX,fM,fN,bQ,aY,aZ,aT,cY,bD,cE,bC,bB,cM,bP,bN,aX,bV,bW,cJ,cX,dC,cD,Nat.reduceBEq,Nat.reduceEqDiff,reduceIte,cond_true,cond_false,List.map_cons,List.map_nil];exact rfl) ?_
 refine cP (fun x:Nat × List ByteArray × ByteArray=>⟨[(0,.v (.string s)),(3,.own 9000),(4,.v (.string x.2.2)),(5,.v (.int .i64 x.1))],[(9000,.sl true 9 1 (iG x.2.1))]⟩)
  (fun x=>x.1≤s.size∧x.2.2.size≤x.1∧x.2.1.length≤x.1∧gB x.2.1 x.2.2 (s.data.toList.drop x.1)=parts s) (fun x=>s.size - x.1) [0,3,4,5] [9000] (0,[],{ data:=#[] }) (by simp only [zZ,zR,zP,zQ,zN,zS,zM,zX,zU,Nat.reduceEqDiff,reduceIte];rfl) ⟨Nat.zero_le _,Nat.le_refl _,Nat.le_refl _,zTl s⟩ ?_
 rintro ⟨i,out,one⟩ ⟨hi,h1,hl,hg⟩;simp only at hi h1 hl hg
 by_cases hlt:i < s.size
 ·obtain ⟨c,c1,c2,c3⟩:=zQe s i hlt
  have h47:=zQn s i hlt
  rw [c3] at hg;rw [c1] at h47;refine zE ?_;refine zE ?_;refine zJ (fun K hK=>?_);simp (disch:=omega) only [push_cast,↓Int.cast_ofNat_Int,simprocAttr];refine hK _ ?_;clear hK K
  refine zA ?_;refine yD rfl ?_;refine zC ?_;refine zE ?_
  by_cases hc:c=47
  ·subst hc;rw [zH9] at hg;rw [decide_eq_true rfl] at h47;refine zD ?_;refine zE ?_;refine zE ?_;refine zJ (fun K hK=>?_);simp (disch:=omega) only [push_cast,↓Int.cast_ofNat_Int,simprocAttr,h47];(repeat refine ⟨by first|omega|decide|((repeat' apply And.intro) <;> first|omega|decide),?_⟩);refine hK _ ?_;clear hK K
   refine zA ?_;refine yD rfl ?_;refine zE ?_;refine zJ (fun K hK=>?_);simp (disch:=omega) only [push_cast,↓Int.cast_ofNat_Int,simprocAttr,qRw,gP];(repeat refine ⟨by first|omega|decide|((repeat' apply And.intro) <;> first|omega|decide),?_⟩);refine hK _ ?_;clear hK K
   refine zE ?_;refine zJ (fun K hK=>?_);simp (disch:=omega) only [push_cast,↓Int.cast_ofNat_Int,simprocAttr];refine hK _ ?_;clear hK K
   refine zA ?_;refine zT ?_;refine zG ?_;refine zH ?_;refine zA ?_;refine zJ (fun K hK=>?_);simp (disch:=omega) only [push_cast,↓Int.cast_ofNat_Int,simprocAttr];refine hK _ ?_;clear hK K
   refine zA ?_;exact ⟨(i + 1,out ++ [one],{ data:=#[] }),by simp only [zZ,zR,zP,zQ,zN,zS,zM,zX,zU,Nat.reduceEqDiff,reduceIte];rfl,⟨hlt,by dsimp only;exact Nat.zero_le _,by dsimp only;simp;omega,hg⟩,by dsimp only;omega⟩
  ·have hne:¬ some c=some 47:=fun e=>hc (Option.some.inj e)
   rw [decide_eq_false hne] at h47;rw [zMb out one _ c _ hc c2] at hg
   have hz:(s.extract i (i + 1)).size=1:=by rw [ByteArray.size_extract];omega
   have e1:((i:Int) + 1).toNat=i + 1:=by omega
   refine zD ?_;refine zE ?_;refine zE ?_;refine zJ (fun K hK=>?_);simp (disch:=omega) only [push_cast,↓Int.cast_ofNat_Int,simprocAttr,h47];(repeat refine ⟨by first|omega|decide|((repeat' apply And.intro) <;> first|omega|decide),?_⟩);refine hK _ ?_;clear hK K
   refine zA ?_;refine yC rfl ?_;refine zC ?_;refine zA ?_;refine zJ (fun K hK=>?_);simp (disch:=omega) only [push_cast,↓Int.cast_ofNat_Int,simprocAttr,e1,hz]
   refine ⟨by omega,by omega,?_⟩
   refine hK _ ?_;clear hK K;refine zB ?_;refine zA ?_;refine zJ (fun K hK=>?_);simp (disch:=omega) only [push_cast,↓Int.cast_ofNat_Int,simprocAttr];refine hK _ ?_;clear hK K
   refine zA ?_;refine ⟨(i + 1,out,one ++ s.extract i (i + 1)),by simp only [zZ,zR,zP,zQ,zN,zS,zM,zX,zU,Nat.reduceEqDiff,reduceIte];rfl,⟨hlt,?_,by dsimp only;omega,hg⟩,by dsimp only;omega⟩
   dsimp only;rw [ByteArray.size_append,hz];omega
 ·have hne:i=s.size:=by omega
  subst hne;rw [List.drop_of_length_le (by rw [← Lib.size_eq];omega),zTk] at hg
  rw [← hg];refine zE ?_;refine zE ?_;refine zJ (fun K hK=>?_);simp (disch:=omega) only [push_cast,↓Int.cast_ofNat_Int,simprocAttr];refine hK _ ?_;clear hK K
  refine zA ?_;refine yC rfl ?_;refine zT ?_;refine zG ?_;refine zG ?_;refine zH ?_;refine zE ?_;refine zJ (fun K hK=>?_);simp (disch:=omega) only [push_cast,↓Int.cast_ofNat_Int,simprocAttr,qRw,gP];(repeat refine ⟨by first|omega|decide|((repeat' apply And.intro) <;> first|omega|decide),?_⟩);refine hK _ ?_;clear hK K
  refine zA ?_;refine zW ?_;simp only [yA,yM,yH,yE,aA,aC,yK,yJ,zS,zM,Nat.reduceEqDiff,reduceIte,reduceCtorEq];exact xX rfl (qDu _) ⟨rfl,rfl⟩
theorem zHr (s:ByteArray) (h1:1≤s.size) (h2:s.size≤12):gC s=s.data.toList.all okC:=by
 rw [gC,decide_eq_true h1,decide_eq_true h2];rfl
set_option maxHeartbeats 8000000 in
theorem zPl (s:ByteArray) (hs:s.size≤1048576):HFun Tryz.prog 61 [.v (.string s)] (fun h st=>h=.v (.bool (gC s))):=by
 refine eX (N:=41) Tryz.func61 rfl Tryz.ntmps61 Tryz.results61 (by simp) ?_
 refine zE ?_;refine zJ (fun K hK=>?_);simp (disch:=omega) only [push_cast,↓Int.cast_ofNat_Int,simprocAttr];refine hK _ ?_;clear hK K
 by_cases h1:s.size < 1
 ·have e:gC s=false:=by rw [gC,decide_eq_false (by omega)];rfl
  rw [e];refine zE ?_;refine zE ?_;refine zJ (fun K hK=>?_);simp (disch:=omega) only [push_cast,↓Int.cast_ofNat_Int,simprocAttr];refine hK _ ?_;clear hK K
  refine yD rfl ?_;refine zE ?_;refine zJ (fun K hK=>?_);simp (disch:=omega) only [push_cast,↓Int.cast_ofNat_Int,simprocAttr];refine hK _ ?_;clear hK K
  refine zA ?_;refine zW ?_;refine zK ?_;simp only [yA,yM,yH,yE,aA,aC,yK,yJ,zS,zM,Nat.reduceEqDiff,reduceIte,reduceCtorEq];exact aJ rfl
 by_cases h2:12 < s.size
 ·have e:gC s=false:=by rw [gC,decide_eq_true (by omega),decide_eq_false (by omega)];rfl
  rw [e];refine zE ?_;refine zE ?_;refine zJ (fun K hK=>?_);simp (disch:=omega) only [push_cast,↓Int.cast_ofNat_Int,simprocAttr];refine hK _ ?_;clear hK K
  refine yD rfl ?_;refine zE ?_;refine zJ (fun K hK=>?_);simp (disch:=omega) only [push_cast,↓Int.cast_ofNat_Int,simprocAttr];refine hK _ ?_;clear hK K
  refine zA ?_;refine zW ?_;refine zK ?_;simp only [yA,yM,yH,yE,aA,aC,yK,yJ,zS,zM,Nat.reduceEqDiff,reduceIte,reduceCtorEq];exact aJ rfl
 rw [zHr s (by omega) (by omega)]
 refine zE ?_;refine zE ?_;refine zJ (fun K hK=>?_);simp (disch:=omega) only [push_cast,↓Int.cast_ofNat_Int,simprocAttr];refine hK _ ?_;clear hK K
 refine yC rfl ?_;refine zC ?_;refine zE ?_;refine zE ?_;refine zJ (fun K hK=>?_);simp (disch:=omega) only [push_cast,↓Int.cast_ofNat_Int,simprocAttr];refine hK _ ?_;clear hK K
 refine zA ?_;refine zD ?_;refine cP (fun i:Nat=>⟨[(0,.v (.string s)),(3,.v (.int .i64 i))],[]⟩) (fun i=>i≤s.size∧(s.data.toList.take i).all okC=true) (fun i=>s.size - i) [0,3] [] 0 rfl ⟨Nat.zero_le _,rfl⟩ ?_
 rintro i ⟨hi,ha⟩
 by_cases hlt:i < s.size
 ·have hll:i < s.data.toList.length:=by rw [← Lib.size_eq];exact hlt
  obtain ⟨r,hr,hrr⟩:∃ r:Nat,yY s i=(r:Int)∧s.data.toList[i].toNat=r:=by
   refine ⟨_,?_,rfl⟩
   have h':i < s.data.size:=hlt
   unfold yY;rw [Array.getD_eq_getD_getElem?,Array.getElem?_eq_getElem h'];rfl
  have hb:=zGm s.data.toList[i]
  rw [hrr] at hb;refine zE ?_;refine zE ?_;refine zJ (fun K hK=>?_);simp (disch:=omega) only [push_cast,↓Int.cast_ofNat_Int,simprocAttr];refine hK _ ?_;clear hK K
  refine zA ?_;refine yD rfl ?_;refine zC ?_;refine zE ?_;refine zD ?_;refine zE ?_;refine zJ (fun K hK=>?_);simp (disch:=omega) only [push_cast,↓Int.cast_ofNat_Int,simprocAttr,hr];(repeat refine ⟨by first|omega|decide|((repeat' apply And.intro) <;> first|omega|decide),?_⟩);refine hK _ ?_;clear hK K
  have good:okC s.data.toList[i]=true→(s.data.toList.take (i + 1)).all okC=true:=fun h=>by
   rw [List.take_succ_eq_append_getElem hll,List.all_append,ha,List.all_cons,h];rfl
  have bad:okC s.data.toList[i]=false→s.data.toList.all okC=false:=fun h=>by
   rw [Bool.eq_false_iff];intro hall;rw [List.all_eq_true.1 hall _ (List.getElem_mem hll)] at h;cases h
  have cases7:(r < 48∧qK r=true)∨(48≤r∧r≤57∧qK r=false)∨(57 < r∧r < 95∧qK r=true)∨(r=95∧qK r=false)∨(r=96∧qK r=true)∨(97≤r∧r≤122∧qK r=false)∨(122 < r∧qK r=true):=by
   unfold qK;simp;omega
  rcases cases7 with ⟨c1,hc⟩|⟨c1,c2,hc⟩|⟨c1,c2,hc⟩|⟨c1,hc⟩|⟨c1,hc⟩|⟨c1,c2,hc⟩|⟨c1,hc⟩
  ·rw [hc] at hb;rw [bad (by simpa using hb.symm)]
   refine zE ?_;refine zJ (fun K hK=>?_);simp (disch:=omega) only [push_cast,↓Int.cast_ofNat_Int,simprocAttr];refine hK _ ?_;clear hK K
   refine yD rfl ?_;refine zE ?_;refine zJ (fun K hK=>?_);simp (disch:=omega) only [push_cast,↓Int.cast_ofNat_Int,simprocAttr];refine hK _ ?_;clear hK K
   refine zA ?_;refine zW ?_;refine zL ?_;refine zK ?_;refine zK ?_;refine zL ?_;refine zK ?_;simp only [yA,yM,yH,yE,aA,aC,yK,yJ,zS,zM,Nat.reduceEqDiff,reduceIte,reduceCtorEq];exact aJ rfl
  ·rw [hc] at hb
   have ha2:=good (by simpa using hb.symm)
   refine zE ?_;refine zJ (fun K hK=>?_);simp (disch:=omega) only [push_cast,↓Int.cast_ofNat_Int,simprocAttr];refine hK _ ?_;clear hK K
   refine yC rfl ?_;refine zC ?_;refine zB ?_;refine zA ?_;refine zJ (fun K hK=>?_);simp (disch:=omega) only [push_cast,↓Int.cast_ofNat_Int,simprocAttr];refine hK _ ?_;clear hK K
   refine zA ?_;exact ⟨i + 1,rfl,⟨hlt,ha2⟩,by omega⟩
  ·rw [hc] at hb;rw [bad (by simpa using hb.symm)]
   refine zE ?_;refine zJ (fun K hK=>?_);simp (disch:=omega) only [push_cast,↓Int.cast_ofNat_Int,simprocAttr];refine hK _ ?_;clear hK K
   refine yD rfl ?_;refine zE ?_;refine zJ (fun K hK=>?_);simp (disch:=omega) only [push_cast,↓Int.cast_ofNat_Int,simprocAttr];refine hK _ ?_;clear hK K
   refine zA ?_;refine zW ?_;refine zL ?_;refine zK ?_;refine zK ?_;refine zL ?_;refine zK ?_;simp only [yA,yM,yH,yE,aA,aC,yK,yJ,zS,zM,Nat.reduceEqDiff,reduceIte,reduceCtorEq];exact aJ rfl
  ·rw [hc] at hb
   have ha2:=good (by simpa using hb.symm)
   refine zE ?_;refine zJ (fun K hK=>?_);simp (disch:=omega) only [push_cast,↓Int.cast_ofNat_Int,simprocAttr];refine hK _ ?_;clear hK K
   refine yC rfl ?_;refine zC ?_;refine zB ?_;refine zA ?_;refine zJ (fun K hK=>?_);simp (disch:=omega) only [push_cast,↓Int.cast_ofNat_Int,simprocAttr];refine hK _ ?_;clear hK K
   refine zA ?_;exact ⟨i + 1,rfl,⟨hlt,ha2⟩,by omega⟩
  ·rw [hc] at hb;rw [bad (by simpa using hb.symm)]
   refine zE ?_;refine zJ (fun K hK=>?_);simp (disch:=omega) only [push_cast,↓Int.cast_ofNat_Int,simprocAttr];refine hK _ ?_;clear hK K
   refine yD rfl ?_;refine zE ?_;refine zJ (fun K hK=>?_);simp (disch:=omega) only [push_cast,↓Int.cast_ofNat_Int,simprocAttr];refine hK _ ?_;clear hK K
   refine zA ?_;refine zW ?_;refine zL ?_;refine zK ?_;refine zK ?_;refine zL ?_;refine zK ?_;simp only [yA,yM,yH,yE,aA,aC,yK,yJ,zS,zM,Nat.reduceEqDiff,reduceIte,reduceCtorEq];exact aJ rfl
  ·rw [hc] at hb
   have ha2:=good (by simpa using hb.symm)
   refine zE ?_;refine zJ (fun K hK=>?_);simp (disch:=omega) only [push_cast,↓Int.cast_ofNat_Int,simprocAttr];refine hK _ ?_;clear hK K
   refine yC rfl ?_;refine zC ?_;refine zB ?_;refine zA ?_;refine zJ (fun K hK=>?_);simp (disch:=omega) only [push_cast,↓Int.cast_ofNat_Int,simprocAttr];refine hK _ ?_;clear hK K
   refine zA ?_;exact ⟨i + 1,rfl,⟨hlt,ha2⟩,by omega⟩
  ·rw [hc] at hb;rw [bad (by simpa using hb.symm)]
   refine zE ?_;refine zJ (fun K hK=>?_);simp (disch:=omega) only [push_cast,↓Int.cast_ofNat_Int,simprocAttr];refine hK _ ?_;clear hK K
   refine yD rfl ?_;refine zE ?_;refine zJ (fun K hK=>?_);simp (disch:=omega) only [push_cast,↓Int.cast_ofNat_Int,simprocAttr];refine hK _ ?_;clear hK K
   refine zA ?_;refine zW ?_;refine zL ?_;refine zK ?_;refine zK ?_;refine zL ?_;refine zK ?_;simp only [yA,yM,yH,yE,aA,aC,yK,yJ,zS,zM,Nat.reduceEqDiff,reduceIte,reduceCtorEq];exact aJ rfl
 ·have hne:i=s.size:=by omega
  subst hne;rw [Lib.size_eq,List.take_length] at ha;rw [ha];refine zE ?_;refine zE ?_;refine zJ (fun K hK=>?_);simp (disch:=omega) only [push_cast,↓Int.cast_ofNat_Int,simprocAttr];refine hK _ ?_;clear hK K
  refine zA ?_;refine yC rfl ?_;refine zT ?_;refine zG ?_;refine zG ?_;refine zH ?_;refine zE ?_;refine zJ (fun K hK=>?_);simp (disch:=omega) only [push_cast,↓Int.cast_ofNat_Int,simprocAttr];refine hK _ ?_;clear hK K
  refine zA ?_;refine zW ?_;simp only [yA,yM,yH,yE,aA,aC,yK,yJ,zS,zM,Nat.reduceEqDiff,reduceIte,reduceCtorEq];exact aJ rfl
end Go.Proofs.YtbdomkfdkfdfgaaGreatDoor
