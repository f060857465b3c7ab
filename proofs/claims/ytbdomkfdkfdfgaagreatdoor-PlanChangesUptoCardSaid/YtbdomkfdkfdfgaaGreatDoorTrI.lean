/-
  The document's paths (tetherref03), walked.
-/
import Derived.Test.YtbdomkfdkfdfgaaGreatDoorTrH
set_option linter.unusedSimpArgs false
set_option linter.unusedVariables false
set_option maxRecDepth 20000
namespace Go.Tr
open Go Go.Eng
def gB (out:List ByteArray) (one:ByteArray) (l:List UInt8):List ByteArray:=(qAe (out.map (·.data.toList)) one.data.toList l).map mkB
theorem zRf (s:ByteArray):gB [] { data:=#[] } s.data.toList=parts s:=by rw [gB,parts];exact congrArg _ (zF2 _)
theorem zMv (out:List ByteArray):(out.map (·.data.toList)).map mkB=out:=by
 rw [List.map_map]
 conv=>rhs;rw [← List.map_id out]
 exact List.map_congr_left fun s _=>mB s
theorem zRe (out:List ByteArray) (one:ByteArray):gB out one []=out ++ [one]:=by
 rw [gB,qAe,List.map_append,zMv,List.map_singleton,mB]
theorem zFy (out:List ByteArray) (one:ByteArray) (r:List UInt8):gB out one (47 :: r)=gB (out ++ [one]) { data:=#[] } r:=by
 rw [gB,qAe,if_pos rfl,gB,List.map_append];rfl
theorem zJ3 (out:List ByteArray) (one x:ByteArray) (c:UInt8) (r:List UInt8) (hc:c≠47) (hx:x.data.toList=[c]):gB out one (c :: r)=gB out (one ++ x) r:=by
 rw [gB,qAe,if_neg hc,gB]
 congr 2
 rw [ByteArray.data_append,Array.toList_append,hx]
theorem zM7 (s:ByteArray) (i:Nat) (h:i < s.size):∃ c,s.data.toList[i]?=some c∧(s.extract i (i + 1)).data.toList=[c]∧s.data.toList.drop i=c :: s.data.toList.drop (i + 1):=by
 have hl:i < s.data.toList.length:=by rw [← Lib.size_eq];exact h
 refine ⟨s.data.toList[i],List.getElem?_eq_getElem hl,?_,List.drop_eq_getElem_cons hl⟩;rw [ByteArray.data_extract,Array.toList_extract,List.extract_eq_take_drop,List.drop_eq_getElem_cons hl,show i + 1 - i=1 by omega];rfl
end Go.Tr
namespace Go.Proofs.YtbdomkfdkfdfgaaGreatDoor
open Go Go.Eng Go.RowKit Go.Tr
set_option maxHeartbeats 4000000 in
theorem zGx (s:ByteArray) (hs:s.size≤1048576):HFun Tryz.prog 60 [.v (.string s)] (fun h st=>h=.own 0∧st=[(0,.sl true 9 1 (cX (parts s)))]):=by
 refine fJ (N:=31) Tryz.func60 rfl Tryz.ntmps60 Tryz.results60 (by simp) ?_
 refine zE ?_;refine zJ (fun K hK=>?_);simp (disch:=omega) only [push_cast,↓Int.cast_ofNat_Int,simprocAttr];refine hK _ ?_;clear hK K
 refine zE ?_;refine zJ (fun K hK=>?_);simp (disch:=omega) only [push_cast,↓Int.cast_ofNat_Int,simprocAttr];refine hK _ ?_;clear hK K
 refine zE ?_;refine zJ (fun K hK=>?_);simp (disch:=omega) only [push_cast,↓Int.cast_ofNat_Int,simprocAttr];refine hK _ ?_;clear hK K
 refine zE ?_;refine zE ?_;refine zJ (fun K hK=>?_);simp (disch:=omega) only [push_cast,↓Int.cast_ofNat_Int,simprocAttr];refine hK _ ?_;clear hK K
 refine zA ?_;refine zD ?_;refine qR 3 9000 9 1 rfl (by simp only [lR,qS,qT,fE,eE,eW,dZ,iM,fC,gV,fB,fA,gC,fD,eZ,eD,fX,fZ,fY,iL,iZ,gU,Nat.reduceBEq,Nat.reduceEqDiff,reduceIte,cond_true,cond_false,List.map_cons,List.map_nil];exact rfl) ?_
 refine cH (fun x:Nat × List ByteArray × ByteArray=>⟨[(0,.v (.string s)),(3,.own 9000),(4,.v (.string x.2.2)),(5,.v (.int .i64 x.1))],[(9000,.sl true 9 1 (cX x.2.1))]⟩)
  (fun x=>x.1≤s.size∧x.2.2.size≤x.1∧x.2.1.length≤x.1∧gB x.2.1 x.2.2 (s.data.toList.drop x.1)=parts s) (fun x=>s.size - x.1) [0,3,4,5] [9000] (0,[],{ data:=#[] }) (by simp only [zZ,zR,zP,zQ,zN,zS,zM,zX,zU,Nat.reduceEqDiff,reduceIte];rfl) ⟨Nat.zero_le _,Nat.le_refl _,Nat.le_refl _,zRf s⟩ ?_
 rintro ⟨i,out,one⟩ ⟨hi,h1,hl,hg⟩;simp only at hi h1 hl hg
 by_cases hlt:i < s.size
 ·obtain ⟨c,c1,c2,c3⟩:=zM7 s i hlt
  have h47:=zRs s i hlt
  rw [c3] at hg;rw [c1] at h47;refine zE ?_;refine zE ?_;refine zJ (fun K hK=>?_);simp (disch:=omega) only [push_cast,↓Int.cast_ofNat_Int,simprocAttr];refine hK _ ?_;clear hK K
  refine zA ?_;refine yD rfl ?_;refine zC ?_;refine zE ?_
  by_cases hc:c=47
  ·subst hc;rw [zFy] at hg;rw [decide_eq_true rfl] at h47;refine zD ?_;refine zE ?_;refine zE ?_;refine zJ (fun K hK=>?_);simp (disch:=omega) only [push_cast,↓Int.cast_ofNat_Int,simprocAttr,h47];(repeat refine ⟨by first|omega|decide|((repeat' apply And.intro) <;> first|omega|decide),?_⟩);refine hK _ ?_;clear hK K
   refine zA ?_;refine yD rfl ?_;refine zE ?_;refine zJ (fun K hK=>?_);simp (disch:=omega) only [push_cast,↓Int.cast_ofNat_Int,simprocAttr,kR,cY];(repeat refine ⟨by first|omega|decide|((repeat' apply And.intro) <;> first|omega|decide),?_⟩);refine hK _ ?_;clear hK K
   refine zE ?_;refine zJ (fun K hK=>?_);simp (disch:=omega) only [push_cast,↓Int.cast_ofNat_Int,simprocAttr];refine hK _ ?_;clear hK K
   refine zA ?_;refine zT ?_;refine zG ?_;refine zH ?_;refine zA ?_;refine zJ (fun K hK=>?_);simp (disch:=omega) only [push_cast,↓Int.cast_ofNat_Int,simprocAttr];refine hK _ ?_;clear hK K
   refine zA ?_;exact ⟨(i + 1,out ++ [one],{ data:=#[] }),by simp only [zZ,zR,zP,zQ,zN,zS,zM,zX,zU,Nat.reduceEqDiff,reduceIte];rfl,⟨hlt,by dsimp only;exact Nat.zero_le _,by dsimp only;simp;omega,hg⟩,by dsimp only;omega⟩
  ·have hne:¬ some c=some 47:=fun e=>hc (Option.some.inj e)
   rw [decide_eq_false hne] at h47;rw [zJ3 out one _ c _ hc c2] at hg
   have hz:(s.extract i (i + 1)).size=1:=by rw [ByteArray.size_extract];omega
   have e1:((i:Int) + 1).toNat=i + 1:=by omega
   refine zD ?_;refine zE ?_;refine zE ?_;refine zJ (fun K hK=>?_);simp (disch:=omega) only [push_cast,↓Int.cast_ofNat_Int,simprocAttr,h47];(repeat refine ⟨by first|omega|decide|((repeat' apply And.intro) <;> first|omega|decide),?_⟩);refine hK _ ?_;clear hK K
   refine zA ?_;refine yC rfl ?_;refine zC ?_;refine zA ?_;refine zJ (fun K hK=>?_);simp (disch:=omega) only [push_cast,↓Int.cast_ofNat_Int,simprocAttr,e1,hz]
   refine ⟨by omega,by omega,?_⟩
   refine hK _ ?_;clear hK K;refine zB ?_;refine zA ?_;refine zJ (fun K hK=>?_);simp (disch:=omega) only [push_cast,↓Int.cast_ofNat_Int,simprocAttr];refine hK _ ?_;clear hK K
   refine zA ?_;refine ⟨(i + 1,out,one ++ s.extract i (i + 1)),by simp only [zZ,zR,zP,zQ,zN,zS,zM,zX,zU,Nat.reduceEqDiff,reduceIte];rfl,⟨hlt,?_,by dsimp only;omega,hg⟩,by dsimp only;omega⟩
   dsimp only;rw [ByteArray.size_append,hz];omega
 ·have hne:i=s.size:=by omega
  subst hne;rw [List.drop_of_length_le (by rw [← Lib.size_eq];omega),zRe] at hg
  rw [← hg];refine zE ?_;refine zE ?_;refine zJ (fun K hK=>?_);simp (disch:=omega) only [push_cast,↓Int.cast_ofNat_Int,simprocAttr];refine hK _ ?_;clear hK K
  refine zA ?_;refine yC rfl ?_;refine zT ?_;refine zG ?_;refine zG ?_;refine zH ?_;refine zE ?_;refine zJ (fun K hK=>?_);simp (disch:=omega) only [push_cast,↓Int.cast_ofNat_Int,simprocAttr,kR,cY];(repeat refine ⟨by first|omega|decide|((repeat' apply And.intro) <;> first|omega|decide),?_⟩);refine hK _ ?_;clear hK K
  refine zA ?_;refine zW ?_;simp only [yA,yM,yH,yE,aA,aD,yK,yJ,zS,zM,Nat.reduceEqDiff,reduceIte,reduceCtorEq];exact rC rfl (tG _) ⟨rfl,rfl⟩
theorem zFh (s:ByteArray) (h1:1≤s.size) (h2:s.size≤12):eQ s=s.data.toList.all okC:=by
 rw [eQ,decide_eq_true h1,decide_eq_true h2];rfl
set_option maxHeartbeats 8000000 in
theorem zMi (s:ByteArray) (hs:s.size≤1048576):HFun Tryz.prog 61 [.v (.string s)] (fun h st=>h=.v (.bool (eQ s))):=by
 refine fJ (N:=41) Tryz.func61 rfl Tryz.ntmps61 Tryz.results61 (by simp) ?_
 refine zE ?_;refine zJ (fun K hK=>?_);simp (disch:=omega) only [push_cast,↓Int.cast_ofNat_Int,simprocAttr];refine hK _ ?_;clear hK K
 by_cases h1:s.size < 1
 ·have e:eQ s=false:=by rw [eQ,decide_eq_false (by omega)];rfl
  rw [e];refine zE ?_;refine zE ?_;refine zJ (fun K hK=>?_);simp (disch:=omega) only [push_cast,↓Int.cast_ofNat_Int,simprocAttr];refine hK _ ?_;clear hK K
  refine yD rfl ?_;refine zE ?_;refine zJ (fun K hK=>?_);simp (disch:=omega) only [push_cast,↓Int.cast_ofNat_Int,simprocAttr];refine hK _ ?_;clear hK K
  refine zA ?_;refine zW ?_;refine zK ?_;simp only [yA,yM,yH,yE,aA,aD,yK,yJ,zS,zM,Nat.reduceEqDiff,reduceIte,reduceCtorEq];exact aM rfl
 by_cases h2:12 < s.size
 ·have e:eQ s=false:=by rw [eQ,decide_eq_true (by omega),decide_eq_false (by omega)];rfl
  rw [e];refine zE ?_;refine zE ?_;refine zJ (fun K hK=>?_);simp (disch:=omega) only [push_cast,↓Int.cast_ofNat_Int,simprocAttr];refine hK _ ?_;clear hK K
  refine yD rfl ?_;refine zE ?_;refine zJ (fun K hK=>?_);simp (disch:=omega) only [push_cast,↓Int.cast_ofNat_Int,simprocAttr];refine hK _ ?_;clear hK K
  refine zA ?_;refine zW ?_;refine zK ?_;simp only [yA,yM,yH,yE,aA,aD,yK,yJ,zS,zM,Nat.reduceEqDiff,reduceIte,reduceCtorEq];exact aM rfl
 rw [zFh s (by omega) (by omega)]
 refine zE ?_;refine zE ?_;refine zJ (fun K hK=>?_);simp (disch:=omega) only [push_cast,↓Int.cast_ofNat_Int,simprocAttr];refine hK _ ?_;clear hK K
 refine yC rfl ?_;refine zC ?_;refine zE ?_;refine zE ?_;refine zJ (fun K hK=>?_);simp (disch:=omega) only [push_cast,↓Int.cast_ofNat_Int,simprocAttr];refine hK _ ?_;clear hK K
 refine zA ?_;refine zD ?_;refine cH (fun i:Nat=>⟨[(0,.v (.string s)),(3,.v (.int .i64 i))],[]⟩) (fun i=>i≤s.size∧(s.data.toList.take i).all okC=true) (fun i=>s.size - i) [0,3] [] 0 rfl ⟨Nat.zero_le _,rfl⟩ ?_
 rintro i ⟨hi,ha⟩
 by_cases hlt:i < s.size
 ·have hll:i < s.data.toList.length:=by rw [← Lib.size_eq];exact hlt
  obtain ⟨r,hr,hrr⟩:∃ r:Nat,wF s i=(r:Int)∧s.data.toList[i].toNat=r:=by
   refine ⟨_,?_,rfl⟩
   have h':i < s.data.size:=hlt
   unfold wF;rw [Array.getD_eq_getD_getElem?,Array.getElem?_eq_getElem h'];rfl
  have hb:=zD9 s.data.toList[i]
  rw [hrr] at hb;refine zE ?_;refine zE ?_;refine zJ (fun K hK=>?_);simp (disch:=omega) only [push_cast,↓Int.cast_ofNat_Int,simprocAttr];refine hK _ ?_;clear hK K
  refine zA ?_;refine yD rfl ?_;refine zC ?_;refine zE ?_;refine zD ?_;refine zE ?_;refine zJ (fun K hK=>?_);simp (disch:=omega) only [push_cast,↓Int.cast_ofNat_Int,simprocAttr,hr];(repeat refine ⟨by first|omega|decide|((repeat' apply And.intro) <;> first|omega|decide),?_⟩);refine hK _ ?_;clear hK K
  have good:okC s.data.toList[i]=true→(s.data.toList.take (i + 1)).all okC=true:=fun h=>by
   rw [List.take_succ_eq_append_getElem hll,List.all_append,ha,List.all_cons,h];rfl
  have bad:okC s.data.toList[i]=false→s.data.toList.all okC=false:=fun h=>by
   rw [Bool.eq_false_iff];intro hall;rw [List.all_eq_true.1 hall _ (List.getElem_mem hll)] at h;cases h
  have cases7:(r < 48∧nN r=true)∨(48≤r∧r≤57∧nN r=false)∨(57 < r∧r < 95∧nN r=true)∨(r=95∧nN r=false)∨(r=96∧nN r=true)∨(97≤r∧r≤122∧nN r=false)∨(122 < r∧nN r=true):=by
   unfold nN;simp;omega
  rcases cases7 with ⟨c1,hc⟩|⟨c1,c2,hc⟩|⟨c1,c2,hc⟩|⟨c1,hc⟩|⟨c1,hc⟩|⟨c1,c2,hc⟩|⟨c1,hc⟩
  ·rw [hc] at hb;rw [bad (by simpa using hb.symm)]
   refine zE ?_;refine zJ (fun K hK=>?_);simp (disch:=omega) only [push_cast,↓Int.cast_ofNat_Int,simprocAttr];refine hK _ ?_;clear hK K
   refine yD rfl ?_;refine zE ?_;refine zJ (fun K hK=>?_);simp (disch:=omega) only [push_cast,↓Int.cast_ofNat_Int,simprocAttr];refine hK _ ?_;clear hK K
   refine zA ?_;refine zW ?_;refine zL ?_;refine zK ?_;refine zK ?_;refine zL ?_;refine zK ?_;simp only [yA,yM,yH,yE,aA,aD,yK,yJ,zS,zM,Nat.reduceEqDiff,reduceIte,reduceCtorEq];exact aM rfl
  ·rw [hc] at hb
   have ha2:=good (by simpa using hb.symm)
   refine zE ?_;refine zJ (fun K hK=>?_);simp (disch:=omega) only [push_cast,↓Int.cast_ofNat_Int,simprocAttr];refine hK _ ?_;clear hK K
   refine yC rfl ?_;refine zC ?_;refine zB ?_;refine zA ?_;refine zJ (fun K hK=>?_);simp (disch:=omega) only [push_cast,↓Int.cast_ofNat_Int,simprocAttr];refine hK _ ?_;clear hK K
   refine zA ?_;exact ⟨i + 1,rfl,⟨hlt,ha2⟩,by omega⟩
  ·rw [hc] at hb;rw [bad (by simpa using hb.symm)]
   refine zE ?_;refine zJ (fun K hK=>?_);simp (disch:=omega) only [push_cast,↓Int.cast_ofNat_Int,simprocAttr];refine hK _ ?_;clear hK K
   refine yD rfl ?_;refine zE ?_;refine zJ (fun K hK=>?_);simp (disch:=omega) only [push_cast,↓Int.cast_ofNat_Int,simprocAttr];refine hK _ ?_;clear hK K
   refine zA ?_;refine zW ?_;refine zL ?_;refine zK ?_;refine zK ?_;refine zL ?_;refine zK ?_;simp only [yA,yM,yH,yE,aA,aD,yK,yJ,zS,zM,Nat.reduceEqDiff,reduceIte,reduceCtorEq];exact aM rfl
  ·rw [hc] at hb
   have ha2:=good (by simpa using hb.symm)
   refine zE ?_;refine zJ (fun K hK=>?_);simp (disch:=omega) only [push_cast,↓Int.cast_ofNat_Int,simprocAttr];refine hK _ ?_;clear hK K
   refine yC rfl ?_;refine zC ?_;refine zB ?_;refine zA ?_;refine zJ (fun K hK=>?_);simp (disch:=omega) only [push_cast,↓Int.cast_ofNat_Int,simprocAttr];refine hK _ ?_;clear hK K
   refine zA ?_;exact ⟨i + 1,rfl,⟨hlt,ha2⟩,by omega⟩
  ·rw [hc] at hb;rw [bad (by simpa using hb.symm)]
   refine zE ?_;refine zJ (fun K hK=>?_);simp (disch:=omega) only [push_cast,↓Int.cast_ofNat_Int,simprocAttr];refine hK _ ?_;clear hK K
   refine yD rfl ?_;refine zE ?_;refine zJ (fun K hK=>?_);simp (disch:=omega) only [push_cast,↓Int.cast_ofNat_Int,simprocAttr];refine hK _ ?_;clear hK K
   refine zA ?_;refine zW ?_;refine zL ?_;refine zK ?_;refine zK ?_;refine zL ?_;refine zK ?_;simp only [yA,yM,yH,yE,aA,aD,yK,yJ,zS,zM,Nat.reduceEqDiff,reduceIte,reduceCtorEq];exact aM rfl
  ·rw [hc] at hb
   have ha2:=good (by simpa using hb.symm)
   refine zE ?_;refine zJ (fun K hK=>?_);simp (disch:=omega) only [push_cast,↓Int.cast_ofNat_Int,simprocAttr];refine hK _ ?_;clear hK K
   refine yC rfl ?_;refine zC ?_;refine zB ?_;refine zA ?_;refine zJ (fun K hK=>?_);simp (disch:=omega) only [push_cast,↓Int.cast_ofNat_Int,simprocAttr];refine hK _ ?_;clear hK K
   refine zA ?_;exact ⟨i + 1,rfl,⟨hlt,ha2⟩,by omega⟩
  ·rw [hc] at hb;rw [bad (by simpa using hb.symm)]
   refine zE ?_;refine zJ (fun K hK=>?_);simp (disch:=omega) only [push_cast,↓Int.cast_ofNat_Int,simprocAttr];refine hK _ ?_;clear hK K
   refine yD rfl ?_;refine zE ?_;refine zJ (fun K hK=>?_);simp (disch:=omega) only [push_cast,↓Int.cast_ofNat_Int,simprocAttr];refine hK _ ?_;clear hK K
   refine zA ?_;refine zW ?_;refine zL ?_;refine zK ?_;refine zK ?_;refine zL ?_;refine zK ?_;simp only [yA,yM,yH,yE,aA,aD,yK,yJ,zS,zM,Nat.reduceEqDiff,reduceIte,reduceCtorEq];exact aM rfl
 ·have hne:i=s.size:=by omega
  subst hne;rw [Lib.size_eq,List.take_length] at ha;rw [ha];refine zE ?_;refine zE ?_;refine zJ (fun K hK=>?_);simp (disch:=omega) only [push_cast,↓Int.cast_ofNat_Int,simprocAttr];refine hK _ ?_;clear hK K
  refine zA ?_;refine yC rfl ?_;refine zT ?_;refine zG ?_;refine zG ?_;refine zH ?_;refine zE ?_;refine zJ (fun K hK=>?_);simp (disch:=omega) only [push_cast,↓Int.cast_ofNat_Int,simprocAttr];refine hK _ ?_;clear hK K
  refine zA ?_;refine zW ?_;simp only [yA,yM,yH,yE,aA,aD,yK,yJ,zS,zM,Nat.reduceEqDiff,reduceIte,reduceCtorEq];exact aM rfl
end Go.Proofs.YtbdomkfdkfdfgaaGreatDoor
