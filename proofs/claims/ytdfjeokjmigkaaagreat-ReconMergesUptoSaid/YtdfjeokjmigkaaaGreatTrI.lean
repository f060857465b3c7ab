/-
  The document's paths (tetherref03), walked.
-/
import Derived.Test.YtdfjeokjmigkaaaGreatRcv
set_option linter.unusedSimpArgs false
set_option linter.unusedVariables false
set_option maxRecDepth 20000
namespace Go.Tr
open Go Go.Eng
def gB (out:List ByteArray) (one:ByteArray) (l:List UInt8):List ByteArray:=(qEp (out.map (·.data.toList)) one.data.toList l).map mkB
theorem zS8 (s:ByteArray):gB [] { data:=#[] } s.data.toList=parts s:=by rw [gB,parts];exact congrArg _ (zGc _)
theorem zN0 (out:List ByteArray):(out.map (·.data.toList)).map mkB=out:=by
 rw [List.map_map]
 conv=>rhs;rw [← List.map_id out]
 exact List.map_congr_left fun s _=>qV s
theorem zS7 (out:List ByteArray) (one:ByteArray):gB out one []=out ++ [one]:=by
 rw [gB,qEp,List.map_append,zN0,List.map_singleton,qV]
theorem zF7 (out:List ByteArray) (one:ByteArray) (r:List UInt8):gB out one (47 :: r)=gB (out ++ [one]) { data:=#[] } r:=by
 rw [gB,qEp,if_pos rfl,gB,List.map_append];rfl
theorem zLo (out:List ByteArray) (one x:ByteArray) (c:UInt8) (r:List UInt8) (hc:c≠47) (hx:x.data.toList=[c]):gB out one (c :: r)=gB out (one ++ x) r:=by
 rw [gB,qEp,if_neg hc,gB]
 congr 2
 rw [ByteArray.data_append,Array.toList_append,hx]
theorem zQc (s:ByteArray) (i:Nat) (h:i < s.size):∃ c,s.data.toList[i]?=some c∧(s.extract i (i + 1)).data.toList=[c]∧s.data.toList.drop i=c :: s.data.toList.drop (i + 1):=by
 have hl:i < s.data.toList.length:=by rw [← Lib.size_eq];exact h
 refine ⟨s.data.toList[i],List.getElem?_eq_getElem hl,?_,List.drop_eq_getElem_cons hl⟩;rw [ByteArray.data_extract,Array.toList_extract,List.extract_eq_take_drop,List.drop_eq_getElem_cons hl,show i + 1 - i=1 by omega];rfl
end Go.Tr
namespace Go.Proofs.YtdfjeokjmigkaaaGreat
open Go Go.Eng Go.RowKit Go.Tr
set_option maxHeartbeats 4000000 in
theorem zHq (s:ByteArray) (hs:s.size≤1048576):HFun Tryz.prog 34 [.v (.string s)] (fun h st=>h=.own 0∧st=[(0,.sl true 9 1 (aK (parts s)))]):=by
 refine eF (N:=31) Tryz.func34 rfl Tryz.ntmps34 Tryz.results34 (by simp) ?_
 refine zE ?_;refine zJ (fun K hK=>?_);simp (disch:=omega) only [push_cast,↓Int.cast_ofNat_Int,simprocAttr];refine hK _ ?_
 refine zE ?_;refine zJ (fun K hK=>?_);simp (disch:=omega) only [push_cast,↓Int.cast_ofNat_Int,simprocAttr];refine hK _ ?_
 refine zE ?_;refine zJ (fun K hK=>?_);simp (disch:=omega) only [push_cast,↓Int.cast_ofNat_Int,simprocAttr];refine hK _ ?_
 refine zE ?_;refine zE ?_;refine zJ (fun K hK=>?_);simp (disch:=omega) only [push_cast,↓Int.cast_ofNat_Int,simprocAttr];refine hK _ ?_
 refine zA ?_;refine zD ?_;refine qE 3 9000 9 1 rfl (by simp only [oK,tJ,tK,gQ,fN,gG,fF,kG,gN,jD,gM,gK,iQ,gP,gJ,fM,iL,iN,iM,kF,kP,jC,Nat.reduceBEq,Nat.reduceEqDiff,reduceIte,cond_true,cond_false,List.map_cons,List.map_nil];exact rfl) ?_
 refine bR (fun x:Nat × List ByteArray × ByteArray=>⟨[(0,.v (.string s)),(3,.own 9000),(4,.v (.string x.2.2)),(5,.v (.int .i64 x.1))],[(9000,.sl true 9 1 (aK x.2.1))]⟩)
  (fun x=>x.1≤s.size∧x.2.2.size≤x.1∧x.2.1.length≤x.1∧gB x.2.1 x.2.2 (s.data.toList.drop x.1)=parts s) (fun x=>s.size - x.1) [0,3,4,5] [9000] (0,[],{ data:=#[] }) (by simp only [zZ,zR,zP,zQ,zN,zS,zM,zX,zU,Nat.reduceEqDiff,reduceIte];rfl) ⟨Nat.zero_le _,Nat.le_refl _,Nat.le_refl _,zS8 s⟩ ?_
 rintro ⟨i,out,one⟩ ⟨hi,h1,hl,hg⟩;simp only at hi h1 hl hg
 by_cases hlt:i < s.size
 ·obtain ⟨c,c1,c2,c3⟩:=zQc s i hlt
  have h47:=zUe s i hlt
  rw [c3] at hg;rw [c1] at h47;refine zE ?_;refine zE ?_;refine zJ (fun K hK=>?_);simp (disch:=omega) only [push_cast,↓Int.cast_ofNat_Int,simprocAttr];refine hK _ ?_
  refine zA ?_;refine yD rfl ?_;refine zC ?_;refine zE ?_
  by_cases hc:c=47
  ·subst hc;rw [zF7] at hg;rw [decide_eq_true rfl] at h47;refine zD ?_;refine zE ?_;refine zE ?_;refine zJ (fun K hK=>?_);simp (disch:=omega) only [push_cast,↓Int.cast_ofNat_Int,simprocAttr,h47];(repeat refine ⟨by first|omega|decide|((repeat' apply And.intro) <;> first|omega|decide),?_⟩);refine hK _ ?_
   refine zA ?_;refine yD rfl ?_;refine zE ?_;refine zJ (fun K hK=>?_);simp (disch:=omega) only [push_cast,↓Int.cast_ofNat_Int,simprocAttr,iH,aF];(repeat refine ⟨by first|omega|decide|((repeat' apply And.intro) <;> first|omega|decide),?_⟩);refine hK _ ?_
   refine zE ?_;refine zJ (fun K hK=>?_);simp (disch:=omega) only [push_cast,↓Int.cast_ofNat_Int,simprocAttr];refine hK _ ?_
   refine zA ?_;refine zT ?_;refine zG ?_;refine zH ?_;refine zA ?_;refine zJ (fun K hK=>?_);simp (disch:=omega) only [push_cast,↓Int.cast_ofNat_Int,simprocAttr];refine hK _ ?_
   refine zA ?_;exact ⟨(i + 1,out ++ [one],{ data:=#[] }),by simp only [zZ,zR,zP,zQ,zN,zS,zM,zX,zU,Nat.reduceEqDiff,reduceIte];rfl,⟨hlt,by dsimp only;exact Nat.zero_le _,by dsimp only;simp;omega,hg⟩,by dsimp only;omega⟩
  ·have hne:¬ some c=some 47:=fun e=>hc (Option.some.inj e)
   rw [decide_eq_false hne] at h47;rw [zLo out one _ c _ hc c2] at hg
   have hz:(s.extract i (i + 1)).size=1:=by rw [ByteArray.size_extract];omega
   have e1:((i:Int) + 1).toNat=i + 1:=by omega
   refine zD ?_;refine zE ?_;refine zE ?_;refine zJ (fun K hK=>?_);simp (disch:=omega) only [push_cast,↓Int.cast_ofNat_Int,simprocAttr,h47];(repeat refine ⟨by first|omega|decide|((repeat' apply And.intro) <;> first|omega|decide),?_⟩);refine hK _ ?_
   refine zA ?_;refine yC rfl ?_;refine zC ?_;refine zA ?_;refine zJ (fun K hK=>?_);simp (disch:=omega) only [push_cast,↓Int.cast_ofNat_Int,simprocAttr,e1,hz]
   refine ⟨by omega,by omega,?_⟩
   refine hK _ ?_;refine zB ?_;refine zA ?_;refine zJ (fun K hK=>?_);simp (disch:=omega) only [push_cast,↓Int.cast_ofNat_Int,simprocAttr];refine hK _ ?_
   refine zA ?_;refine ⟨(i + 1,out,one ++ s.extract i (i + 1)),by simp only [zZ,zR,zP,zQ,zN,zS,zM,zX,zU,Nat.reduceEqDiff,reduceIte];rfl,⟨hlt,?_,by dsimp only;omega,hg⟩,by dsimp only;omega⟩
   dsimp only;rw [ByteArray.size_append,hz];omega
 ·have hne:i=s.size:=by omega
  subst hne;rw [List.drop_of_length_le (by rw [← Lib.size_eq];omega),zS7] at hg
  rw [← hg];refine zE ?_;refine zE ?_;refine zJ (fun K hK=>?_);simp (disch:=omega) only [push_cast,↓Int.cast_ofNat_Int,simprocAttr];refine hK _ ?_
  refine zA ?_;refine yC rfl ?_;refine zT ?_;refine zG ?_;refine zG ?_;refine zH ?_;refine zE ?_;refine zJ (fun K hK=>?_);simp (disch:=omega) only [push_cast,↓Int.cast_ofNat_Int,simprocAttr,iH,aF];(repeat refine ⟨by first|omega|decide|((repeat' apply And.intro) <;> first|omega|decide),?_⟩);refine hK _ ?_
  refine zA ?_;refine zW ?_;simp only [yA,yM,yH,yE,aA,aC,yK,yJ,zS,zM,Nat.reduceEqDiff,reduceIte,reduceCtorEq];exact lW rfl (iU _) ⟨rfl,rfl⟩
theorem zD5 (s:ByteArray) (h1:1≤s.size) (h2:s.size≤12):jZ s=s.data.toList.all okC:=by
 rw [jZ,decide_eq_true h1,decide_eq_true h2];rfl
set_option maxHeartbeats 8000000 in
theorem zM7 (s:ByteArray) (hs:s.size≤1048576):HFun Tryz.prog 35 [.v (.string s)] (fun h st=>h=.v (.bool (jZ s))):=by
 refine eF (N:=41) Tryz.func35 rfl Tryz.ntmps35 Tryz.results35 (by simp) ?_
 refine zE ?_;refine zJ (fun K hK=>?_);simp (disch:=omega) only [push_cast,↓Int.cast_ofNat_Int,simprocAttr];refine hK _ ?_
 by_cases h1:s.size < 1
 ·have e:jZ s=false:=by rw [jZ,decide_eq_false (by omega)];rfl
  rw [e];refine zE ?_;refine zE ?_;refine zJ (fun K hK=>?_);simp (disch:=omega) only [push_cast,↓Int.cast_ofNat_Int,simprocAttr];refine hK _ ?_
  refine yD rfl ?_;refine zE ?_;refine zJ (fun K hK=>?_);simp (disch:=omega) only [push_cast,↓Int.cast_ofNat_Int,simprocAttr];refine hK _ ?_
  refine zA ?_;refine zW ?_;refine zK ?_;simp only [yA,yM,yH,yE,aA,aC,yK,yJ,zS,zM,Nat.reduceEqDiff,reduceIte,reduceCtorEq];exact aL rfl
 by_cases h2:12 < s.size
 ·have e:jZ s=false:=by rw [jZ,decide_eq_true (by omega),decide_eq_false (by omega)];rfl
  rw [e];refine zE ?_;refine zE ?_;refine zJ (fun K hK=>?_);simp (disch:=omega) only [push_cast,↓Int.cast_ofNat_Int,simprocAttr];refine hK _ ?_
  refine yD rfl ?_;refine zE ?_;refine zJ (fun K hK=>?_);simp (disch:=omega) only [push_cast,↓Int.cast_ofNat_Int,simprocAttr];refine hK _ ?_
  refine zA ?_;refine zW ?_;refine zK ?_;simp only [yA,yM,yH,yE,aA,aC,yK,yJ,zS,zM,Nat.reduceEqDiff,reduceIte,reduceCtorEq];exact aL rfl
 rw [zD5 s (by omega) (by omega)]
 refine zE ?_;refine zE ?_;refine zJ (fun K hK=>?_);simp (disch:=omega) only [push_cast,↓Int.cast_ofNat_Int,simprocAttr];refine hK _ ?_
 refine yC rfl ?_;refine zC ?_;refine zE ?_;refine zE ?_;refine zJ (fun K hK=>?_);simp (disch:=omega) only [push_cast,↓Int.cast_ofNat_Int,simprocAttr];refine hK _ ?_
 refine zA ?_;refine zD ?_;refine bR (fun i:Nat=>⟨[(0,.v (.string s)),(3,.v (.int .i64 i))],[]⟩) (fun i=>i≤s.size∧(s.data.toList.take i).all okC=true) (fun i=>s.size - i) [0,3] [] 0 rfl ⟨Nat.zero_le _,rfl⟩ ?_
 rintro i ⟨hi,ha⟩
 by_cases hlt:i < s.size
 ·have hll:i < s.data.toList.length:=by rw [← Lib.size_eq];exact hlt
  obtain ⟨r,hr,hrr⟩:∃ r:Nat,dX s i=(r:Int)∧s.data.toList[i].toNat=r:=by
   refine ⟨_,?_,rfl⟩
   have h':i < s.data.size:=hlt
   unfold dX;rw [Array.getD_eq_getD_getElem?,Array.getElem?_eq_getElem h'];rfl
  have hb:=zQr s.data.toList[i]
  rw [hrr] at hb;refine zE ?_;refine zE ?_;refine zJ (fun K hK=>?_);simp (disch:=omega) only [push_cast,↓Int.cast_ofNat_Int,simprocAttr];refine hK _ ?_
  refine zA ?_;refine yD rfl ?_;refine zC ?_;refine zE ?_;refine zD ?_;refine zE ?_;refine zJ (fun K hK=>?_);simp (disch:=omega) only [push_cast,↓Int.cast_ofNat_Int,simprocAttr,hr];(repeat refine ⟨by first|omega|decide|((repeat' apply And.intro) <;> first|omega|decide),?_⟩);refine hK _ ?_
  have good:okC s.data.toList[i]=true→(s.data.toList.take (i + 1)).all okC=true:=fun h=>by
   rw [List.take_succ_eq_append_getElem hll,List.all_append,ha,List.all_cons,h];rfl
  have bad:okC s.data.toList[i]=false→s.data.toList.all okC=false:=fun h=>by
   rw [Bool.eq_false_iff];intro hall;rw [List.all_eq_true.1 hall _ (List.getElem_mem hll)] at h;cases h
  have cases7:(r < 48∧qN0 r=true)∨(48≤r∧r≤57∧qN0 r=false)∨(57 < r∧r < 95∧qN0 r=true)∨(r=95∧qN0 r=false)∨(r=96∧qN0 r=true)∨(97≤r∧r≤122∧qN0 r=false)∨(122 < r∧qN0 r=true):=by
   unfold qN0;simp;omega
  rcases cases7 with ⟨c1,hc⟩|⟨c1,c2,hc⟩|⟨c1,c2,hc⟩|⟨c1,hc⟩|⟨c1,hc⟩|⟨c1,c2,hc⟩|⟨c1,hc⟩
  ·rw [hc] at hb;rw [bad (by simpa using hb.symm)]
   refine zE ?_;refine zJ (fun K hK=>?_);simp (disch:=omega) only [push_cast,↓Int.cast_ofNat_Int,simprocAttr];refine hK _ ?_
   refine yD rfl ?_;refine zE ?_;refine zJ (fun K hK=>?_);simp (disch:=omega) only [push_cast,↓Int.cast_ofNat_Int,simprocAttr];refine hK _ ?_
   refine zA ?_;refine zW ?_;refine zL ?_;refine zK ?_;refine zK ?_;refine zL ?_;refine zK ?_;simp only [yA,yM,yH,yE,aA,aC,yK,yJ,zS,zM,Nat.reduceEqDiff,reduceIte,reduceCtorEq];exact aL rfl
  ·rw [hc] at hb
   have ha2:=good (by simpa using hb.symm)
   refine zE ?_;refine zJ (fun K hK=>?_);simp (disch:=omega) only [push_cast,↓Int.cast_ofNat_Int,simprocAttr];refine hK _ ?_
   refine yC rfl ?_;refine zC ?_;refine zB ?_;refine zA ?_;refine zJ (fun K hK=>?_);simp (disch:=omega) only [push_cast,↓Int.cast_ofNat_Int,simprocAttr];refine hK _ ?_
   refine zA ?_;exact ⟨i + 1,rfl,⟨hlt,ha2⟩,by omega⟩
  ·rw [hc] at hb;rw [bad (by simpa using hb.symm)]
   refine zE ?_;refine zJ (fun K hK=>?_);simp (disch:=omega) only [push_cast,↓Int.cast_ofNat_Int,simprocAttr];refine hK _ ?_
   refine yD rfl ?_;refine zE ?_;refine zJ (fun K hK=>?_);simp (disch:=omega) only [push_cast,↓Int.cast_ofNat_Int,simprocAttr];refine hK _ ?_
   refine zA ?_;refine zW ?_;refine zL ?_;refine zK ?_;refine zK ?_;refine zL ?_;refine zK ?_;simp only [yA,yM,yH,yE,aA,aC,yK,yJ,zS,zM,Nat.reduceEqDiff,reduceIte,reduceCtorEq];exact aL rfl
  ·rw [hc] at hb
   have ha2:=good (by simpa using hb.symm)
   refine zE ?_;refine zJ (fun K hK=>?_);simp (disch:=omega) only [push_cast,↓Int.cast_ofNat_Int,simprocAttr];refine hK _ ?_
   refine yC rfl ?_;refine zC ?_;refine zB ?_;refine zA ?_;refine zJ (fun K hK=>?_);simp (disch:=omega) only [push_cast,↓Int.cast_ofNat_Int,simprocAttr];refine hK _ ?_
   refine zA ?_;exact ⟨i + 1,rfl,⟨hlt,ha2⟩,by omega⟩
  ·rw [hc] at hb;rw [bad (by simpa using hb.symm)]
   refine zE ?_;refine zJ (fun K hK=>?_);simp (disch:=omega) only [push_cast,↓Int.cast_ofNat_Int,simprocAttr];refine hK _ ?_
   refine yD rfl ?_;refine zE ?_;refine zJ (fun K hK=>?_);simp (disch:=omega) only [push_cast,↓Int.cast_ofNat_Int,simprocAttr];refine hK _ ?_
   refine zA ?_;refine zW ?_;refine zL ?_;refine zK ?_;refine zK ?_;refine zL ?_;refine zK ?_;simp only [yA,yM,yH,yE,aA,aC,yK,yJ,zS,zM,Nat.reduceEqDiff,reduceIte,reduceCtorEq];exact aL rfl
  ·rw [hc] at hb
   have ha2:=good (by simpa using hb.symm)
   refine zE ?_;refine zJ (fun K hK=>?_);simp (disch:=omega) only [push_cast,↓Int.cast_ofNat_Int,simprocAttr];refine hK _ ?_
   refine yC rfl ?_;refine zC ?_;refine zB ?_;refine zA ?_;refine zJ (fun K hK=>?_);simp (disch:=omega) only [push_cast,↓Int.cast_ofNat_Int,simprocAttr];refine hK _ ?_
   refine zA ?_;exact ⟨i + 1,rfl,⟨hlt,ha2⟩,by omega⟩
  ·rw [hc] at hb;rw [bad (by simpa using hb.symm)]
   refine zE ?_;refine zJ (fun K hK=>?_);simp (disch:=omega) only [push_cast,↓Int.cast_ofNat_Int,simprocAttr];refine hK _ ?_
   refine yD rfl ?_;refine zE ?_;refine zJ (fun K hK=>?_);simp (disch:=omega) only [push_cast,↓Int.cast_ofNat_Int,simprocAttr];refine hK _ ?_
   refine zA ?_;refine zW ?_;refine zL ?_;refine zK ?_;refine zK ?_;refine zL ?_;refine zK ?_;simp only [yA,yM,yH,yE,aA,aC,yK,yJ,zS,zM,Nat.reduceEqDiff,reduceIte,reduceCtorEq];exact aL rfl
 ·have hne:i=s.size:=by omega
  subst hne;rw [Lib.size_eq,List.take_length] at ha;rw [ha];refine zE ?_;refine zE ?_;refine zJ (fun K hK=>?_);simp (disch:=omega) only [push_cast,↓Int.cast_ofNat_Int,simprocAttr];refine hK _ ?_
  refine zA ?_;refine yC rfl ?_;refine zT ?_;refine zG ?_;refine zG ?_;refine zH ?_;refine zE ?_;refine zJ (fun K hK=>?_);simp (disch:=omega) only [push_cast,↓Int.cast_ofNat_Int,simprocAttr];refine hK _ ?_
  refine zA ?_;refine zW ?_;simp only [yA,yM,yH,yE,aA,aC,yK,yJ,zS,zM,Nat.reduceEqDiff,reduceIte,reduceCtorEq];exact aL rfl
end Go.Proofs.YtdfjeokjmigkaaaGreat
