/-
  The document's paths (tetherref03), walked.
-/
import Derived.Test.YtdmnijnogabchaaDoorTrH
set_option linter.unusedSimpArgs false
set_option linter.unusedVariables false
set_option maxRecDepth 20000
namespace Go.Tr
open Go Go.Eng
def gB (out:List ByteArray) (one:ByteArray) (l:List UInt8):List ByteArray:=(uG (out.map (·.data.toList)) one.data.toList l).map mkB
theorem zJf (s:ByteArray):gB [] { data:=#[] } s.data.toList=parts s:=by rw [gB,parts];exact congrArg _ (zBp _)
theorem zGh (out:List ByteArray):(out.map (·.data.toList)).map mkB=out:=by
 rw [List.map_map]
 conv=>rhs;rw [← List.map_id out]
 exact List.map_congr_left fun s _=>gP s
theorem zJe (out:List ByteArray) (one:ByteArray):gB out one []=out ++ [one]:=by
 rw [gB,uG,List.map_append,zGh,List.map_singleton,gP]
theorem zBg (out:List ByteArray) (one:ByteArray) (r:List UInt8):gB out one (47 :: r)=gB (out ++ [one]) { data:=#[] } r:=by
 rw [gB,uG,if_pos rfl,gB,List.map_append];rfl
theorem zD3 (out:List ByteArray) (one x:ByteArray) (c:UInt8) (r:List UInt8) (hc:c≠47) (hx:x.data.toList=[c]):gB out one (c :: r)=gB out (one ++ x) r:=by
 rw [gB,uG,if_neg hc,gB]
 congr 2
 rw [ByteArray.data_append,Array.toList_append,hx]
theorem zGq (s:ByteArray) (i:Nat) (h:i < s.size):∃ c,s.data.toList[i]?=some c∧(s.extract i (i + 1)).data.toList=[c]∧s.data.toList.drop i=c :: s.data.toList.drop (i + 1):=by
 have hl:i < s.data.toList.length:=by rw [← Lib.size_eq];exact h
 refine ⟨s.data.toList[i],List.getElem?_eq_getElem hl,?_,List.drop_eq_getElem_cons hl⟩;rw [ByteArray.data_extract,Array.toList_extract,List.extract_eq_take_drop,List.drop_eq_getElem_cons hl,show i + 1 - i=1 by omega];rfl
end Go.Tr
namespace Go.Proofs.YtdmnijnogabchaaDoor
open Go Go.Eng Go.RowKit Go.Tr
set_option maxHeartbeats 4000000 in
theorem zCd (s:ByteArray) (hs:s.size≤1048576):HFun Tryd.prog 18 [.v (.string s)] (fun h st=>h=.own 0∧st=[(0,.sl true 9 1 (bZ (parts s)))]):=by
 refine kG (N:=31) Tryd.func18 rfl Tryd.ntmps18 Tryd.results18 (by simp) ?_
 refine zE ?_;refine zJ (fun K hK=>?_);simp (disch:=omega) only [push_cast,↓iC9,simprocAttr];refine hK _ ?_;clear hK K
 refine zE ?_;refine zJ (fun K hK=>?_);simp (disch:=omega) only [push_cast,↓iC9,simprocAttr];refine hK _ ?_;clear hK K
 refine zE ?_;refine zJ (fun K hK=>?_);simp (disch:=omega) only [push_cast,↓iC9,simprocAttr];refine hK _ ?_;clear hK K
 refine zE ?_;refine zE ?_;refine zJ (fun K hK=>?_);simp (disch:=omega) only [push_cast,↓iC9,simprocAttr];refine hK _ ?_;clear hK K
 refine zA ?_;refine zD ?_;refine zGz 3 9000 9 1 rfl (by simp only [xU,qE9,qFe,pA,mP,oF,lY,zF,oT,oU,oS,oR,rY,oV,oQ,mJ,rB,rD,rC,xR,rX,oP,Nat.reduceBEq,Nat.reduceEqDiff,reduceIte,cond_true,cond_false,List.map_cons,List.map_nil];exact rfl) ?_
 refine gC (fun x:Nat × List ByteArray × ByteArray=>⟨[(0,.v (.string s)),(3,.own 9000),(4,.v (.string x.2.2)),(5,.v (.int .i64 x.1))],[(9000,.sl true 9 1 (bZ x.2.1))]⟩)
  (fun x=>x.1≤s.size∧x.2.2.size≤x.1∧x.2.1.length≤x.1∧gB x.2.1 x.2.2 (s.data.toList.drop x.1)=parts s) (fun x=>s.size - x.1) [0,3,4,5] [9000] (0,[],{ data:=#[] }) (by simp only [zZ,zR,zP,zQ,zN,zS,zM,zX,zU,Nat.reduceEqDiff,reduceIte];rfl) ⟨Nat.zero_le _,Nat.le_refl _,Nat.le_refl _,zJf s⟩ ?_
 rintro ⟨i,out,one⟩ ⟨hi,h1,hl,hg⟩;simp only at hi h1 hl hg
 by_cases hlt:i < s.size
 ·obtain ⟨c,c1,c2,c3⟩:=zGq s i hlt
  have h47:=zJq s i hlt
  rw [c3] at hg;rw [c1] at h47;refine zE ?_;refine zE ?_;refine zJ (fun K hK=>?_);simp (disch:=omega) only [push_cast,↓iC9,simprocAttr];refine hK _ ?_;clear hK K
  refine zA ?_;refine yD rfl ?_;refine zC ?_;refine zE ?_
  by_cases hc:c=47
  ·subst hc;rw [zBg] at hg;rw [decide_eq_true rfl] at h47;refine zD ?_;refine zE ?_;refine zE ?_;refine zJ (fun K hK=>?_);simp (disch:=omega) only [push_cast,↓iC9,simprocAttr,h47];(repeat refine ⟨by first|omega|decide|((repeat' apply And.intro) <;> first|omega|decide),?_⟩);refine hK _ ?_;clear hK K
   refine zA ?_;refine yD rfl ?_;refine zE ?_;refine zJ (fun K hK=>?_);simp (disch:=omega) only [push_cast,↓iC9,simprocAttr,iW,aM];(repeat refine ⟨by first|omega|decide|((repeat' apply And.intro) <;> first|omega|decide),?_⟩);refine hK _ ?_;clear hK K
   refine zE ?_;refine zJ (fun K hK=>?_);simp (disch:=omega) only [push_cast,↓iC9,simprocAttr];refine hK _ ?_;clear hK K
   refine zA ?_;refine zT ?_;refine zG ?_;refine zH ?_;refine zA ?_;refine zJ (fun K hK=>?_);simp (disch:=omega) only [push_cast,↓iC9,simprocAttr];refine hK _ ?_;clear hK K
   refine zA ?_;exact ⟨(i + 1,out ++ [one],{ data:=#[] }),by simp only [zZ,zR,zP,zQ,zN,zS,zM,zX,zU,Nat.reduceEqDiff,reduceIte];rfl,⟨hlt,by dsimp only;exact Nat.zero_le _,by dsimp only;simp;omega,hg⟩,by dsimp only;omega⟩
  ·have hne:¬ some c=some 47:=fun e=>hc (Option.some.inj e)
   rw [decide_eq_false hne] at h47;rw [zD3 out one _ c _ hc c2] at hg
   have hz:(s.extract i (i + 1)).size=1:=by rw [ByteArray.size_extract];omega
   have e1:((i:Int) + 1).toNat=i + 1:=by omega
   refine zD ?_;refine zE ?_;refine zE ?_;refine zJ (fun K hK=>?_);simp (disch:=omega) only [push_cast,↓iC9,simprocAttr,h47];(repeat refine ⟨by first|omega|decide|((repeat' apply And.intro) <;> first|omega|decide),?_⟩);refine hK _ ?_;clear hK K
   refine zA ?_;refine yC rfl ?_;refine zC ?_;refine zA ?_;refine zJ (fun K hK=>?_);simp (disch:=omega) only [push_cast,↓iC9,simprocAttr,e1,hz]
   refine ⟨by omega,by omega,?_⟩
   refine hK _ ?_;clear hK K;refine zB ?_;refine zA ?_;refine zJ (fun K hK=>?_);simp (disch:=omega) only [push_cast,↓iC9,simprocAttr];refine hK _ ?_;clear hK K
   refine zA ?_;refine ⟨(i + 1,out,one ++ s.extract i (i + 1)),by simp only [zZ,zR,zP,zQ,zN,zS,zM,zX,zU,Nat.reduceEqDiff,reduceIte];rfl,⟨hlt,?_,by dsimp only;omega,hg⟩,by dsimp only;omega⟩
   dsimp only;rw [ByteArray.size_append,hz];omega
 ·have hne:i=s.size:=by omega
  subst hne;rw [List.drop_of_length_le (by rw [← Lib.size_eq];omega),zJe] at hg
  rw [← hg];refine zE ?_;refine zE ?_;refine zJ (fun K hK=>?_);simp (disch:=omega) only [push_cast,↓iC9,simprocAttr];refine hK _ ?_;clear hK K
  refine zA ?_;refine yC rfl ?_;refine zT ?_;refine zG ?_;refine zG ?_;refine zH ?_;refine zE ?_;refine zJ (fun K hK=>?_);simp (disch:=omega) only [push_cast,↓iC9,simprocAttr,iW,aM];(repeat refine ⟨by first|omega|decide|((repeat' apply And.intro) <;> first|omega|decide),?_⟩);refine hK _ ?_;clear hK K
  refine zA ?_;refine zW ?_;simp only [yA,yM,yH,yE,aH,aT,yK,yJ,zS,zM,Nat.reduceEqDiff,reduceIte,reduceCtorEq];exact qW0 rfl (lU _) ⟨rfl,rfl⟩
theorem zA1 (s:ByteArray) (h1:1≤s.size) (h2:s.size≤12):dG s=s.data.toList.all okC:=by
 rw [dG,decide_eq_true h1,decide_eq_true h2];rfl
set_option maxHeartbeats 8000000 in
theorem zF7 (s:ByteArray) (hs:s.size≤1048576):HFun Tryd.prog 19 [.v (.string s)] (fun h st=>h=.v (.bool (dG s))):=by
 refine kG (N:=41) Tryd.func19 rfl Tryd.ntmps19 Tryd.results19 (by simp) ?_
 refine zE ?_;refine zJ (fun K hK=>?_);simp (disch:=omega) only [push_cast,↓iC9,simprocAttr];refine hK _ ?_;clear hK K
 by_cases h1:s.size < 1
 ·have e:dG s=false:=by rw [dG,decide_eq_false (by omega)];rfl
  rw [e];refine zE ?_;refine zE ?_;refine zJ (fun K hK=>?_);simp (disch:=omega) only [push_cast,↓iC9,simprocAttr];refine hK _ ?_;clear hK K
  refine yD rfl ?_;refine zE ?_;refine zJ (fun K hK=>?_);simp (disch:=omega) only [push_cast,↓iC9,simprocAttr];refine hK _ ?_;clear hK K
  refine zA ?_;refine zW ?_;refine zK ?_;simp only [yA,yM,yH,yE,aH,aT,yK,yJ,zS,zM,Nat.reduceEqDiff,reduceIte,reduceCtorEq];exact bD rfl
 by_cases h2:12 < s.size
 ·have e:dG s=false:=by rw [dG,decide_eq_true (by omega),decide_eq_false (by omega)];rfl
  rw [e];refine zE ?_;refine zE ?_;refine zJ (fun K hK=>?_);simp (disch:=omega) only [push_cast,↓iC9,simprocAttr];refine hK _ ?_;clear hK K
  refine yD rfl ?_;refine zE ?_;refine zJ (fun K hK=>?_);simp (disch:=omega) only [push_cast,↓iC9,simprocAttr];refine hK _ ?_;clear hK K
  refine zA ?_;refine zW ?_;refine zK ?_;simp only [yA,yM,yH,yE,aH,aT,yK,yJ,zS,zM,Nat.reduceEqDiff,reduceIte,reduceCtorEq];exact bD rfl
 rw [zA1 s (by omega) (by omega)]
 refine zE ?_;refine zE ?_;refine zJ (fun K hK=>?_);simp (disch:=omega) only [push_cast,↓iC9,simprocAttr];refine hK _ ?_;clear hK K
 refine yC rfl ?_;refine zC ?_;refine zE ?_;refine zE ?_;refine zJ (fun K hK=>?_);simp (disch:=omega) only [push_cast,↓iC9,simprocAttr];refine hK _ ?_;clear hK K
 refine zA ?_;refine zD ?_;refine gC (fun i:Nat=>⟨[(0,.v (.string s)),(3,.v (.int .i64 i))],[]⟩) (fun i=>i≤s.size∧(s.data.toList.take i).all okC=true) (fun i=>s.size - i) [0,3] [] 0 rfl ⟨Nat.zero_le _,rfl⟩ ?_
 rintro i ⟨hi,ha⟩
 by_cases hlt:i < s.size
 ·have hll:i < s.data.toList.length:=by rw [← Lib.size_eq];exact hlt
  obtain ⟨r,hr,hrr⟩:∃ r:Nat,sL s i=(r:Int)∧s.data.toList[i].toNat=r:=by
   refine ⟨_,?_,rfl⟩
   have h':i < s.data.size:=hlt
   unfold sL;rw [Array.getD_eq_getD_getElem?,Array.getElem?_eq_getElem h'];rfl
  have hb:=qZx s.data.toList[i]
  rw [hrr] at hb;refine zE ?_;refine zE ?_;refine zJ (fun K hK=>?_);simp (disch:=omega) only [push_cast,↓iC9,simprocAttr];refine hK _ ?_;clear hK K
  refine zA ?_;refine yD rfl ?_;refine zC ?_;refine zE ?_;refine zD ?_;refine zE ?_;refine zJ (fun K hK=>?_);simp (disch:=omega) only [push_cast,↓iC9,simprocAttr,hr];(repeat refine ⟨by first|omega|decide|((repeat' apply And.intro) <;> first|omega|decide),?_⟩);refine hK _ ?_;clear hK K
  have good:okC s.data.toList[i]=true→(s.data.toList.take (i + 1)).all okC=true:=fun h=>by
   rw [List.take_succ_eq_append_getElem hll,List.all_append,ha,List.all_cons,h];rfl
  have bad:okC s.data.toList[i]=false→s.data.toList.all okC=false:=fun h=>by
   rw [Bool.eq_false_iff];intro hall;rw [List.all_eq_true.1 hall _ (List.getElem_mem hll)] at h;cases h
  have cases7:(r < 48∧lG r=true)∨(48≤r∧r≤57∧lG r=false)∨(57 < r∧r < 95∧lG r=true)∨(r=95∧lG r=false)∨(r=96∧lG r=true)∨(97≤r∧r≤122∧lG r=false)∨(122 < r∧lG r=true):=by
   unfold lG;simp;omega
  rcases cases7 with ⟨c1,hc⟩|⟨c1,c2,hc⟩|⟨c1,c2,hc⟩|⟨c1,hc⟩|⟨c1,hc⟩|⟨c1,c2,hc⟩|⟨c1,hc⟩
  ·rw [hc] at hb;rw [bad (by simpa using hb.symm)]
   refine zE ?_;refine zJ (fun K hK=>?_);simp (disch:=omega) only [push_cast,↓iC9,simprocAttr];refine hK _ ?_;clear hK K
   refine yD rfl ?_;refine zE ?_;refine zJ (fun K hK=>?_);simp (disch:=omega) only [push_cast,↓iC9,simprocAttr];refine hK _ ?_;clear hK K
   refine zA ?_;refine zW ?_;refine zL ?_;refine zK ?_;refine zK ?_;refine zL ?_;refine zK ?_;simp only [yA,yM,yH,yE,aH,aT,yK,yJ,zS,zM,Nat.reduceEqDiff,reduceIte,reduceCtorEq];exact bD rfl
  ·rw [hc] at hb
   have ha2:=good (by simpa using hb.symm)
   refine zE ?_;refine zJ (fun K hK=>?_);simp (disch:=omega) only [push_cast,↓iC9,simprocAttr];refine hK _ ?_;clear hK K
   refine yC rfl ?_;refine zC ?_;refine zB ?_;refine zA ?_;refine zJ (fun K hK=>?_);simp (disch:=omega) only [push_cast,↓iC9,simprocAttr];refine hK _ ?_;clear hK K
   refine zA ?_;exact ⟨i + 1,rfl,⟨hlt,ha2⟩,by omega⟩
  ·rw [hc] at hb;rw [bad (by simpa using hb.symm)]
   refine zE ?_;refine zJ (fun K hK=>?_);simp (disch:=omega) only [push_cast,↓iC9,simprocAttr];refine hK _ ?_;clear hK K
   refine yD rfl ?_;refine zE ?_;refine zJ (fun K hK=>?_);simp (disch:=omega) only [push_cast,↓iC9,simprocAttr];refine hK _ ?_;clear hK K
   refine zA ?_;refine zW ?_;refine zL ?_;refine zK ?_;refine zK ?_;refine zL ?_;refine zK ?_;simp only [yA,yM,yH,yE,aH,aT,yK,yJ,zS,zM,Nat.reduceEqDiff,reduceIte,reduceCtorEq];exact bD rfl
  ·rw [hc] at hb
   have ha2:=good (by simpa using hb.symm)
   refine zE ?_;refine zJ (fun K hK=>?_);simp (disch:=omega) only [push_cast,↓iC9,simprocAttr];refine hK _ ?_;clear hK K
   refine yC rfl ?_;refine zC ?_;refine zB ?_;refine zA ?_;refine zJ (fun K hK=>?_);simp (disch:=omega) only [push_cast,↓iC9,simprocAttr];refine hK _ ?_;clear hK K
   refine zA ?_;exact ⟨i + 1,rfl,⟨hlt,ha2⟩,by omega⟩
  ·rw [hc] at hb;rw [bad (by simpa using hb.symm)]
   refine zE ?_;refine zJ (fun K hK=>?_);simp (disch:=omega) only [push_cast,↓iC9,simprocAttr];refine hK _ ?_;clear hK K
   refine yD rfl ?_;refine zE ?_;refine zJ (fun K hK=>?_);simp (disch:=omega) only [push_cast,↓iC9,simprocAttr];refine hK _ ?_;clear hK K
   refine zA ?_;refine zW ?_;refine zL ?_;refine zK ?_;refine zK ?_;refine zL ?_;refine zK ?_;simp only [yA,yM,yH,yE,aH,aT,yK,yJ,zS,zM,Nat.reduceEqDiff,reduceIte,reduceCtorEq];exact bD rfl
  ·rw [hc] at hb
   have ha2:=good (by simpa using hb.symm)
   refine zE ?_;refine zJ (fun K hK=>?_);simp (disch:=omega) only [push_cast,↓iC9,simprocAttr];refine hK _ ?_;clear hK K
   refine yC rfl ?_;refine zC ?_;refine zB ?_;refine zA ?_;refine zJ (fun K hK=>?_);simp (disch:=omega) only [push_cast,↓iC9,simprocAttr];refine hK _ ?_;clear hK K
   refine zA ?_;exact ⟨i + 1,rfl,⟨hlt,ha2⟩,by omega⟩
  ·rw [hc] at hb;rw [bad (by simpa using hb.symm)]
   refine zE ?_;refine zJ (fun K hK=>?_);simp (disch:=omega) only [push_cast,↓iC9,simprocAttr];refine hK _ ?_;clear hK K
   refine yD rfl ?_;refine zE ?_;refine zJ (fun K hK=>?_);simp (disch:=omega) only [push_cast,↓iC9,simprocAttr];refine hK _ ?_;clear hK K
   refine zA ?_;refine zW ?_;refine zL ?_;refine zK ?_;refine zK ?_;refine zL ?_;refine zK ?_;simp only [yA,yM,yH,yE,aH,aT,yK,yJ,zS,zM,Nat.reduceEqDiff,reduceIte,reduceCtorEq];exact bD rfl
 ·have hne:i=s.size:=by omega
  subst hne;rw [Lib.size_eq,List.take_length] at ha;rw [ha];refine zE ?_;refine zE ?_;refine zJ (fun K hK=>?_);simp (disch:=omega) only [push_cast,↓iC9,simprocAttr];refine hK _ ?_;clear hK K
  refine zA ?_;refine yC rfl ?_;refine zT ?_;refine zG ?_;refine zG ?_;refine zH ?_;refine zE ?_;refine zJ (fun K hK=>?_);simp (disch:=omega) only [push_cast,↓iC9,simprocAttr];refine hK _ ?_;clear hK K
  refine zA ?_;refine zW ?_;simp only [yA,yM,yH,yE,aH,aT,yK,yJ,zS,zM,Nat.reduceEqDiff,reduceIte,reduceCtorEq];exact bD rfl
end Go.Proofs.YtdmnijnogabchaaDoor
