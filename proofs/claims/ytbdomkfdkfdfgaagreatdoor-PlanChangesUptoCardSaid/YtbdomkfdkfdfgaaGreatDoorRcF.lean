/-
  Recon: all paths right below another one, walked.
-/
import Derived.Test.YtbdomkfdkfdfgaaGreatDoorRcE
import Derived.Test.YtbdomkfdkfdfgaaGreatDoorItZ
import Derived.Test.YtbdomkfdkfdfgaaGreatDoorMu
import Derived.Test.YtbdomkfdkfdfgaaGreatDoorTrV
set_option linter.unusedSimpArgs false
set_option linter.unusedVariables false
set_option maxRecDepth 20000
namespace Go.Rc
open Go Go.Eng Go.RowKit Go.Tr Go.Dk
structure TB (t:List Ent):Prop where
 rise:rise t
 len:t.length≤1000
 sz:∀ e ∈ t,e.1.size≤1048576
 dat:∀ e ∈ t,e.2.2.size≤4096
def trN (A H S:List Ent) (i:Nat):List Ent:=[A,H,S].getD i []
abbrev nmV (L:LN):MTab:=tab zMs L
def nmI (top:ByteArray) (A H S:List Ent):Nat→LN
|0=>[]
|i + 1=>(trN A H S i).foldl (cN top) (nmI top A H S i)
theorem zMu (top:ByteArray) (A H S:List Ent):nmI top A H S 3=lD top (A ++ H ++ S):=by
 rw [lD,List.foldl_append,List.foldl_append];rfl
theorem zMt {t:List Ent} {top:ByteArray} {L0 L:LN} {j:Nat} (h:j < t.length) (hL:L=(t.take j).foldl (cN top) L0):(t.take (j + 1)).foldl (cN top) L0=cN top L t[j]:=by
 rw [List.take_succ_eq_append_getElem h,List.foldl_append,← hL];rfl
theorem qDz {n m:Int} {L:LN} (h:n≤m) (hv:qYt n L):qYt m L:=fun x hx=>⟨(hv x hx).1,Int.le_trans (hv x hx).2 h⟩
theorem zEj {p q:ByteArray} (h:eK p q=true):q.size≤p.size:=by
 by_cases hq:q={ data:=#[] }
 ·subst hq;exact Nat.zero_le _
 ·obtain ⟨t,ht,-⟩:=qPt h hq;rw [Lib.size_eq p,ht,List.length_append,← Lib.size_eq];omega
theorem zEu {top:ByteArray} {L:LN} {e:Ent} (h:dK top e=none):cN top L e=L:=by rw [cN,h]
theorem qP0 {top q:ByteArray} {L:LN} {e:Ent} (h:dK top e=some q):cN top L e=put q ((gF L q).getD 0 + 1) L:=by rw [cN,h]
theorem zQv {A H S:List Ent} (hA:TB A) (hH:TB H) (hS:TB S) {i:Nat} (h:i < 3):TB (trN A H S i):=by
 rcases i with _|_|_|i
 ·exact hA
 ·exact hH
 ·exact hS
 ·omega
theorem zL7 (A H S:List Ent) {i:Nat} (h:i < 3):([HV.lst false (aL A),.lst false (aL H),.lst false (aL S)]:List HV)[i]?=some (.lst false (aL (trN A H S i))):=by
 rcases i with _|_|_|i
 ·rfl
 ·rfl
 ·rfl
 ·omega
end Go.Rc
namespace Go.Proofs.YtbdomkfdkfdfgaaGreatDoor
open Go Go.Eng Go.RowKit Go.Tr Go.Dk Go.Rc
set_option maxHeartbeats 4000000 in
theorem qN5 {mg:(Int × ByteArray)→(Int × ByteArray)→(Int × ByteArray)→Bool} {A H S:List Ent} (hA:TB A) (hH:TB H) (hS:TB S) (k:Nat) (top:ByteArray) (htop:top.size≤1048576)
  (IH:∀ p ∈ (lD top (A ++ H ++ S)).map (fun e=>e.1),∀ out:LN,out.length + (oA mg (dQ mg A H S k) A H S p).length≤1000000→HFunS Tryz.prog 78 [.ptr 0 4 0 0,.v (.string p)] (wgS A H S out) (fun h st=>h=.tup []∧st=wgS A H S (out ++ oA mg (dQ mg A H S k) A H S p)))
  (out:LN) (hout:out.length + (dQ mg A H S (k + 1) top).length≤1000000) :
  HFunS Tryz.prog 50 [.ptr 0 4 0 0,.v (.string top)] (wgS A H S out) (fun h st=>h=.tup []∧st=wgS A H S (out ++ dQ mg A H S (k + 1) top)):=by
 refine qW2 (N:=82) Tryz.func50 rfl Tryz.ntmps50 Tryz.results50 (by simp) ?_
 refine zR1 ?_;refine cJ ?_;refine qUu ?_;refine zLv (cp:=none) rfl rfl rfl kS fun r=>?_
 refine xS 1 (fun K1 hK1=>?_);simp (disch:=omega) only [push_cast,↓Int.cast_ofNat_Int,simprocAttr,uA,pW];refine hK1 _ ?_;(try clear hK1 K1)
 refine qHz ?_;refine cJ ?_;refine cJ ?_;refine zNm 14 mixed (by kernel_rfl) (fun K1 hK1=>?_);simp (disch:=omega) only [push_cast,↓Int.cast_ofNat_Int,simprocAttr]
 refine hK1 _ ?_;(try clear hK1 K1);refine qHz ?_;refine pC [0,1,4,28,29] [0,1] (by simp only [zZ,zR,zP,zQ,zN,zS,zM,zX,zU,Nat.reduceEqDiff,reduceIte];exact rfl) ?_
 refine nY ?_;refine qPa (ι:=Nat × Nat × LN) (fun q=>⟨[(0,.ptr 0 4 0 0),(1,.v (.string top)),(4,.v (.map (some r))),(28,.agg [.lst false (aL A),.lst false (aL H),.lst false (aL S)]),(29,.v (.int .i64 (q.1:Int)))],wgS A H S out⟩)
  (fun q=>[.map r kS q.2.1 (nmV q.2.2)]) (fun q=>q.1≤3∧q.2.2=nmI top A H S q.1∧q.2.1≤1000 * q.1∧qYt ((1000 * q.1:Nat):Int) q.2.2) (fun q=>3 - q.1) [0,1,4,28,29] [0,1] (0,0,[]) rfl rfl
  ⟨Nat.zero_le _,rfl,Nat.le_refl _,fun x hx=>by cases hx⟩ ?_
 rintro ⟨i,n,L⟩ ⟨hi,hL,hn,hv⟩;dsimp only at hi hL hn hv ⊢
 rcases (Decidable.em (i < 3)).symm with h1|h1
 ·have hi3:i=3:=by omega
  subst hi3;rw [zMu] at hL;refine cJ ?_;refine cL (fun K hK=>?_);simp (disch:=omega) only [push_cast,↓Int.cast_ofNat_Int,simprocAttr];refine hK _ ?_;clear hK K
  refine cJ ?_;refine nX rfl ?_;refine qPb ?_;refine rY ?_;refine rY ?_;refine qKw ?_;refine cJ ?_
  have hRi:qHh L:=by rw [hL];exact qA6 _ _ List.Pairwise.nil
  obtain ⟨ks,hks⟩:∃ ks,gN L=ks:=⟨_,rfl⟩
  have hbel:dQ mg A H S (k + 1) top=ks.flatMap (oA mg (dQ mg A H S k) A H S):=by rw [dQ,← hks,hL];rfl
  have hkm:∀ p ∈ ks,p ∈ (lD top (A ++ H ++ S)).map (fun e=>e.1):=fun p hp=>by rw [← hks,hL] at hp;exact hp
  have hkl:ks.length≤3000:=by
   have e1:ks.length=L.length:=by rw [← hks];simp [gN]
   have e2:=qQ1 (top:=top) (A ++ H ++ S) []
   rw [List.length_append,List.length_append,List.length_nil,← lD,← hL] at e2
   have:=hA.len
   have:=hH.len
   have:=hS.len
   omega
  refine qUu ?_;refine xS 1 (fun K1 hK1=>?_);simp (disch:=omega) only [push_cast,↓Int.cast_ofNat_Int,simprocAttr];refine hK1 _ ?_;(try clear hK1 K1)
  refine zLx (i:=0) (fI:=106) (tM:=90) 576 hRi (by omega) (by kernel_rfl) rfl rfl rfl rfl rfl rfl rfl rfl zU7 zU8 (fun b W=>(callsIn_wide.1 (Tryz.mapsKeys (some b) W))) (fun b nn D0 w hown hmax hbytes=>callsIn_wide.1 (Tryz.sortedKeys b nn D0 _ w hown hmax hbytes)) rfl rfl ?_
  refine xS 2 (fun K1 hK1=>?_);simp (disch:=omega) only [push_cast,↓Int.cast_ofNat_Int,simprocAttr,uA,pW,cY];refine hK1 _ ?_;(try clear hK1 K1)
  refine qHz ?_;rw [hks];refine pC [0,72,73,74] [0,1,576] (by simp only [zZ,zR,zP,zQ,zN,zS,zM,zX,zU,Nat.reduceEqDiff,reduceIte];exact rfl) ?_
  refine nY ?_;obtain ⟨W,hW⟩:∃ W,oA mg (dQ mg A H S k) A H S=W:=⟨_,rfl⟩;rw [hW] at IH hbel;rw [hbel] at hout ⊢;refine qPa (ι:=Nat × LN) (fun q=>⟨[(0,.ptr 0 4 0 0),(72,.own 576),(73,.v (.int .i64 (ks.length:Int))),(74,.v (.int .i64 (q.1:Int)))],[(0,wgR A H S),(1,.sl true 71 2 (itl q.2)),(576,.sl true 9 1 (cX ks))]⟩)
   (fun q=>[.map r kS n (nmV L)]) (fun q=>q.1≤ks.length∧q.2=out ++ (ks.take q.1).flatMap W) (fun q=>ks.length - q.1) [0,72,73,74] [0,1,576] (0,out) rfl rfl
   ⟨Nat.zero_le _,by simp⟩ ?_
  rintro ⟨j,o⟩ ⟨hj,ho⟩;dsimp only at hj ho ⊢
  rcases (Decidable.em (j < ks.length)).symm with h2|h2
  ·have hjl:j=ks.length:=by omega
   rw [hjl,List.take_length] at ho;refine cJ ?_;refine cL (fun K hK=>?_);simp (disch:=omega) only [push_cast,↓Int.cast_ofNat_Int,simprocAttr];refine hK _ ?_;clear hK K
   refine cJ ?_;refine nX rfl ?_;refine qPb ?_;refine rY ?_;refine rY ?_;refine qKw ?_;simp only [bT,dE,yH,yE,yK,yJ,fF,zS,zM,Nat.reduceEqDiff,reduceIte,reduceCtorEq];refine oL [0,1] (by decide) (by decide) (by simp only [push_cast,simprocAttr]) (by simp only [push_cast,simprocAttr]) (by simp only [push_cast,simprocAttr];rfl) (by simp only [push_cast,simprocAttr];rfl) ?_
   exact ⟨rfl,by rw [ho]⟩
  obtain ⟨p,hp⟩:∃ p,p=ks[j]:=⟨_,rfl⟩
  have hgp:(cX ks).getD j []=[FV.v (.string p)]:=by rw [qCa h2,hp]
  have hpm:=hkm p (by rw [hp];exact List.getElem_mem h2)
  have htk:ks.take (j + 1)=ks.take j ++ [p]:=by rw [hp];exact List.take_succ_eq_append_getElem h2
  have hfl:(ks.take (j + 1)).flatMap W=(ks.take j).flatMap W ++ W p:=by rw [htk,List.flatMap_append];simp
  have hlen:o.length + (W p).length≤1000000:=by
   have e1:ks.flatMap W=(ks.take (j + 1)).flatMap W ++ (ks.drop (j + 1)).flatMap W:=by rw [← List.flatMap_append,List.take_append_drop]
   have e2:=congrArg List.length e1
   rw [hfl,List.length_append,List.length_append] at e2;rw [ho,List.length_append];omega
  have cw:=IH p hpm o hlen
  refine cJ ?_;refine cL (fun K hK=>?_);simp (disch:=omega) only [push_cast,↓Int.cast_ofNat_Int,simprocAttr];refine hK _ ?_;clear hK K
  refine cJ ?_;refine wG rfl ?_;refine tF ?_;refine cJ ?_;refine nY ?_;refine cJ ?_;refine cL (fun K hK=>?_);simp (disch:=omega) only [push_cast,↓Int.cast_ofNat_Int,simprocAttr,cY,rM,hgp];(repeat refine ⟨by first|omega|decide|((repeat' apply And.intro) <;> first|omega|decide),?_⟩);refine hK _ ?_;clear hK K
  refine cK ?_;refine cL (fun K hK=>?_);simp (disch:=omega) only [push_cast,↓Int.cast_ofNat_Int,simprocAttr]
  refine qHf 640 [0,1] zU6 (cw) rfl (by decide) (by decide) (by simp only [push_cast,simprocAttr];try rfl) (by simp only [push_cast,simprocAttr];try rfl) ?_
  rintro _ _ ⟨rfl,rfl⟩;refine aC ?_;simp (disch:=omega) only [push_cast,↓Int.cast_ofNat_Int,simprocAttr];refine hK _ ?_;clear hK K;refine lF ?_;refine cK ?_;refine cL (fun K hK=>?_);simp (disch:=omega) only [push_cast,↓Int.cast_ofNat_Int,simprocAttr];refine hK _ ?_;clear hK K
  refine cK ?_;refine ⟨(j + 1,o ++ W p),?_,rfl,⟨h2,by rw [hfl,ho,List.append_assoc]⟩,by dsimp only;omega⟩
  dsimp only;rw [show (((j + 1:Nat):Int))=(j:Int) + 1 from Int.natCast_succ j]
  rfl
 have htb:=zQv hA hH hS h1
 have hge:=zL7 A H S h1
 obtain ⟨t,ht⟩:∃ t,trN A H S i=t:=⟨_,rfl⟩;rw [ht] at htb hge
 have htl:=htb.len
 refine cJ ?_;refine cL (fun K hK=>?_);simp (disch:=omega) only [push_cast,↓Int.cast_ofNat_Int,simprocAttr];refine hK _ ?_;clear hK K
 refine cJ ?_;refine wG rfl ?_;refine tF ?_;refine cJ ?_;refine nY ?_;refine cJ ?_;refine cL (fun K hK=>?_);simp (disch:=omega) only [push_cast,↓Int.cast_ofNat_Int,simprocAttr,hge];(repeat refine ⟨by first|omega|decide|((repeat' apply And.intro) <;> first|omega|decide),?_⟩);refine hK _ ?_;clear hK K
 refine cJ ?_;refine cL (fun K hK=>?_);simp (disch:=omega) only [push_cast,↓Int.cast_ofNat_Int,simprocAttr,yV];refine hK _ ?_;clear hK K
 refine pC [0,1,4,28,29,32,33,34] [0,1] (by simp only [zZ,zR,zP,zQ,zN,zS,zM,zX,zU,Nat.reduceEqDiff,reduceIte];exact rfl) ?_
 refine nY ?_;refine qPa (ι:=Nat × Nat × LN) (fun q=>⟨[(0,.ptr 0 4 0 0),(1,.v (.string top)),(4,.v (.map (some r))),(28,.agg [.lst false (aL A),.lst false (aL H),.lst false (aL S)]),(29,.v (.int .i64 (i:Int))),(32,.lst false (aL t)),(33,.v (.int .i64 (t.length:Int))),(34,.v (.int .i64 (q.1:Int)))],wgS A H S out⟩)
  (fun q=>[.map r kS q.2.1 (nmV q.2.2)]) (fun q=>q.1≤t.length∧q.2.2=(t.take q.1).foldl (cN top) L∧q.2.1≤1000 * i + q.1∧qYt ((1000 * i + q.1:Nat):Int) q.2.2) (fun q=>t.length - q.1) [0,1,4,28,29,32,33,34] [0,1] (0,n,L) rfl rfl
  ⟨Nat.zero_le _,rfl,hn,hv⟩ ?_
 rintro ⟨j,m,M⟩ ⟨hj,hM,hm,hw⟩;dsimp only at hj hM hm hw ⊢
 rcases (Decidable.em (j < t.length)).symm with h2|h2
 ·have hjl:j=t.length:=by omega
  rw [hjl,List.take_length] at hM;refine cJ ?_;refine cL (fun K hK=>?_);simp (disch:=omega) only [push_cast,↓Int.cast_ofNat_Int,simprocAttr];refine hK _ ?_;clear hK K
  refine cJ ?_;refine nX rfl ?_;refine qPb ?_;refine rY ?_;refine rY ?_;refine qKw ?_;refine lF ?_;refine cK ?_;refine cL (fun K hK=>?_);simp (disch:=omega) only [push_cast,↓Int.cast_ofNat_Int,simprocAttr];refine hK _ ?_;clear hK K
  refine cK ?_;refine ⟨(i + 1,m,M),?_,rfl,⟨h1,?_,by dsimp only;omega,qDz (by dsimp only;omega) hw⟩,by dsimp only;omega⟩
  ·dsimp only;rw [show (((i + 1:Nat):Int))=(i:Int) + 1 from Int.natCast_succ i]
   rfl
  ·show M=nmI top A H S (i + 1)
   rw [hM,hL,nmI,ht]
 have hnx:=zMt h2 hM
 have hes:=htb.sz _ (List.getElem_mem h2)
 obtain ⟨e,he⟩:∃ e,t[j]=e:=⟨_,rfl⟩
 have heg:(aL t).getD j []=[FV.v (.string e.1),.v (.int .i64 e.2.1),.v (.string e.2.2)]:=by rw [yW h2,he]
 rw [he] at hnx hes;obtain ⟨ep,ek,ed⟩:=e;dsimp only at heg hes
 have skip:dK top (ep,ek,ed)=none→j + 1≤t.length∧M=(t.take (j + 1)).foldl (cN top) L∧m≤1000 * i + (j + 1)∧qYt ((1000 * i + (j + 1):Nat):Int) M:=fun h =>
  ⟨h2,by rw [hnx,zEu h],by omega,qDz (by omega) hw⟩
 refine cJ ?_;refine cL (fun K hK=>?_);simp (disch:=omega) only [push_cast,↓Int.cast_ofNat_Int,simprocAttr];refine hK _ ?_;clear hK K
 refine cJ ?_;refine wG rfl ?_;refine tF ?_;refine cJ ?_;refine nY ?_;refine cJ ?_;refine cL (fun K hK=>?_);simp (disch:=omega) only [push_cast,↓Int.cast_ofNat_Int,simprocAttr,yV,yU,heg];(repeat refine ⟨by first|omega|decide|((repeat' apply And.intro) <;> first|omega|decide),?_⟩);refine hK _ ?_;clear hK K
 refine pC [0,1,4,8,28,29,32,33,34] [0,1,64] (by simp only [zZ,zR,zP,zQ,zN,zS,zM,zX,zU,Nat.reduceEqDiff,reduceIte];exact rfl) ?_
 cases e1:decide (ep=top) with
|true =>
  have hinv:=skip (by rw [dK,if_pos (.inl (of_decide_eq_true e1))])
  refine cJ ?_;refine cL (fun K hK=>?_);simp (disch:=omega) only [push_cast,↓Int.cast_ofNat_Int,simprocAttr,e1];(repeat refine ⟨by first|omega|decide|((repeat' apply And.intro) <;> first|omega|decide),?_⟩);refine hK _ ?_;clear hK K
  refine cK ?_;refine nX rfl ?_;refine tF ?_;refine lF ?_;refine cK ?_;refine cL (fun K hK=>?_);simp (disch:=omega) only [push_cast,↓Int.cast_ofNat_Int,simprocAttr];refine hK _ ?_;clear hK K
  refine cK ?_;refine ⟨(j + 1,m,M),?_,rfl,hinv,by dsimp only;omega⟩
  dsimp only;rw [show (((j + 1:Nat):Int))=(j:Int) + 1 from Int.natCast_succ j]
  rfl
|false =>
 have cu:=qHi ep top hes htop
 cases hu:eK ep top with
|false =>
  rw [hu] at cu
  have hinv:=skip (by rw [dK,if_pos (.inr (.inl hu))])
  refine cJ ?_;refine cL (fun K hK=>?_);simp (disch:=omega) only [push_cast,↓Int.cast_ofNat_Int,simprocAttr,e1]
  refine cP zK3 cu (.cons (.v _) (.cons (.v _) .nil)) ?_;with_reducible refine aC ?_;simp (disch:=omega) only [push_cast,↓Int.cast_ofNat_Int,simprocAttr]
  refine hK _ ?_;clear hK K;refine cK ?_;refine nX rfl ?_;refine tF ?_;refine lF ?_;refine cK ?_;refine cL (fun K hK=>?_);simp (disch:=omega) only [push_cast,↓Int.cast_ofNat_Int,simprocAttr];refine hK _ ?_;clear hK K
  refine cK ?_;refine ⟨(j + 1,m,M),?_,rfl,hinv,by dsimp only;omega⟩
  dsimp only;rw [show (((j + 1:Nat):Int))=(j:Int) + 1 from Int.natCast_succ j]
  rfl
|true =>
 rw [hu] at cu
 have hts:=zEj hu
 refine cJ ?_;refine cL (fun K hK=>?_);simp (disch:=omega) only [push_cast,↓Int.cast_ofNat_Int,simprocAttr,e1]
 refine cP zK3 cu (.cons (.v _) (.cons (.v _) .nil)) ?_;with_reducible refine aC ?_;simp (disch:=omega) only [push_cast,↓Int.cast_ofNat_Int,simprocAttr]
 refine hK _ ?_;clear hK K;refine cK ?_;refine wG rfl ?_;refine pC [0,1,4,8,28,29,32,33,34] [0,1,64] (by simp only [zZ,zR,zP,zQ,zN,zS,zM,zX,zU,Nat.reduceEqDiff,reduceIte];exact rfl) ?_
 have ct:=zQu (ep.extract top.size ep.size)
 have hxs:(pF (ep.extract top.size ep.size)).size≤1048576:=by
  have e2:(ep.extract top.size ep.size).size≤ep.size:=by rw [ByteArray.size_extract];omega
  unfold pF;split
  ·rw [ByteArray.size_extract];omega
  ·omega
 refine cJ ?_;refine cL (fun K hK=>?_);simp (disch:=omega) only [push_cast,↓Int.cast_ofNat_Int,simprocAttr]
 refine ⟨⟨by omega,by omega,by omega⟩,?_⟩
 refine cP zVb ct (.cons (.v _) (.cons (.v _) .nil)) ?_;with_reducible refine aC ?_;simp (disch:=omega) only [push_cast,↓Int.cast_ofNat_Int,simprocAttr]
 refine hK _ ?_;clear hK K;refine pC [0,1,4,9,28,29,32,33,34] [0,1] (by simp only [zZ,zR,zP,zQ,zN,zS,zM,zX,zU,Nat.reduceEqDiff,reduceIte];exact rfl) ?_
 refine cJ ?_;refine cL (fun K hK=>?_);simp (disch:=omega) only [push_cast,↓Int.cast_ofNat_Int,simprocAttr]
 refine zM1 zVa (zQz _ hxs) (.cons (.v _) (.cons (.v _) .nil)) ?_;with_reducible refine aC ?_;simp (disch:=omega) only [push_cast,↓Int.cast_ofNat_Int,simprocAttr]
 refine hK _ ?_;clear hK K;obtain ⟨f,hf⟩:∃ f,vol (pF (ep.extract top.size ep.size))=f:=⟨_,rfl⟩
 have hff:lM ep top=f:=hf
 have hfs:f.size≤1048576:=by rw [← hf];exact Nat.le_trans (zGm _) hxs
 rw [hf];refine pC [0,1,4,10,28,29,32,33,34] [0,1] (by simp only [zZ,zR,zP,zQ,zN,zS,zM,zX,zU,Nat.reduceEqDiff,reduceIte];exact rfl) ?_
 cases e2:decide (f={ data:=#[] }) with
|true =>
  have hinv:=skip (by rw [dK,if_pos (.inr (.inr (by show lM ep top=_;rw [hff];exact of_decide_eq_true e2)))])
  refine cJ ?_;refine cL (fun K hK=>?_);simp (disch:=omega) only [push_cast,↓Int.cast_ofNat_Int,simprocAttr,e2];(repeat refine ⟨by first|omega|decide|((repeat' apply And.intro) <;> first|omega|decide),?_⟩);refine hK _ ?_;clear hK K
  refine cK ?_;refine nX rfl ?_;refine tF ?_;refine lF ?_;refine cK ?_;refine cL (fun K hK=>?_);simp (disch:=omega) only [push_cast,↓Int.cast_ofNat_Int,simprocAttr];refine hK _ ?_;clear hK K
  refine cK ?_;refine ⟨(j + 1,m,M),?_,rfl,hinv,by dsimp only;omega⟩
  dsimp only;rw [show (((j + 1:Nat):Int))=(j:Int) + 1 from Int.natCast_succ j]
  rfl
|false =>
 have hno:dK top (ep,ek,ed)=some (qAd top f):=by
  rw [dK,if_neg]
  ·show some (qAd top (lM ep top))=_
   rw [hff]
  ·show ¬ (ep=top∨eK ep top=false∨lM ep top=_)
   rw [hff,hu];simp only [not_or];exact ⟨of_decide_eq_false e1,by decide,of_decide_eq_false e2⟩
 have hqs:=wY hno
 have hq2:(qAd top f).size≤1048576:=Nat.le_trans hqs.2 hes
 have cj:=zMp top f htop hfs
 rw [qP0 hno] at hnx;generalize qAd top f=q at hno hqs hq2 cj hnx;refine cJ ?_;refine cL (fun K hK=>?_);simp (disch:=omega) only [push_cast,↓Int.cast_ofNat_Int,simprocAttr,e2];(repeat refine ⟨by first|omega|decide|((repeat' apply And.intro) <;> first|omega|decide),?_⟩);refine hK _ ?_;clear hK K
 refine cK ?_;refine wG rfl ?_;refine qUu ?_;refine xS 4 (fun K1 hK1=>?_);simp (disch:=omega) only [push_cast,↓Int.cast_ofNat_Int,simprocAttr]
 refine cP zU9 cj (.cons (.v _) (.cons (.v _) .nil)) ?_;with_reducible refine aC ?_;simp (disch:=omega) only [push_cast,↓Int.cast_ofNat_Int,simprocAttr]
 refine hK1 _ ?_;(try clear hK1 K1)
 have hlv:=qK0 hw (by omega) q
 obtain ⟨v,hvv⟩:∃ v,(gF M q).getD 0=v:=⟨_,rfl⟩;rw [hvv] at hlv hnx
 have hlk:zB9 (nmV M q.data.toList) (.int .i64 0) false=.v (.int .i64 v):=by rw [← hvv,← zH7];rfl
 refine zLw (i:=0) mtL rfl rfl rfl rfl rfl rfl (mx hq2) ?_;rw [hlk]
 have hwr:IntKind.i64.wrap (v + 1)=v + 1:=by rw [IntKind.wrap_i64];omega
 refine xS 1 (fun K1 hK1=>?_);simp (disch:=omega) only [push_cast,↓Int.cast_ofNat_Int,simprocAttr,uA,pW,hwr];refine hK1 _ ?_;(try clear hK1 K1)
 have hmx:m < maxLen:=by simp only [maxLen];omega
 refine zNp (i:=0) mtL rfl rfl rfl rfl (hmx) rfl rfl (mx hq2) rfl rfl ?_;refine xS 0 (fun K1 hK1=>?_);simp (disch:=omega) only [push_cast,↓Int.cast_ofNat_Int,simprocAttr,uA,pW];refine hK1 _ ?_;(try clear hK1 K1)
 refine qHz ?_;refine lF ?_;refine cK ?_;refine cL (fun K hK=>?_);simp (disch:=omega) only [push_cast,↓Int.cast_ofNat_Int,simprocAttr];refine hK _ ?_;clear hK K
 refine cK ?_;refine ⟨(j + 1,m + 1,put q (v + 1) M),?_,?_,⟨h2,hnx.symm,by dsimp only;omega,?_⟩,by dsimp only;omega⟩
 ·dsimp only;rw [show (((j + 1:Nat):Int))=(j:Int) + 1 from Int.natCast_succ j]
  rfl
 ·dsimp only;rw [show nmV (put q (v + 1) M)=(nmV M).put q.data.toList (Value.int .i64 (v + 1)) from (zL8 zMs M q (v + 1)).symm]
  rfl
 ·have h3:=zEt (top:=top) (ep,ek,ed) hw (by omega)
  rw [qP0 hno,hvv] at h3;exact qDz (by dsimp only;omega) h3
end Go.Proofs.YtbdomkfdkfdfgaaGreatDoor
