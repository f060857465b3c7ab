/-
  strings.Join without a separator; wire.Join.
-/
import Derived.Test.YtdfjeokjmigkaaaGreatMgC
import Derived.Test.YtdfjeokjmigkaaaGreatApd
import Derived.Test.YtdfjeokjmigkaaaGreatGc
import Derived.Test.YtdfjeokjmigkaaaGreatTyZ
set_option linter.unusedSimpArgs false
set_option linter.unusedVariables false
section
set_option maxRecDepth 20000
namespace Go.Proofs.YtdfjeokjmigkaaaGreat
open Go Go.Eng Go.RowKit Go.DiffM


theorem qV0 (l:List (Ck ByteArray)) (x:List HV):(ckH l ++ [x]).length=l.length + 1:=by simp [qD5]
theorem qJ8 (l:List (Ck ByteArray)) (x d:List HV):(ckH l ++ [x]).getD l.length d=x:=by
 rw [List.getD_eq_getElem?_getD,List.getElem?_append_right (by rw [qD5];exact Nat.le_refl _),qD5,Nat.sub_self];rfl
theorem zCg (l:List (Ck ByteArray)) (x y:List HV):(ckH l ++ [x]).set l.length y=ckH l ++ [y]:=by
 rw [List.set_append_right _ _ (by rw [qD5];exact Nat.le_refl _),qD5,Nat.sub_self];rfl
abbrev ckJ (pre:List (Ck ByteArray)) (x y z:HV):Row:=.hl true 77 4 (ckH pre ++ [[.v (.bool true),x,y,z]])
abbrev pE (l:List ByteArray):Row:=.sl true 9 1 (aK l)
set_option maxHeartbeats 4000000 in
theorem zHh (o a b:List ByteArray) (i j k m:Nat) (pre:List (Ck ByteArray)) (c:Ck ByteArray) (hm:m < o.length) (ho:o.length≤1000) (hi:i≤1000) (hj:j≤1000) (hk:k≤1000) (hn:pre.length≤10000) (hB:c.b.length≤10000) (hL:c.l.length≤10000) (hR:c.r.length≤10000) :
  HFunS Tryz.prog 67 [.ptr 0 7 0 0,.v (.int .i64 m)] (cuT o a b i j k pre c) (fun h st=>h=.tup []∧st=cuT o a b (i + 1) (j + 1) (k + 1) pre ⟨true,c.b ++ [o[m]],c.l ++ [o[m]],c.r ++ [o[m]]⟩):=by
 refine qMc (N:=105) Tryz.func67 rfl Tryz.ntmps67 Tryz.results67 (by simp) ?_
 have e0:(pre.length:Int) + 1 - 1=(pre.length:Int):=by omega
 refine zE ?_;refine zJ (fun K hK=>?_);simp (disch:=omega) only [push_cast,↓Int.cast_ofNat_Int,simprocAttr,aF,bJ,eY hm];refine hK _ ?_
 refine zE ?_;refine zE ?_;refine zJ (fun K hK=>?_);simp (disch:=omega) only [push_cast,↓Int.cast_ofNat_Int,simprocAttr,qV0,e0];refine hK _ ?_
 refine yB [0,4,5] [0,1,2,3,4] (by simp only [zZ,zR,zP,zQ,zN,zS,zM,zX,zU,Nat.reduceEqDiff,reduceIte];exact rfl) ?_
 refine zE ?_;refine zJ (fun K hK=>?_);simp (disch:=omega) only [push_cast,↓Int.cast_ofNat_Int,simprocAttr,qV0,qJ8];refine hK _ ?_
 refine zA ?_;refine yD rfl ?_;refine yB [0,4,5] [0,1,2,3,4] (by simp only [zZ,zR,zP,zQ,zN,zS,zM,zX,zU,Nat.reduceEqDiff,reduceIte];exact rfl) ?_
 refine zE ?_;refine zJ (fun K hK=>?_);simp (disch:=omega) only [push_cast,↓Int.cast_ofNat_Int,simprocAttr,qV0,qJ8];refine hK _ ?_
 refine yB [0,4,6] [0,1,2,3,4] (by simp only [zZ,zR,zP,zQ,zN,zS,zM,zX,zU,Nat.reduceEqDiff,reduceIte];exact rfl) ?_
 refine mZ 30 [(9,some 2),(16,some 3),(23,some 4),(26,none),(29,none)] [cuT o a b i j k pre c,[(2,pE (c.b ++ [o[m]])),(0,cuR o a b i j k),(1,ckJ pre .junk (.own 3) (.own 4)),(3,pE c.l),(4,pE c.r)],[(3,pE (c.l ++ [o[m]])),(2,pE (c.b ++ [o[m]])),(0,cuR o a b i j k),(1,ckJ pre .junk .junk (.own 4)),(4,pE c.r)],[(4,pE (c.r ++ [o[m]])),(3,pE (c.l ++ [o[m]])),(2,pE (c.b ++ [o[m]])),(0,cuR o a b i j k),(1,ckJ pre .junk .junk .junk)],[(4,pE (c.r ++ [o[m]])),(3,pE (c.l ++ [o[m]])),(2,pE (c.b ++ [o[m]])),(0,cuR o a b i j k),(1,ckJ pre (.own 2) .junk .junk)],[(4,pE (c.r ++ [o[m]])),(3,pE (c.l ++ [o[m]])),(2,pE (c.b ++ [o[m]])),(0,cuR o a b i j k),(1,ckJ pre (.own 2) (.own 3) .junk)]] [(6,0,0),(13,0,1),(20,0,2)] mixed (by kernel_rfl) (by kernel_rfl) rfl (fun K hK K1 hK1=>?_);simp (disch:=omega) only [push_cast,↓Int.cast_ofNat_Int,simprocAttr,dB,cM,eB,cZ,fQ,lQ,cY,cL,aT,aZ,bP,aU,aV,fR,dC,dK,eE,eD,cP,bC,bQ,fV,fU,fT,dD,dE,dJ,dG,fW,cW,dF,eC,List.tail_cons,List.take_nil,List.drop_nil,qV0,qJ8,zCg,vD,List.map_append,aF,iH,bJ]
 have w1:Wid 1 [[FV.v (.string o[m])]]:=by intro x hx;simp at hx;subst hx;rfl
 refine ⟨w1,w1,w1,?_⟩;refine hK1 _ ?_;(try clear hK1 K1);with_reducible refine aB ?_;simp (disch:=omega) only [push_cast,↓Int.cast_ofNat_Int,simprocAttr,qV0,qJ8,zCg]
 refine hK _ ?_;refine zE ?_;refine yB [0] [0,1,2,3,4] (by simp only [zZ,zR,zP,zQ,zN,zS,zM,zX,zU,Nat.reduceEqDiff,reduceIte];exact rfl) ?_
 refine zJ (fun K hK=>?_);simp (disch:=omega) only [push_cast,↓Int.cast_ofNat_Int,simprocAttr];refine hK _ ?_
 refine zE ?_;refine zJ (fun K hK=>?_);simp (disch:=omega) only [push_cast,↓Int.cast_ofNat_Int,simprocAttr];refine hK _ ?_
 refine zA ?_;refine zJ (fun K hK=>?_);simp (disch:=omega) only [push_cast,↓Int.cast_ofNat_Int,simprocAttr];refine hK _ ?_
 simp only [aX,cV,yH,yE,yK,yJ,eM,zS,zM,Nat.reduceEqDiff,reduceIte,reduceCtorEq];refine mG [0,1,2,3,4] (by decide) (by decide) (by simp only [push_cast,simprocAttr,List.map_append,cK]) (by simp only [push_cast,simprocAttr,List.map_append,cK]) (by simp only [push_cast,simprocAttr,List.map_append,cK];rfl) (by simp only [push_cast,simprocAttr,List.map_append,cK];rfl) ?_
 exact ⟨rfl,rfl⟩
abbrev zM6 (l:List (Ck ByteArray)):Row:=.hl true 77 4 (ckH l ++ [ckL 1000002 1000003 1000004])
set_option maxHeartbeats 4000000 in
theorem qSz (o a b:List ByteArray) (i j k:Nat) (s:ByteArray) (out:List (Ck ByteArray)) (Q:gE) (hn:out.length≤10000)
  (hQ:∀ E R,qAk [0] E=[(0,.ptr 0 7 0 0)]→qBw [0,1,1000002,1000003,1000004] R=[(0,cuR o a b i j k),(1,zM6 out),(1000002,pE [s]),(1000003,pE [s]),(1000004,pE [s])]→Q .normal ⟨E,R⟩) :
  HW Tryz.prog 105 (cAt [1,0,1,1,3] (Tryz.f67.body.getD .skip)) Q ⟨[(0,.ptr 0 7 0 0),(4,.v (.string s))],cuS o a b i j k out⟩:=by
 unfold Tryz.f67;dsimp only [Option.getD_some,cAt]
 have e0:(cks out).map (List.map FV.h)=ckH out:=rfl
 have e1:[[FV.v (.string s)]]=aK [s]:=rfl
 refine zWi 1 rfl (by simp only [xF,sD,List.map_cons,List.map_nil,zVr,zLx,Nat.reduceEqDiff,reduceIte,e0];exact rfl) ?_
 refine zQw (fun K hK=>?_)
 refine zMp 11 [0,68,72,74,76,78,79,80,81,82,83] [0,1,592,608,624] ?_;simp (disch:=omega) only [push_cast,↓Int.cast_ofNat_Int,simprocAttr,e1];refine aB ?_;simp only [zZ,zR,zP,zQ,zN,zS,zM,zX,zU,Nat.reduceEqDiff,reduceIte,List.drop_succ_cons,List.drop_zero];refine qH8 592 1000002 (by decide) rfl rfl (by simp only [rR,qF0,oR,lJ,nY,lD,uS,kU,kR,mH,lF,kV,kQ,jY,oA,oC,oB,Nat.reduceMul,Nat.reduceAdd,Nat.reduceEqDiff,reduceIte,List.map_cons,List.map_nil];exact rfl) ?_
 refine qH8 608 1000003 (by decide) rfl rfl (by simp only [rR,qF0,oR,lJ,nY,lD,uS,kU,kR,mH,lF,kV,kQ,jY,oA,oC,oB,Nat.reduceMul,Nat.reduceAdd,Nat.reduceEqDiff,reduceIte,List.map_cons,List.map_nil];exact rfl) ?_
 refine qH8 624 1000004 (by decide) rfl rfl (by simp only [rR,qF0,oR,lJ,nY,lD,uS,kU,kR,mH,lF,kV,kQ,jY,oA,oC,oB,Nat.reduceMul,Nat.reduceAdd,Nat.reduceEqDiff,reduceIte,List.map_cons,List.map_nil];exact rfl) ?_
 refine zMo ?_;simp (disch:=omega) only [push_cast,↓Int.cast_ofNat_Int,simprocAttr,qD5,vD,cK,List.map_append];refine hK _ ?_;exact hQ _ _ (by simp only [zZ,zR,zP,zQ,zN,zS,zM,zX,zU,Nat.reduceEqDiff,reduceIte]) (by simp only [zZ,zR,zP,zQ,zN,zS,zM,zX,zU,Nat.reduceEqDiff,reduceIte])
theorem qSh {l:List (Ck ByteArray)} {i:Nat} {d:List FV} (h:i < l.length):(cks l).getD i d=ckE l[i]:=by unfold cks;rw [jT h]
set_option maxHeartbeats 4000000 in
theorem qSy (o a b:List ByteArray) (i j k m:Nat) (out:List (Ck ByteArray)) (hs:∀ c,out.getLast?=some c→c.st=false) (hm:m < o.length) (ho:o.length≤1000) (hi:i≤1000) (hj:j≤1000) (hk:k≤1000) (hn:out.length≤10000) :
  HFunS Tryz.prog 67 [.ptr 0 7 0 0,.v (.int .i64 m)] (cuS o a b i j k out) (fun h st=>h=.tup []∧st=cuT o a b (i + 1) (j + 1) (k + 1) out ⟨true,[o[m]],[o[m]],[o[m]]⟩):=by
 refine qMc (N:=105) Tryz.func67 rfl Tryz.ntmps67 Tryz.results67 (by simp) ?_
 refine zE ?_;refine zJ (fun K hK=>?_);simp (disch:=omega) only [push_cast,↓Int.cast_ofNat_Int,simprocAttr,aF,bJ,eY hm];refine hK _ ?_
 refine zE ?_;refine zE ?_;refine zJ (fun K hK=>?_);simp (disch:=omega) only [push_cast,↓Int.cast_ofNat_Int,simprocAttr,iE];refine hK _ ?_
 refine yB [0,4,5] [0,1] (by simp only [zZ,zR,zP,zQ,zN,zS,zM,zX,zU,Nat.reduceEqDiff,reduceIte];exact rfl) ?_
 rcases List.eq_nil_or_concat out with rfl|⟨q,c,rfl⟩
 ·refine zE ?_;refine zJ (fun K hK=>?_);simp (disch:=omega) only [push_cast,↓Int.cast_ofNat_Int,simprocAttr];refine hK _ ?_
  refine zA ?_;refine yC rfl ?_;refine yB [0,4] [0,1] (by simp only [zZ,zR,zP,zQ,zN,zS,zM,zX,zU,Nat.reduceEqDiff,reduceIte];exact rfl) ?_
  refine qSz o a b i j k o[m] [] _ hn (fun E R hE hR=>?_)
  refine zE ?_;refine yB (S':=⟨[(0,.ptr 0 7 0 0)],[(0,cuR o a b i j k),(1,zM6 []),(1000002,pE [o[m]]),(1000003,pE [o[m]]),(1000004,pE [o[m]])]⟩) [0] [0,1,1000002,1000003,1000004] (by simp only [HS.keep];rw [hE,hR]) ?_
  refine zJ (fun K hK=>?_);simp (disch:=omega) only [push_cast,↓Int.cast_ofNat_Int,simprocAttr];refine hK _ ?_
  refine zE ?_;refine zJ (fun K hK=>?_);simp (disch:=omega) only [push_cast,↓Int.cast_ofNat_Int,simprocAttr];refine hK _ ?_
  refine zA ?_;refine zJ (fun K hK=>?_);simp (disch:=omega) only [push_cast,↓Int.cast_ofNat_Int,simprocAttr];refine hK _ ?_
  simp only [aX,cV,yH,yE,yK,yJ,eM,zS,zM,Nat.reduceEqDiff,reduceIte,reduceCtorEq];refine mG [0,1,1000002,1000003,1000004] (by decide) (by decide) (by simp only [push_cast,simprocAttr,List.map_append,cK]) (by simp only [push_cast,simprocAttr,List.map_append,cK]) (by simp only [push_cast,simprocAttr,List.map_append,cK];rfl) (by simp only [push_cast,simprocAttr,List.map_append,cK];rfl) ?_
  exact ⟨rfl,rfl⟩
 ·rw [List.concat_eq_append] at hs hn ⊢
  have hc:c.st=false:=hs c (by simp)
  have e0:((q ++ [c]).length:Int) - 1=(q.length:Int):=by simp
  have hl:(cks (q ++ [c])).length=q.length + 1:=by rw [iE];simp
  have hg:∀ d,(cks (q ++ [c])).getD q.length d=[.v (.bool false),.lst true (aK c.b),.lst true (aK c.l),.lst true (aK c.r)]:=fun d=>by
   rw [qSh (by simp)];simp [ckE,hc]
  rw [e0];refine zE ?_;refine zJ (fun K hK=>?_);simp (disch:=omega) only [push_cast,↓Int.cast_ofNat_Int,simprocAttr,hl,hg,oS];refine hK _ ?_
  refine zA ?_;refine yC rfl ?_;refine yB [0,4] [0,1] (by simp only [zZ,zR,zP,zQ,zN,zS,zM,zX,zU,Nat.reduceEqDiff,reduceIte];exact rfl) ?_
  refine qSz o a b i j k o[m] (q ++ [c]) _ hn (fun E R hE hR=>?_)
  refine zE ?_;refine yB (S':=⟨[(0,.ptr 0 7 0 0)],[(0,cuR o a b i j k),(1,zM6 (q ++ [c])),(1000002,pE [o[m]]),(1000003,pE [o[m]]),(1000004,pE [o[m]])]⟩) [0] [0,1,1000002,1000003,1000004] (by simp only [HS.keep];rw [hE,hR]) ?_
  refine zJ (fun K hK=>?_);simp (disch:=omega) only [push_cast,↓Int.cast_ofNat_Int,simprocAttr];refine hK _ ?_
  refine zE ?_;refine zJ (fun K hK=>?_);simp (disch:=omega) only [push_cast,↓Int.cast_ofNat_Int,simprocAttr];refine hK _ ?_
  refine zA ?_;refine zJ (fun K hK=>?_);simp (disch:=omega) only [push_cast,↓Int.cast_ofNat_Int,simprocAttr];refine hK _ ?_
  simp only [aX,cV,yH,yE,yK,yJ,eM,zS,zM,Nat.reduceEqDiff,reduceIte,reduceCtorEq];refine mG [0,1,1000002,1000003,1000004] (by decide) (by decide) (by simp only [push_cast,simprocAttr,List.map_append,cK]) (by simp only [push_cast,simprocAttr,List.map_append,cK]) (by simp only [push_cast,simprocAttr,List.map_append,cK];rfl) (by simp only [push_cast,simprocAttr,List.map_append,cK];rfl) ?_
  exact ⟨rfl,rfl⟩
end Go.Proofs.YtdfjeokjmigkaaaGreat
end
section
set_option maxRecDepth 20000
namespace Go.Proofs.YtdfjeokjmigkaaaGreat
open Go Go.Eng Go.RowKit

def cat (l:List ByteArray):ByteArray:=⟨(l.map (·.data.toList)).flatten.toArray⟩
theorem qV1 (a:ByteArray) (l:List ByteArray):cat (a :: l)=a ++ cat l:=by
 apply ByteArray.ext;apply Array.toList_inj.1;simp [cat]
theorem mX (a b:List ByteArray):cat (a ++ b)=cat a ++ cat b:=by
 apply ByteArray.ext;apply Array.toList_inj.1;simp [cat]
theorem qJ9 (a:ByteArray):cat [a]=a:=by
 apply ByteArray.ext;apply Array.toList_inj.1;simp [cat]
theorem qUn (l:List (List UInt8)):Lib.join l []=l.flatten:=by
 cases l with
|nil=>exact Lib.join_nil []
|cons x r=>rw [Lib.join_cons];simp [Lib.joinTail]
set_option maxHeartbeats 1000000 in
theorem zM4 (l:List ByteArray) (hl:l.length≤140737488355328) (hs:(cat l).size≤140737488355328):HFun Tryz.prog 68 [.lst false (aK l),.v (.string ⟨#[]⟩)] (fun h st=>h=.v (.string (cat l))∧st=[]):=by
 refine qAl fun w vs R=>?_
 obtain ⟨r1,r2⟩:=R
 match vs,r1 with
|[a,b],_ =>
 have ha:=r2 0 (by simp) (by simp)
 have hb:=r2 1 (by simp) (by simp)
 simp only [List.getElem_cons_zero,List.getElem_cons_succ] at ha hb
 have:=bK hb
 subst this
 cases ha with
|lst hF =>
 cases hF with
|lst sz vals hn hc hm hnil hsz hadd h1 hr =>
 rename_i ad n cap _
 have hn':l.length=n:=by rw [← hn,aF]
 subst hn'
 by_cases h0:l.length=0
 ·have:l=[]:=List.eq_nil_of_length_eq_zero h0
  subst this;refine (Tryz.strings_Join_none ad cap ⟨#[]⟩ w).mono ?_;rintro e w' ⟨rfl,rfl⟩;exact rE ⟨rfl,Below.refl _ _⟩
 ·obtain ⟨bk,off,rfl,-,hbk,-,hcell⟩:=hadd (by omega)
  have hszz:sz=1:=by
   have:=hsz ((aK l)[0]'(by rw [aF];omega)) (List.getElem_mem _)
   rw [← this];simp [aK,qB1]
  subst hszz;refine (Tryz.strings_Join bk off cap l ⟨#[]⟩ w (fun j x hx=>?_) hbk hl hc ?_).mono ?_
  ·have hj:j < l.length:=(List.getElem?_eq_some_iff.1 hx).1
   have h3:=hcell j 0 hj (by omega)
   rw [show off + (j * 1 + 0)=off + j by omega] at h3
   rw [h3]
   have h4:=hr j 0 (by rw [aF];exact hj) (by simp [aK,qB1])
   simp only [aK,qB1,List.getElem_map,List.getElem_cons_zero] at h4;generalize vals j 0=u at h4
   cases h4
   have:=(List.getElem?_eq_some_iff.1 hx).2
   rw [this]
  ·show (Lib.join (l.map (·.data.toList)) []).length≤_
   rw [qUn]
   have:(l.map (·.data.toList)).flatten.length=(cat l).size:=by
    show _=Array.size _
    rw [List.size_toArray]
   omega
  ·rintro e w' ⟨rfl,B⟩;refine rE ⟨?_,B⟩;show Value.string ⟨(Lib.join (l.map (·.data.toList)) []).toArray⟩=_
   rw [qUn];rfl
set_option maxHeartbeats 1000000 in
theorem qHt (l:List ByteArray) (hl:l.length≤140737488355328) (hs:(cat l).size≤140737488355328):HFun Tryz.prog 46 [.lst false (aK l)] (fun h st=>h=.v (.string (cat l))):=by
 refine eF (N:=5) Tryz.func46 rfl Tryz.ntmps46 Tryz.results46 (by simp) ?_
 refine zE ?_;refine zJ (fun K hK=>?_);simp (disch:=omega) only [push_cast,↓Int.cast_ofNat_Int,simprocAttr];refine hK _ ?_
 refine zE ?_;refine zJ (fun K hK=>?_);simp (disch:=omega) only [push_cast,↓Int.cast_ofNat_Int,simprocAttr]
 refine aW zX4 ((zM4 l hl hs).mono fun h st q=>q.1) (.cons (aH (aN l)) (.cons (.v _) .nil)) ?_
 with_reducible refine aB ?_;simp (disch:=omega) only [push_cast,↓Int.cast_ofNat_Int,simprocAttr]
 refine hK _ ?_;refine zA ?_;refine zW ?_;simp only [yA,yM,yH,yE,aA,aC,yK,yJ,zS,zM,Nat.reduceEqDiff,reduceIte,reduceCtorEq];exact aL rfl
end Go.Proofs.YtdfjeokjmigkaaaGreat
end
