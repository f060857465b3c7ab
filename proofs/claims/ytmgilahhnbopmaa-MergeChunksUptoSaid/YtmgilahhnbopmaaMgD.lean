/-
  merge's cutter: stable, walked.
-/
import Derived.Test.YtmgilahhnbopmaaMgC
set_option linter.unusedSimpArgs false
set_option linter.unusedVariables false
set_option maxRecDepth 20000
namespace Go.Proofs.Ytmgilahhnbopmaa
open Go Go.Eng Go.RowKit Go.DiffM


theorem qWs (l:List (Ck ByteArray)) (x:List HV):(ckH l ++ [x]).length=l.length + 1:=by simp [qBu]
theorem qHg (l:List (Ck ByteArray)) (x d:List HV):(ckH l ++ [x]).getD l.length d=x:=by
 rw [List.getD_eq_getElem?_getD,List.getElem?_append_right (by rw [qBu];exact Nat.le_refl _),qBu,Nat.sub_self];rfl
theorem zAu (l:List (Ck ByteArray)) (x y:List HV):(ckH l ++ [x]).set l.length y=ckH l ++ [y]:=by
 rw [List.set_append_right _ _ (by rw [qBu];exact Nat.le_refl _),qBu,Nat.sub_self];rfl
abbrev ckJ (pre:List (Ck ByteArray)) (x y z:HV):Row:=.hl true 33 4 (ckH pre ++ [[.v (.bool true),x,y,z]])
abbrev nF (l:List ByteArray):Row:=.sl true 9 1 (aD l)
set_option maxHeartbeats 4000000 in
theorem zC8 (o a b:List ByteArray) (i j k m:Nat) (pre:List (Ck ByteArray)) (c:Ck ByteArray) (hm:m < o.length) (ho:o.length≤1000) (hi:i≤1000) (hj:j≤1000) (hk:k≤1000) (hn:pre.length≤10000) (hB:c.b.length≤10000) (hL:c.l.length≤10000) (hR:c.r.length≤10000) :
  HFunS Try.prog 13 [.ptr 0 7 0 0,.v (.int .i64 m)] (cuT o a b i j k pre c) (fun h st=>h=.tup []∧st=cuT o a b (i + 1) (j + 1) (k + 1) pre ⟨true,c.b ++ [o[m]],c.l ++ [o[m]],c.r ++ [o[m]]⟩):=by
 refine qGc (N:=105) Try.func13 rfl Try.ntmps13 Try.results13 (by simp) ?_
 have e0:(pre.length:Int) + 1 - 1=(pre.length:Int):=by omega
 refine zE ?_;refine zJ (fun K hK=>?_);simp (disch:=omega) only [push_cast,↓iC9,simprocAttr,aA,bE,fT hm];refine hK _ ?_;clear hK K
 refine zE ?_;refine zE ?_;refine zJ (fun K hK=>?_);simp (disch:=omega) only [push_cast,↓iC9,simprocAttr,qWs,e0];refine hK _ ?_;clear hK K
 refine yB [0,4,5] [0,1,2,3,4] (by simp only [zZ,zR,zP,zQ,zN,zS,zM,zX,zU,Nat.reduceEqDiff,reduceIte];exact rfl) ?_
 refine zE ?_;refine zJ (fun K hK=>?_);simp (disch:=omega) only [push_cast,↓iC9,simprocAttr,qWs,qHg];refine hK _ ?_;clear hK K
 refine zA ?_;refine yD rfl ?_;refine yB [0,4,5] [0,1,2,3,4] (by simp only [zZ,zR,zP,zQ,zN,zS,zM,zX,zU,Nat.reduceEqDiff,reduceIte];exact rfl) ?_
 refine zE ?_;refine zJ (fun K hK=>?_);simp (disch:=omega) only [push_cast,↓iC9,simprocAttr,qWs,qHg];refine hK _ ?_;clear hK K
 refine yB [0,4,6] [0,1,2,3,4] (by simp only [zZ,zR,zP,zQ,zN,zS,zM,zX,zU,Nat.reduceEqDiff,reduceIte];exact rfl) ?_
 refine lL 30 [(9,some 2),(16,some 3),(23,some 4),(26,none),(29,none)] [cuT o a b i j k pre c,[(2,nF (c.b ++ [o[m]])),(0,cuR o a b i j k),(1,ckJ pre .junk (.own 3) (.own 4)),(3,nF c.l),(4,nF c.r)],[(3,nF (c.l ++ [o[m]])),(2,nF (c.b ++ [o[m]])),(0,cuR o a b i j k),(1,ckJ pre .junk .junk (.own 4)),(4,nF c.r)],[(4,nF (c.r ++ [o[m]])),(3,nF (c.l ++ [o[m]])),(2,nF (c.b ++ [o[m]])),(0,cuR o a b i j k),(1,ckJ pre .junk .junk .junk)],[(4,nF (c.r ++ [o[m]])),(3,nF (c.l ++ [o[m]])),(2,nF (c.b ++ [o[m]])),(0,cuR o a b i j k),(1,ckJ pre (.own 2) .junk .junk)],[(4,nF (c.r ++ [o[m]])),(3,nF (c.l ++ [o[m]])),(2,nF (c.b ++ [o[m]])),(0,cuR o a b i j k),(1,ckJ pre (.own 2) (.own 3) .junk)]] [(6,0,0),(13,0,1),(20,0,2)] mixed (by kernel_rfl) (by kernel_rfl) rfl (fun K hK K1 hK1=>?_);simp (disch:=omega) only [push_cast,↓iC9,simprocAttr,dN,cX,eQ,dM,gA,kX,dK,cV,bN,bU,cJ,bP,bQ,gB,dP,dV,eX,eW,cY,bV,cK,gE,gD,gC,dQ,dR,dU,dT,gF,dH,dS,eV,List.tail_cons,List.take_nil,List.drop_nil,qWs,qHg,zAu,sF,List.map_append,aA,mZ,bE]
 have w1:Wid 1 [[FV.v (.string o[m])]]:=by intro x hx;simp at hx;subst hx;rfl
 refine ⟨w1,w1,w1,?_⟩;refine hK1 _ ?_;(try clear hK1 K1);with_reducible refine aH ?_;simp (disch:=omega) only [push_cast,↓iC9,simprocAttr,qWs,qHg,zAu]
 refine hK _ ?_;clear hK K;refine zE ?_;refine yB [0] [0,1,2,3,4] (by simp only [zZ,zR,zP,zQ,zN,zS,zM,zX,zU,Nat.reduceEqDiff,reduceIte];exact rfl) ?_
 refine zJ (fun K hK=>?_);simp (disch:=omega) only [push_cast,↓iC9,simprocAttr];refine hK _ ?_;clear hK K
 refine zE ?_;refine zJ (fun K hK=>?_);simp (disch:=omega) only [push_cast,↓iC9,simprocAttr];refine hK _ ?_;clear hK K
 refine zA ?_;refine zJ (fun K hK=>?_);simp (disch:=omega) only [push_cast,↓iC9,simprocAttr];refine hK _ ?_;clear hK K
 simp only [bL,cS,yH,yE,yK,yJ,eJ,zS,zM,Nat.reduceEqDiff,reduceIte,reduceCtorEq];refine kK [0,1,2,3,4] (by decide) (by decide) (by simp only [push_cast,simprocAttr,List.map_append,cP]) (by simp only [push_cast,simprocAttr,List.map_append,cP]) (by simp only [push_cast,simprocAttr,List.map_append,cP];rfl) (by simp only [push_cast,simprocAttr,List.map_append,cP];rfl) ?_
 exact ⟨rfl,rfl⟩
abbrev zGu (l:List (Ck ByteArray)):Row:=.hl true 33 4 (ckH l ++ [ckL 1000002 1000003 1000004])
set_option maxHeartbeats 4000000 in
theorem qTj (o a b:List ByteArray) (i j k:Nat) (s:ByteArray) (out:List (Ck ByteArray)) (Q:gQ) (hn:out.length≤10000)
  (hQ:∀ E R,pC [0] E=[(0,.ptr 0 7 0 0)]→uJ [0,1,1000002,1000003,1000004] R=[(0,cuR o a b i j k),(1,zGu out),(1000002,nF [s]),(1000003,nF [s]),(1000004,nF [s])]→Q .normal ⟨E,R⟩) :
  HW Try.prog 105 (cAt [1,0,1,1,3] (Try.f13.body.getD .skip)) Q ⟨[(0,.ptr 0 7 0 0),(4,.v (.string s))],cuS o a b i j k out⟩:=by
 unfold Try.f13;dsimp only [Option.getD_some,cAt]
 have e0:(cks out).map (List.map FV.h)=ckH out:=rfl
 have e1:[[FV.v (.string s)]]=aD [s]:=rfl
 refine zGd 1 rfl (by simp only [mK,kC,List.map_cons,List.map_nil,zFr,qMj,Nat.reduceEqDiff,reduceIte,e0];exact rfl) ?_
 refine zA2 (fun K hK=>?_)
 refine qW6 11 [0,68,72,74,76,78,79,80,81,82,83] [0,1,592,608,624] ?_;simp (disch:=omega) only [push_cast,↓iC9,simprocAttr,e1];refine aH ?_;simp only [zZ,zR,zP,zQ,zN,zS,zM,zX,zU,Nat.reduceEqDiff,reduceIte,List.drop_succ_cons,List.drop_zero];refine pX 592 1000002 (by decide) rfl rfl (by simp only [fZ,kW,eY,dW,eP,dL,gS,eC,eB,eF,fQ,eD,dZ,dD,fG,fJ,fH,Nat.reduceMul,Nat.reduceAdd,Nat.reduceEqDiff,reduceIte,List.map_cons,List.map_nil];exact rfl) ?_
 refine pX 608 1000003 (by decide) rfl rfl (by simp only [fZ,kW,eY,dW,eP,dL,gS,eC,eB,eF,fQ,eD,dZ,dD,fG,fJ,fH,Nat.reduceMul,Nat.reduceAdd,Nat.reduceEqDiff,reduceIte,List.map_cons,List.map_nil];exact rfl) ?_
 refine pX 624 1000004 (by decide) rfl rfl (by simp only [fZ,kW,eY,dW,eP,dL,gS,eC,eB,eF,fQ,eD,dZ,dD,fG,fJ,fH,Nat.reduceMul,Nat.reduceAdd,Nat.reduceEqDiff,reduceIte,List.map_cons,List.map_nil];exact rfl) ?_
 refine qW5 ?_;simp (disch:=omega) only [push_cast,↓iC9,simprocAttr,qBu,sF,cP,List.map_append];refine hK _ ?_;clear hK K;exact hQ _ _ (by simp only [zZ,zR,zP,zQ,zN,zS,zM,zX,zU,Nat.reduceEqDiff,reduceIte]) (by simp only [zZ,zR,zP,zQ,zN,zS,zM,zX,zU,Nat.reduceEqDiff,reduceIte])
theorem zAs {l:List (Ck ByteArray)} {i:Nat} {d:List FV} (h:i < l.length):(cks l).getD i d=ckE l[i]:=by unfold cks;rw [iG h]
set_option maxHeartbeats 4000000 in
theorem qTi (o a b:List ByteArray) (i j k m:Nat) (out:List (Ck ByteArray)) (hs:∀ c,out.getLast?=some c→c.st=false) (hm:m < o.length) (ho:o.length≤1000) (hi:i≤1000) (hj:j≤1000) (hk:k≤1000) (hn:out.length≤10000) :
  HFunS Try.prog 13 [.ptr 0 7 0 0,.v (.int .i64 m)] (cuS o a b i j k out) (fun h st=>h=.tup []∧st=cuT o a b (i + 1) (j + 1) (k + 1) out ⟨true,[o[m]],[o[m]],[o[m]]⟩):=by
 refine qGc (N:=105) Try.func13 rfl Try.ntmps13 Try.results13 (by simp) ?_
 refine zE ?_;refine zJ (fun K hK=>?_);simp (disch:=omega) only [push_cast,↓iC9,simprocAttr,aA,bE,fT hm];refine hK _ ?_;clear hK K
 refine zE ?_;refine zE ?_;refine zJ (fun K hK=>?_);simp (disch:=omega) only [push_cast,↓iC9,simprocAttr,jP];refine hK _ ?_;clear hK K
 refine yB [0,4,5] [0,1] (by simp only [zZ,zR,zP,zQ,zN,zS,zM,zX,zU,Nat.reduceEqDiff,reduceIte];exact rfl) ?_
 rcases List.eq_nil_or_concat out with rfl|⟨q,c,rfl⟩
 ·refine zE ?_;refine zJ (fun K hK=>?_);simp (disch:=omega) only [push_cast,↓iC9,simprocAttr];refine hK _ ?_;clear hK K
  refine zA ?_;refine yC rfl ?_;refine yB [0,4] [0,1] (by simp only [zZ,zR,zP,zQ,zN,zS,zM,zX,zU,Nat.reduceEqDiff,reduceIte];exact rfl) ?_
  refine qTj o a b i j k o[m] [] _ hn (fun E R hE hR=>?_)
  refine zE ?_;refine yB (S':=⟨[(0,.ptr 0 7 0 0)],[(0,cuR o a b i j k),(1,zGu []),(1000002,nF [o[m]]),(1000003,nF [o[m]]),(1000004,nF [o[m]])]⟩) [0] [0,1,1000002,1000003,1000004] (by simp only [HS.keep];rw [hE,hR]) ?_
  refine zJ (fun K hK=>?_);simp (disch:=omega) only [push_cast,↓iC9,simprocAttr];refine hK _ ?_;clear hK K
  refine zE ?_;refine zJ (fun K hK=>?_);simp (disch:=omega) only [push_cast,↓iC9,simprocAttr];refine hK _ ?_;clear hK K
  refine zA ?_;refine zJ (fun K hK=>?_);simp (disch:=omega) only [push_cast,↓iC9,simprocAttr];refine hK _ ?_;clear hK K
  simp only [bL,cS,yH,yE,yK,yJ,eJ,zS,zM,Nat.reduceEqDiff,reduceIte,reduceCtorEq];refine kK [0,1,1000002,1000003,1000004] (by decide) (by decide) (by simp only [push_cast,simprocAttr,List.map_append,cP]) (by simp only [push_cast,simprocAttr,List.map_append,cP]) (by simp only [push_cast,simprocAttr,List.map_append,cP];rfl) (by simp only [push_cast,simprocAttr,List.map_append,cP];rfl) ?_
  exact ⟨rfl,rfl⟩
 ·rw [List.concat_eq_append] at hs hn ⊢
  have hc:c.st=false:=hs c (by simp)
  have e0:((q ++ [c]).length:Int) - 1=(q.length:Int):=by simp
  have hl:(cks (q ++ [c])).length=q.length + 1:=by rw [jP];simp
  have hg:∀ d,(cks (q ++ [c])).getD q.length d=[.v (.bool false),.lst true (aD c.b),.lst true (aD c.l),.lst true (aD c.r)]:=fun d=>by
   rw [zAs (by simp)];simp [ckE,hc]
  rw [e0];refine zE ?_;refine zJ (fun K hK=>?_);simp (disch:=omega) only [push_cast,↓iC9,simprocAttr,hl,hg,pN];refine hK _ ?_;clear hK K
  refine zA ?_;refine yC rfl ?_;refine yB [0,4] [0,1] (by simp only [zZ,zR,zP,zQ,zN,zS,zM,zX,zU,Nat.reduceEqDiff,reduceIte];exact rfl) ?_
  refine qTj o a b i j k o[m] (q ++ [c]) _ hn (fun E R hE hR=>?_)
  refine zE ?_;refine yB (S':=⟨[(0,.ptr 0 7 0 0)],[(0,cuR o a b i j k),(1,zGu (q ++ [c])),(1000002,nF [o[m]]),(1000003,nF [o[m]]),(1000004,nF [o[m]])]⟩) [0] [0,1,1000002,1000003,1000004] (by simp only [HS.keep];rw [hE,hR]) ?_
  refine zJ (fun K hK=>?_);simp (disch:=omega) only [push_cast,↓iC9,simprocAttr];refine hK _ ?_;clear hK K
  refine zE ?_;refine zJ (fun K hK=>?_);simp (disch:=omega) only [push_cast,↓iC9,simprocAttr];refine hK _ ?_;clear hK K
  refine zA ?_;refine zJ (fun K hK=>?_);simp (disch:=omega) only [push_cast,↓iC9,simprocAttr];refine hK _ ?_;clear hK K
  simp only [bL,cS,yH,yE,yK,yJ,eJ,zS,zM,Nat.reduceEqDiff,reduceIte,reduceCtorEq];refine kK [0,1,1000002,1000003,1000004] (by decide) (by decide) (by simp only [push_cast,simprocAttr,List.map_append,cP]) (by simp only [push_cast,simprocAttr,List.map_append,cP]) (by simp only [push_cast,simprocAttr,List.map_append,cP];rfl) (by simp only [push_cast,simprocAttr,List.map_append,cP];rfl) ?_
  exact ⟨rfl,rfl⟩
end Go.Proofs.Ytmgilahhnbopmaa
