/-
  merge's cutter: stable, the pieces' lists ay leaves or rows.
-/
import Derived.Test.YtmgilahhnbopmaaMgD
import Derived.Test.YtmgilahhnbopmaaMhC
set_option linter.unusedSimpArgs false
set_option linter.unusedVariables false
set_option maxRecDepth 20000
namespace Go.Proofs.Ytmgilahhnbopmaa
open Go Go.Eng Go.RowKit Go.DiffM
theorem qWp (l:List CkV) (x:List HV):(ckW l ++ [x]).length=l.length + 1:=by simp [jQ]
theorem qHf (l:List CkV) (x d:List HV):(ckW l ++ [x]).getD l.length d=x:=by
 rw [List.getD_eq_getElem?_getD,List.getElem?_append_right (by rw [jQ];exact Nat.le_refl _),jQ,Nat.sub_self];rfl
theorem zAt (l:List CkV) (x y:List HV):(ckW l ++ [x]).set l.length y=ckW l ++ [y]:=by
 rw [List.set_append_right _ _ (by rw [jQ];exact Nat.le_refl _),jQ,Nat.sub_self];rfl
abbrev cvJ (pre:List CkV) (x y z:HV):Row:=.hl true 33 4 (ckW pre ++ [[.v (.bool true),x,y,z]])
set_option maxHeartbeats 4000000 in
theorem zGm (o a b:List ByteArray) (i j k m:Nat) (pre:List CkV) (c:Ck ByteArray) (hm:m < o.length) (ho:o.length≤1000) (hi:i≤1000) (hj:j≤1000) (hk:k≤1000) (hn:pre.length≤10000) (hB:c.b.length≤10000) (hL:c.l.length≤10000) (hR:c.r.length≤10000) :
  HFunS Try.prog 13 [.ptr 0 7 0 0,.v (.int .i64 m)] (cvT o a b i j k pre c) (fun h st=>h=.tup []∧st=cvT o a b (i + 1) (j + 1) (k + 1) pre ⟨true,c.b ++ [o[m]],c.l ++ [o[m]],c.r ++ [o[m]]⟩):=by
 refine qGc (N:=105) Try.func13 rfl Try.ntmps13 Try.results13 (by simp) ?_
 have e0:(pre.length:Int) + 1 - 1=(pre.length:Int):=by omega
 refine zE ?_;refine zJ (fun K hK=>?_);simp (disch:=omega) only [push_cast,↓iC9,simprocAttr,aA,bE,fT hm];refine hK _ ?_;clear hK K
 refine zE ?_;refine zE ?_;refine zJ (fun K hK=>?_);simp (disch:=omega) only [push_cast,↓iC9,simprocAttr,qWp,e0];refine hK _ ?_;clear hK K
 refine yB [0,4,5] [0,1,2,3,4] (by simp only [zZ,zR,zP,zQ,zN,zS,zM,zX,zU,Nat.reduceEqDiff,reduceIte];exact rfl) ?_
 refine zE ?_;refine zJ (fun K hK=>?_);simp (disch:=omega) only [push_cast,↓iC9,simprocAttr,qWp,qHf];refine hK _ ?_;clear hK K
 refine zA ?_;refine yD rfl ?_;refine yB [0,4,5] [0,1,2,3,4] (by simp only [zZ,zR,zP,zQ,zN,zS,zM,zX,zU,Nat.reduceEqDiff,reduceIte];exact rfl) ?_
 refine zE ?_;refine zJ (fun K hK=>?_);simp (disch:=omega) only [push_cast,↓iC9,simprocAttr,qWp,qHf];refine hK _ ?_;clear hK K
 refine yB [0,4,6] [0,1,2,3,4] (by simp only [zZ,zR,zP,zQ,zN,zS,zM,zX,zU,Nat.reduceEqDiff,reduceIte];exact rfl) ?_
 refine lL 30 [(9,some 2),(16,some 3),(23,some 4),(26,none),(29,none)] [cvT o a b i j k pre c,[(2,tx (c.b ++ [o[m]])),(0,cuR o a b i j k),(1,cvJ pre .junk (.own 3) (.own 4)),(3,tx c.l),(4,tx c.r)],[(3,tx (c.l ++ [o[m]])),(2,tx (c.b ++ [o[m]])),(0,cuR o a b i j k),(1,cvJ pre .junk .junk (.own 4)),(4,tx c.r)],[(4,tx (c.r ++ [o[m]])),(3,tx (c.l ++ [o[m]])),(2,tx (c.b ++ [o[m]])),(0,cuR o a b i j k),(1,cvJ pre .junk .junk .junk)],[(4,tx (c.r ++ [o[m]])),(3,tx (c.l ++ [o[m]])),(2,tx (c.b ++ [o[m]])),(0,cuR o a b i j k),(1,cvJ pre (.own 2) .junk .junk)],[(4,tx (c.r ++ [o[m]])),(3,tx (c.l ++ [o[m]])),(2,tx (c.b ++ [o[m]])),(0,cuR o a b i j k),(1,cvJ pre (.own 2) (.own 3) .junk)]] [(6,0,0),(13,0,1),(20,0,2)] mixed (by kernel_rfl) (by kernel_rfl) rfl (fun K hK K1 hK1=>?_);simp (disch:=omega) only [push_cast,↓iC9,simprocAttr,dN,cX,eQ,dM,gA,kX,dK,cV,bN,bU,cJ,bP,bQ,gB,dP,dV,eX,eW,cY,bV,cK,gE,gD,gC,dQ,dR,dU,dT,gF,dH,dS,eV,List.tail_cons,List.take_nil,List.drop_nil,qWp,qHf,zAt,bS,List.map_append,aA,mZ,bE]
 have w1:Wid 1 [[FV.v (.string o[m])]]:=by intro x hx;simp at hx;subst hx;rfl
 refine ⟨w1,w1,w1,?_⟩;refine hK1 _ ?_;(try clear hK1 K1);with_reducible refine aH ?_;simp (disch:=omega) only [push_cast,↓iC9,simprocAttr,qWp,qHf,zAt]
 refine hK _ ?_;clear hK K;refine zE ?_;refine yB [0] [0,1,2,3,4] (by simp only [zZ,zR,zP,zQ,zN,zS,zM,zX,zU,Nat.reduceEqDiff,reduceIte];exact rfl) ?_
 refine zJ (fun K hK=>?_);simp (disch:=omega) only [push_cast,↓iC9,simprocAttr];refine hK _ ?_;clear hK K
 refine zE ?_;refine zJ (fun K hK=>?_);simp (disch:=omega) only [push_cast,↓iC9,simprocAttr];refine hK _ ?_;clear hK K
 refine zA ?_;refine zJ (fun K hK=>?_);simp (disch:=omega) only [push_cast,↓iC9,simprocAttr];refine hK _ ?_;clear hK K
 simp only [bL,cS,yH,yE,yK,yJ,eJ,zS,zM,Nat.reduceEqDiff,reduceIte,reduceCtorEq];refine kK [0,1,2,3,4] (by decide) (by decide) (by simp only [push_cast,simprocAttr,List.map_append,aE]) (by simp only [push_cast,simprocAttr,List.map_append,aE]) (by simp only [push_cast,simprocAttr,List.map_append,aE];rfl) (by simp only [push_cast,simprocAttr,List.map_append,aE];rfl) ?_
 exact ⟨rfl,rfl⟩
abbrev zGt (l:List CkV):Row:=.hl true 33 4 (ckW l ++ [ckL 1000002 1000003 1000004])
set_option maxHeartbeats 4000000 in
theorem qY2 (o a b:List ByteArray) (i j k:Nat) (s:ByteArray) (out:List CkV) (Q:gQ) (hn:out.length≤10000)
  (hQ:∀ E R,pC [0] E=[(0,.ptr 0 7 0 0)]→uJ [0,1,1000002,1000003,1000004] R=[(0,cuR o a b i j k),(1,zGt out),(1000002,tx [s]),(1000003,tx [s]),(1000004,tx [s])]→Q .normal ⟨E,R⟩) :
  HW Try.prog 105 (cAt [1,0,1,1,3] (Try.f13.body.getD .skip)) Q ⟨[(0,.ptr 0 7 0 0),(4,.v (.string s))],cvS o a b i j k out⟩:=by
 unfold Try.f13;dsimp only [Option.getD_some,cAt]
 have e1:[[FV.v (.string s)]]=aD [s]:=rfl
 refine zA2 (fun K hK=>?_)
 refine qW6 11 [0,68,72,74,76,78,79,80,81,82,83] [0,1,592,608,624] ?_;simp (disch:=omega) only [push_cast,↓iC9,simprocAttr,e1];refine aH ?_;simp only [zZ,zR,zP,zQ,zN,zS,zM,zX,zU,Nat.reduceEqDiff,reduceIte,List.drop_succ_cons,List.drop_zero];refine pX 592 1000002 (by decide) rfl rfl (by simp only [fZ,kW,eY,dW,eP,dL,gS,eC,eB,eF,fQ,eD,dZ,dD,fG,fJ,fH,Nat.reduceMul,Nat.reduceAdd,Nat.reduceEqDiff,reduceIte,List.map_cons,List.map_nil];exact rfl) ?_
 refine pX 608 1000003 (by decide) rfl rfl (by simp only [fZ,kW,eY,dW,eP,dL,gS,eC,eB,eF,fQ,eD,dZ,dD,fG,fJ,fH,Nat.reduceMul,Nat.reduceAdd,Nat.reduceEqDiff,reduceIte,List.map_cons,List.map_nil];exact rfl) ?_
 refine pX 624 1000004 (by decide) rfl rfl (by simp only [fZ,kW,eY,dW,eP,dL,gS,eC,eB,eF,fQ,eD,dZ,dD,fG,fJ,fH,Nat.reduceMul,Nat.reduceAdd,Nat.reduceEqDiff,reduceIte,List.map_cons,List.map_nil];exact rfl) ?_
 refine qW5 ?_;simp (disch:=omega) only [push_cast,↓iC9,simprocAttr,jQ,bS,aE,List.map_append];refine hK _ ?_;clear hK K;exact hQ _ _ (by simp only [zZ,zR,zP,zQ,zN,zS,zM,zX,zU,Nat.reduceEqDiff,reduceIte]) (by simp only [zZ,zR,zP,zQ,zN,zS,zM,zX,zU,Nat.reduceEqDiff,reduceIte])
theorem zJh {l:List CkV} {i:Nat} {d:List HV} (h:i < l.length):(ckW l).getD i d=qS0 l[i]:=by unfold ckW;rw [iG h]
set_option maxHeartbeats 4000000 in
theorem qR0 (o a b:List ByteArray) (i j k m:Nat) (out:List CkV) (hs:∀ c,out.getLast?=some c→c.1.st=false) (hm:m < o.length) (ho:o.length≤1000) (hi:i≤1000) (hj:j≤1000) (hk:k≤1000) (hn:out.length≤10000) :
  HFunS Try.prog 13 [.ptr 0 7 0 0,.v (.int .i64 m)] (cvS o a b i j k out) (fun h st=>h=.tup []∧st=cvT o a b (i + 1) (j + 1) (k + 1) out ⟨true,[o[m]],[o[m]],[o[m]]⟩):=by
 refine qGc (N:=105) Try.func13 rfl Try.ntmps13 Try.results13 (by simp) ?_
 refine zE ?_;refine zJ (fun K hK=>?_);simp (disch:=omega) only [push_cast,↓iC9,simprocAttr,aA,bE,fT hm];refine hK _ ?_;clear hK K
 refine zE ?_;refine zE ?_;refine zJ (fun K hK=>?_);simp (disch:=omega) only [push_cast,↓iC9,simprocAttr,jQ];refine hK _ ?_;clear hK K
 refine yB [0,4,5] [0,1] (by simp only [zZ,zR,zP,zQ,zN,zS,zM,zX,zU,Nat.reduceEqDiff,reduceIte];exact rfl) ?_
 rcases List.eq_nil_or_concat out with rfl|⟨q,c,rfl⟩
 ·refine zE ?_;refine zJ (fun K hK=>?_);simp (disch:=omega) only [push_cast,↓iC9,simprocAttr];refine hK _ ?_;clear hK K
  refine zA ?_;refine yC rfl ?_;refine yB [0,4] [0,1] (by simp only [zZ,zR,zP,zQ,zN,zS,zM,zX,zU,Nat.reduceEqDiff,reduceIte];exact rfl) ?_
  refine qY2 o a b i j k o[m] [] _ hn (fun E R hE hR=>?_)
  refine zE ?_;refine yB (S':=⟨[(0,.ptr 0 7 0 0)],[(0,cuR o a b i j k),(1,zGt []),(1000002,tx [o[m]]),(1000003,tx [o[m]]),(1000004,tx [o[m]])]⟩) [0] [0,1,1000002,1000003,1000004] (by simp only [HS.keep];rw [hE,hR]) ?_
  refine zJ (fun K hK=>?_);simp (disch:=omega) only [push_cast,↓iC9,simprocAttr];refine hK _ ?_;clear hK K
  refine zE ?_;refine zJ (fun K hK=>?_);simp (disch:=omega) only [push_cast,↓iC9,simprocAttr];refine hK _ ?_;clear hK K
  refine zA ?_;refine zJ (fun K hK=>?_);simp (disch:=omega) only [push_cast,↓iC9,simprocAttr];refine hK _ ?_;clear hK K
  simp only [bL,cS,yH,yE,yK,yJ,eJ,zS,zM,Nat.reduceEqDiff,reduceIte,reduceCtorEq];refine kK [0,1,1000002,1000003,1000004] (by decide) (by decide) (by simp only [push_cast,simprocAttr,List.map_append,aE]) (by simp only [push_cast,simprocAttr,List.map_append,aE]) (by simp only [push_cast,simprocAttr,List.map_append,aE];rfl) (by simp only [push_cast,simprocAttr,List.map_append,aE];rfl) ?_
  exact ⟨rfl,rfl⟩
 ·rw [List.concat_eq_append] at hs hn ⊢
  have hc:c.1.st=false:=hs c (by simp)
  have e0:((q ++ [c]).length:Int) - 1=(q.length:Int):=by simp
  have hl:(ckW (q ++ [c])).length=q.length + 1:=by rw [jQ];simp
  have hg:∀ d,(ckW (q ++ [c])).getD q.length d=[.v (.bool false),.v (hd c.2.1 c.1.b.length),.v (hd c.2.2.1 c.1.l.length),.v (hd c.2.2.2 c.1.r.length)]:=fun d=>by
   rw [zJh (by simp)];simp [qS0,hc]
  rw [e0];refine zE ?_;refine zJ (fun K hK=>?_);simp (disch:=omega) only [push_cast,↓iC9,simprocAttr,hl,hg];refine hK _ ?_;clear hK K
  refine zA ?_;refine yC rfl ?_;refine yB [0,4] [0,1] (by simp only [zZ,zR,zP,zQ,zN,zS,zM,zX,zU,Nat.reduceEqDiff,reduceIte];exact rfl) ?_
  refine qY2 o a b i j k o[m] (q ++ [c]) _ hn (fun E R hE hR=>?_)
  refine zE ?_;refine yB (S':=⟨[(0,.ptr 0 7 0 0)],[(0,cuR o a b i j k),(1,zGt (q ++ [c])),(1000002,tx [o[m]]),(1000003,tx [o[m]]),(1000004,tx [o[m]])]⟩) [0] [0,1,1000002,1000003,1000004] (by simp only [HS.keep];rw [hE,hR]) ?_
  refine zJ (fun K hK=>?_);simp (disch:=omega) only [push_cast,↓iC9,simprocAttr];refine hK _ ?_;clear hK K
  refine zE ?_;refine zJ (fun K hK=>?_);simp (disch:=omega) only [push_cast,↓iC9,simprocAttr];refine hK _ ?_;clear hK K
  refine zA ?_;refine zJ (fun K hK=>?_);simp (disch:=omega) only [push_cast,↓iC9,simprocAttr];refine hK _ ?_;clear hK K
  simp only [bL,cS,yH,yE,yK,yJ,eJ,zS,zM,Nat.reduceEqDiff,reduceIte,reduceCtorEq];refine kK [0,1,1000002,1000003,1000004] (by decide) (by decide) (by simp only [push_cast,simprocAttr,List.map_append,aE]) (by simp only [push_cast,simprocAttr,List.map_append,aE]) (by simp only [push_cast,simprocAttr,List.map_append,aE];rfl) (by simp only [push_cast,simprocAttr,List.map_append,aE];rfl) ?_
  exact ⟨rfl,rfl⟩
end Go.Proofs.Ytmgilahhnbopmaa
