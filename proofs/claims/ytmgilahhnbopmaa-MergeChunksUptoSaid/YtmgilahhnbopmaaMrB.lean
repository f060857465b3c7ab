/-
  The reference's merge: its pieces; the ways within its loop.
-/
import Derived.Test.YtmgilahhnbopmaaMrA
import Derived.Test.YtmgilahhnbopmaaMgC
import Derived.Test.YtmgilahhnbopmaaMgF
set_option linter.unusedSimpArgs false
set_option linter.unusedVariables false
set_option maxRecDepth 20000
namespace Go.Proofs.Ytmgilahhnbopmaa
open Go Go.Eng Go.RowKit Go.DiffM


set_option maxHeartbeats 8000000 in
theorem zHo (o a b:List ByteArray) (L:List (Nat × Nat × Nat)) (n i j k p q r:Nat) (out:List (Ck ByteArray)) (Q:gQ) (ho:o.length≤400) (ha:a.length≤400) (hb:b.length≤400) (hn:n < L.length) (hL:L[n]=(p,q,r)) (hLl:L.length≤200000)
  (hi:i≤p∧p≤o.length) (hj:j≤q∧q≤a.length) (hk:k≤r∧r≤b.length) (ho2:out.length≤400000)
  (hQ:∀ S',S'.keep [10,11,12,13,14,18] [9000]=⟨[(10,.lst true (aD o)),(11,.lst true (aD a)),(12,.lst true (aD b)),(13,.lst true (iZ L)),(14,.own 9000),(18,.v (.int .i64 n))],[(9000,.sl true 33 4 (cks (btO o a b i j k p q r out)))]⟩→Q .normal S') :
  HW Try.prog 189 (cAt [1,1,1,1,1,1,1,0,1,5,4,1,0,5,0] (Try.f5.body.getD .skip)) Q ⟨[(10,.lst true (aD o)),(11,.lst true (aD a)),(12,.lst true (aD b)),(13,.lst true (iZ L)),(14,.own 9000),(15,.v (.int .i64 i)),(16,.v (.int .i64 j)),(17,.v (.int .i64 k)),(18,.v (.int .i64 n))],[(9000,.sl true 33 4 (cks out))]⟩:=by
 unfold Try.f5;dsimp only [Option.getD_some,cAt]
 have hll:(iZ L).length=L.length:=qBf L
 have gL:∀ d,(iZ L).getD n d=[.v (.int .i64 (p:Nat)),.v (.int .i64 (q:Nat)),.v (.int .i64 (r:Nat))]:=fun d=>by rw [qEp hn,hL]
 have push:(i < p∨j < q∨k < r)→btO o a b i j k p q r out=out ++ [⟨false,(o.take p).drop i,(a.take q).drop j,(b.take r).drop k⟩]:=fun h=>by rw [btO,gX,if_pos h]
 have stay:¬ (i < p∨j < q∨k < r)→btO o a b i j k p q r out=out:=fun h=>by rw [btO,gX,if_neg h]
 have hw1:Wid 4 [[FV.v (.bool false),.lst true (aD ((o.take p).drop i)),.lst true (aD ((a.take q).drop j)),.lst true (aD ((b.take r).drop k))]]=True:=pN [⟨false,(o.take p).drop i,(a.take q).drop j,(b.take r).drop k⟩]
 have cs:(i < p)∨(¬ i < p∧j < q)∨(¬ i < p∧¬ j < q∧k < r)∨(¬ i < p∧¬ j < q∧¬ k < r):=by omega
 rcases cs with c1|⟨c1,c2⟩|⟨c1,c2,c3⟩|⟨c1,c2,c3⟩
 ·refine zE ?_;refine zJ (fun K hK=>?_);simp (disch:=omega) only [push_cast,↓iC9,simprocAttr,hll,gL,iP];refine hK _ ?_;clear hK K
  refine yD rfl ?_;refine yB [10,11,12,13,14,15,16,17,18] [9000] (by simp only [zZ,zR,zP,zQ,zN,zS,zM,zX,zU,Nat.reduceEqDiff,reduceIte];exact rfl) ?_
  refine lL 28 [(27,some 9000)] [[(9000,.sl true 33 4 (cks out))],[(9000,.sl true 33 4 (cks (out ++ [⟨false,(o.take p).drop i,(a.take q).drop j,(b.take r).drop k⟩])))]] [(0,0,0)] mixed (by kernel_rfl) (by kernel_rfl) rfl (fun K hK K1 hK1=>?_);simp (disch:=omega) only [push_cast,↓iC9,simprocAttr,dN,cX,eQ,dM,gA,kX,dK,cV,bN,bU,cJ,bP,bQ,gB,dP,dV,eX,eW,cY,bV,cK,gE,gD,gC,dQ,dR,dU,dT,gF,dH,dS,eV,List.tail_cons,List.take_nil,List.drop_nil,hll,gL,iP,aA,bE,fU,fV,jP,wJ,hw1]
  refine hK1 _ ?_;(try clear hK1 K1);with_reducible refine aH ?_;simp (disch:=omega) only [push_cast,↓iC9,simprocAttr]
  refine hK _ ?_;clear hK K;refine hQ _ ?_;rw [push (.inl c1)];simp only [zZ,zR,zP,zQ,zN,zS,zM,zX,zU,Nat.reduceEqDiff,reduceIte]
 ·refine zE ?_;refine zJ (fun K hK=>?_);simp (disch:=omega) only [push_cast,↓iC9,simprocAttr,hll,gL,iP];refine hK _ ?_;clear hK K
  refine yD rfl ?_;refine yB [10,11,12,13,14,15,16,17,18] [9000] (by simp only [zZ,zR,zP,zQ,zN,zS,zM,zX,zU,Nat.reduceEqDiff,reduceIte];exact rfl) ?_
  refine lL 28 [(27,some 9000)] [[(9000,.sl true 33 4 (cks out))],[(9000,.sl true 33 4 (cks (out ++ [⟨false,(o.take p).drop i,(a.take q).drop j,(b.take r).drop k⟩])))]] [(0,0,0)] mixed (by kernel_rfl) (by kernel_rfl) rfl (fun K hK K1 hK1=>?_);simp (disch:=omega) only [push_cast,↓iC9,simprocAttr,dN,cX,eQ,dM,gA,kX,dK,cV,bN,bU,cJ,bP,bQ,gB,dP,dV,eX,eW,cY,bV,cK,gE,gD,gC,dQ,dR,dU,dT,gF,dH,dS,eV,List.tail_cons,List.take_nil,List.drop_nil,hll,gL,iP,aA,bE,fU,fV,jP,wJ,hw1]
  refine hK1 _ ?_;(try clear hK1 K1);with_reducible refine aH ?_;simp (disch:=omega) only [push_cast,↓iC9,simprocAttr]
  refine hK _ ?_;clear hK K;refine hQ _ ?_;rw [push (.inr (.inl c2))];simp only [zZ,zR,zP,zQ,zN,zS,zM,zX,zU,Nat.reduceEqDiff,reduceIte]
 ·refine zE ?_;refine zJ (fun K hK=>?_);simp (disch:=omega) only [push_cast,↓iC9,simprocAttr,hll,gL,iP];refine hK _ ?_;clear hK K
  refine yD rfl ?_;refine yB [10,11,12,13,14,15,16,17,18] [9000] (by simp only [zZ,zR,zP,zQ,zN,zS,zM,zX,zU,Nat.reduceEqDiff,reduceIte];exact rfl) ?_
  refine lL 28 [(27,some 9000)] [[(9000,.sl true 33 4 (cks out))],[(9000,.sl true 33 4 (cks (out ++ [⟨false,(o.take p).drop i,(a.take q).drop j,(b.take r).drop k⟩])))]] [(0,0,0)] mixed (by kernel_rfl) (by kernel_rfl) rfl (fun K hK K1 hK1=>?_);simp (disch:=omega) only [push_cast,↓iC9,simprocAttr,dN,cX,eQ,dM,gA,kX,dK,cV,bN,bU,cJ,bP,bQ,gB,dP,dV,eX,eW,cY,bV,cK,gE,gD,gC,dQ,dR,dU,dT,gF,dH,dS,eV,List.tail_cons,List.take_nil,List.drop_nil,hll,gL,iP,aA,bE,fU,fV,jP,wJ,hw1]
  refine hK1 _ ?_;(try clear hK1 K1);with_reducible refine aH ?_;simp (disch:=omega) only [push_cast,↓iC9,simprocAttr]
  refine hK _ ?_;clear hK K;refine hQ _ ?_;rw [push (.inr (.inr c3))];simp only [zZ,zR,zP,zQ,zN,zS,zM,zX,zU,Nat.reduceEqDiff,reduceIte]
 ·refine zE ?_;refine zJ (fun K hK=>?_);simp (disch:=omega) only [push_cast,↓iC9,simprocAttr,hll,gL,iP];refine hK _ ?_;clear hK K
  refine yC rfl ?_;refine zC ?_;refine hQ _ ?_;rw [stay (by omega)]
  simp only [zZ,zR,zP,zQ,zN,zS,zM,zX,zU,Nat.reduceEqDiff,reduceIte]
set_option maxHeartbeats 8000000 in
theorem zKh (o a b:List ByteArray) (L:List (Nat × Nat × Nat)) (n p q r:Nat) (s:ByteArray) (out:List (Ck ByteArray)) (Q:gQ) (ho:o.length≤400) (hp:p < o.length) (hs:o[p]=s) (ho2:out.length≤400000) (hok:∀ c ∈ out,(c.st=true→c.b=c.l∧c.b=c.r)∧c.b.length≤400)
  (hQ:∀ S',S'.keep [10,11,12,13,14,15,16,17,18] [9000]=⟨[(10,.lst true (aD o)),(11,.lst true (aD a)),(12,.lst true (aD b)),(13,.lst true (iZ L)),(14,.own 9000),(15,.v (.int .i64 p)),(16,.v (.int .i64 q)),(17,.v (.int .i64 r)),(18,.v (.int .i64 n))],[(9000,.sl true 33 4 (cks (mG out s)))]⟩→Q .normal S') :
  HW Try.prog 189 (cAt [1,1,1,1,1,1,1,0,1,5,4,1,0,5,1,1,1,1,1,0] (Try.f5.body.getD .skip)) Q ⟨[(10,.lst true (aD o)),(11,.lst true (aD a)),(12,.lst true (aD b)),(13,.lst true (iZ L)),(14,.own 9000),(15,.v (.int .i64 p)),(16,.v (.int .i64 q)),(17,.v (.int .i64 r)),(18,.v (.int .i64 n)),(19,.lst true (aD [s])),(20,.v (.int .i64 ((out.length:Int) - 1)))],[(9000,.sl true 33 4 (cks out))]⟩:=by
 unfold Try.f5;dsimp only [Option.getD_some,cAt]
 have go:∀ d,(aD o).getD p d=[.v (.string s)]:=fun d=>by rw [fT hp,hs]
 have hw1:Wid 4 [[FV.v (.bool true),.lst true (aD [s]),.lst true (aD [s]),.lst true (aD [s])]]=True:=pN [⟨true,[s],[s],[s]⟩]
 have hw2:Wid 1 [[FV.v (.string s)]]=True:=bE [s]
 rcases qCw out s with ⟨pre,c,rfl,hc,e⟩|⟨hl,e⟩
 ·obtain ⟨hcc,hcl⟩:=hok c (by simp)
  obtain ⟨e1,e2⟩:=hcc hc
  have hli:((((pre ++ [c]).length:Nat):Int) - 1)=(pre.length:Int):=by simp
  rw [hli]
  have hlen:(cks (pre ++ [c])).length=pre.length + 1:=by rw [jP];simp
  have gc:∀ d,(cks (pre ++ [c])).getD pre.length d=[.v (.bool true),.lst true (aD c.b),.lst true (aD c.l),.lst true (aD c.r)]:=fun d=>by
   rw [cks,iG (by simp)];simp [ckE,hc]
  have hset:(cks (pre ++ [c])).set pre.length [.v (.bool true),.lst true (aD (c.b ++ [s])),.lst true (aD (c.b ++ [s])),.lst true (aD (c.b ++ [s]))]=cks (mG (pre ++ [c]) s):=by
   rw [e,← e1,← e2];simp [cks,ckE]
  refine zE ?_;refine zJ (fun K hK=>?_);simp (disch:=omega) only [push_cast,↓iC9,simprocAttr,hlen,gc,pN];refine hK _ ?_;clear hK K
  refine yD rfl ?_;refine zE ?_;refine yB [10,11,12,13,14,15,16,17,18,20] [9000] (by simp only [zZ,zR,zP,zQ,zN,zS,zM,zX,zU,Nat.reduceEqDiff,reduceIte];exact rfl) ?_
  refine lL 13 [(0,some 1240),(6,some 1240),(12,some 1240)] [[(9000,.sl true 33 4 (cks (pre ++ [c])))],[(1240,.sl true 9 1 []),(9000,.sl true 33 4 (cks (pre ++ [c])))],[(1240,.sl true 9 1 (aD c.b)),(9000,.sl true 33 4 (cks (pre ++ [c])))],[(1240,.sl true 9 1 (aD (c.b ++ [s]))),(9000,.sl true 33 4 (cks (pre ++ [c])))]] [(3,0,3),(4,0,3),(5,0,1)] mixed (by kernel_rfl) (by kernel_rfl) rfl (fun K hK K1 hK1=>?_);simp (disch:=omega) only [push_cast,↓iC9,simprocAttr,dN,cX,eQ,dM,gA,kX,dK,cV,bN,bU,cJ,bP,bQ,gB,dP,dV,eX,eW,cY,bV,cK,gE,gD,gC,dQ,dR,dU,dT,gF,dH,dS,eV,List.tail_cons,List.take_nil,List.drop_nil,hlen,gc,go,pN,aA,bE,mZ,zC7,hw2,List.nil_append]
  refine hK1 _ ?_;(try clear hK1 K1);with_reducible refine aH ?_;simp (disch:=omega) only [push_cast,↓iC9,simprocAttr]
  refine hK _ ?_;clear hK K;refine yB [10,11,12,13,14,15,16,17,18,19,20] [9000,1240] (by simp only [zZ,zR,zP,zQ,zN,zS,zM,zX,zU,Nat.reduceEqDiff,reduceIte];exact rfl) ?_
  refine dE 1240 rfl (by simp only [bJ,bC,aL,aT,aJ,cC,aX,aY,aK,aW,aV,bK,aZ,aU,bF,bG,bH,Nat.reduceEqDiff,reduceIte,List.map_cons,List.map_nil,List.map_append];exact rfl) ?_
  refine zJ (fun K hK=>?_);simp (disch:=omega) only [push_cast,↓iC9,simprocAttr,hlen,gc,pN,hset];refine hK _ ?_;clear hK K
  refine hQ _ ?_;simp only [zZ,zR,zP,zQ,zN,zS,zM,zX,zU,Nat.reduceEqDiff,reduceIte]
 ·rcases List.eq_nil_or_concat out with rfl|⟨pre,c,rfl⟩
  ·have hli:(((([]:List (Ck ByteArray)).length:Nat):Int) - 1)=-1:=rfl
   rw [hli]
   have hsn:cks [] ++ [[.v (.bool true),.lst true (aD [s]),.lst true (aD [s]),.lst true (aD [s])]]=cks (mG [] s):=by rw [e,wJ]
   refine zE ?_;refine zJ (fun K hK=>?_);simp (disch:=omega) only [push_cast,↓iC9,simprocAttr];refine hK _ ?_;clear hK K
   refine yC rfl ?_;refine zJ (fun K hK=>?_);simp (disch:=omega) only [push_cast,↓iC9,simprocAttr,jP,hw1,hsn];(repeat refine ⟨by first|omega|decide|((repeat' apply And.intro) <;> first|omega|decide),?_⟩);refine hK _ ?_;clear hK K
   refine hQ _ ?_;simp only [zZ,zR,zP,zQ,zN,zS,zM,zX,zU,Nat.reduceEqDiff,reduceIte]
  ·rw [List.concat_eq_append] at *
   have hc:c.st=false:=hl c (by simp)
   have hli:((((pre ++ [c]).length:Nat):Int) - 1)=(pre.length:Int):=by simp
   rw [hli]
   have hlen:(cks (pre ++ [c])).length=pre.length + 1:=by rw [jP];simp
   have hll:pre.length + 1≤400000:=by simpa using ho2
   have gc:∀ d,(cks (pre ++ [c])).getD pre.length d=[.v (.bool false),.lst true (aD c.b),.lst true (aD c.l),.lst true (aD c.r)]:=fun d=>by
    rw [cks,iG (by simp)];simp [ckE,hc]
   have hsn:cks (pre ++ [c]) ++ [[.v (.bool true),.lst true (aD [s]),.lst true (aD [s]),.lst true (aD [s])]]=cks (mG (pre ++ [c]) s):=by rw [e,wJ]
   refine zE ?_;refine zJ (fun K hK=>?_);simp (disch:=omega) only [push_cast,↓iC9,simprocAttr,hlen,gc,pN];refine hK _ ?_;clear hK K
   refine yC rfl ?_;refine zJ (fun K hK=>?_);simp (disch:=omega) only [push_cast,↓iC9,simprocAttr,hlen,hw1,hsn];(repeat refine ⟨by first|omega|decide|((repeat' apply And.intro) <;> first|omega|decide),?_⟩);refine hK _ ?_;clear hK K
   refine hQ _ ?_;simp only [zZ,zR,zP,zQ,zN,zS,zM,zX,zU,Nat.reduceEqDiff,reduceIte]
end Go.Proofs.Ytmgilahhnbopmaa
