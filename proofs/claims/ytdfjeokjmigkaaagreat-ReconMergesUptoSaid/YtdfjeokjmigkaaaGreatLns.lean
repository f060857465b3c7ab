/-
  Lines: what they are; the walks of lines.Split, Count, Text, Closed and of the reference's.
-/
import Derived.Test.YtdfjeokjmigkaaaGreatMrA
import Derived.Test.YtdfjeokjmigkaaaGreatMgC
import Derived.Test.YtdfjeokjmigkaaaGreatCat
import Derived.Test.YtdfjeokjmigkaaaGreatLsp
set_option linter.unusedSimpArgs false
set_option linter.unusedVariables false
section
set_option maxRecDepth 20000
namespace Go.Proofs.YtdfjeokjmigkaaaGreat
open Go Go.Eng Go.RowKit Go.DiffM


set_option maxHeartbeats 8000000 in
theorem zRe (o a b:List ByteArray) (L:List (Nat × Nat × Nat)) (n i j k p q r:Nat) (out:List (Ck ByteArray)) (Q:gE) (ho:o.length≤400) (ha:a.length≤400) (hb:b.length≤400) (hn:n < L.length) (hL:L[n]=(p,q,r)) (hLl:L.length≤200000)
  (hi:i≤p∧p≤o.length) (hj:j≤q∧q≤a.length) (hk:k≤r∧r≤b.length) (ho2:out.length≤400000)
  (hQ:∀ S',S'.keep [10,11,12,13,14,18] [9000]=⟨[(10,.lst true (aK o)),(11,.lst true (aK a)),(12,.lst true (aK b)),(13,.lst true (jH L)),(14,.own 9000),(18,.v (.int .i64 n))],[(9000,.sl true 77 4 (cks (btO o a b i j k p q r out)))]⟩→Q .normal S') :
  HW Tryz.prog 189 (cAt [1,1,1,1,1,1,1,0,1,5,4,1,0,5,0] (Tryz.f48.body.getD .skip)) Q ⟨[(10,.lst true (aK o)),(11,.lst true (aK a)),(12,.lst true (aK b)),(13,.lst true (jH L)),(14,.own 9000),(15,.v (.int .i64 i)),(16,.v (.int .i64 j)),(17,.v (.int .i64 k)),(18,.v (.int .i64 n))],[(9000,.sl true 77 4 (cks out))]⟩:=by
 unfold Tryz.f48;dsimp only [Option.getD_some,cAt]
 have hll:(jH L).length=L.length:=qDg L
 have gL:∀ d,(jH L).getD n d=[.v (.int .i64 (p:Nat)),.v (.int .i64 (q:Nat)),.v (.int .i64 (r:Nat))]:=fun d=>by rw [qG9 hn,hL]
 have push:(i < p∨j < q∨k < r)→btO o a b i j k p q r out=out ++ [⟨false,(o.take p).drop i,(a.take q).drop j,(b.take r).drop k⟩]:=fun h=>by rw [btO,lM,if_pos h]
 have stay:¬ (i < p∨j < q∨k < r)→btO o a b i j k p q r out=out:=fun h=>by rw [btO,lM,if_neg h]
 have hw1:Wid 4 [[FV.v (.bool false),.lst true (aK ((o.take p).drop i)),.lst true (aK ((a.take q).drop j)),.lst true (aK ((b.take r).drop k))]]=True:=oS [⟨false,(o.take p).drop i,(a.take q).drop j,(b.take r).drop k⟩]
 have cs:(i < p)∨(¬ i < p∧j < q)∨(¬ i < p∧¬ j < q∧k < r)∨(¬ i < p∧¬ j < q∧¬ k < r):=by omega
 rcases cs with c1|⟨c1,c2⟩|⟨c1,c2,c3⟩|⟨c1,c2,c3⟩
 ·refine zE ?_;refine zJ (fun K hK=>?_);simp (disch:=omega) only [push_cast,↓Int.cast_ofNat_Int,simprocAttr,hll,gL,jB];refine hK _ ?_
  refine yD rfl ?_;refine yB [10,11,12,13,14,15,16,17,18] [9000] (by simp only [zZ,zR,zP,zQ,zN,zS,zM,zX,zU,Nat.reduceEqDiff,reduceIte];exact rfl) ?_
  refine mZ 28 [(27,some 9000)] [[(9000,.sl true 77 4 (cks out))],[(9000,.sl true 77 4 (cks (out ++ [⟨false,(o.take p).drop i,(a.take q).drop j,(b.take r).drop k⟩])))]] [(0,0,0)] mixed (by kernel_rfl) (by kernel_rfl) rfl (fun K hK K1 hK1=>?_);simp (disch:=omega) only [push_cast,↓Int.cast_ofNat_Int,simprocAttr,dB,cM,eB,cZ,fQ,lQ,cY,cL,aT,aZ,bP,aU,aV,fR,dC,dK,eE,eD,cP,bC,bQ,fV,fU,fT,dD,dE,dJ,dG,fW,cW,dF,eC,List.tail_cons,List.take_nil,List.drop_nil,hll,gL,jB,aF,bJ,oZ,pA,iE,qAy,hw1]
  refine hK1 _ ?_;(try clear hK1 K1);with_reducible refine aB ?_;simp (disch:=omega) only [push_cast,↓Int.cast_ofNat_Int,simprocAttr]
  refine hK _ ?_;refine hQ _ ?_;rw [push (.inl c1)];simp only [zZ,zR,zP,zQ,zN,zS,zM,zX,zU,Nat.reduceEqDiff,reduceIte]
 ·refine zE ?_;refine zJ (fun K hK=>?_);simp (disch:=omega) only [push_cast,↓Int.cast_ofNat_Int,simprocAttr,hll,gL,jB];refine hK _ ?_
  refine yD rfl ?_;refine yB [10,11,12,13,14,15,16,17,18] [9000] (by simp only [zZ,zR,zP,zQ,zN,zS,zM,zX,zU,Nat.reduceEqDiff,reduceIte];exact rfl) ?_
  refine mZ 28 [(27,some 9000)] [[(9000,.sl true 77 4 (cks out))],[(9000,.sl true 77 4 (cks (out ++ [⟨false,(o.take p).drop i,(a.take q).drop j,(b.take r).drop k⟩])))]] [(0,0,0)] mixed (by kernel_rfl) (by kernel_rfl) rfl (fun K hK K1 hK1=>?_);simp (disch:=omega) only [push_cast,↓Int.cast_ofNat_Int,simprocAttr,dB,cM,eB,cZ,fQ,lQ,cY,cL,aT,aZ,bP,aU,aV,fR,dC,dK,eE,eD,cP,bC,bQ,fV,fU,fT,dD,dE,dJ,dG,fW,cW,dF,eC,List.tail_cons,List.take_nil,List.drop_nil,hll,gL,jB,aF,bJ,oZ,pA,iE,qAy,hw1]
  refine hK1 _ ?_;(try clear hK1 K1);with_reducible refine aB ?_;simp (disch:=omega) only [push_cast,↓Int.cast_ofNat_Int,simprocAttr]
  refine hK _ ?_;refine hQ _ ?_;rw [push (.inr (.inl c2))];simp only [zZ,zR,zP,zQ,zN,zS,zM,zX,zU,Nat.reduceEqDiff,reduceIte]
 ·refine zE ?_;refine zJ (fun K hK=>?_);simp (disch:=omega) only [push_cast,↓Int.cast_ofNat_Int,simprocAttr,hll,gL,jB];refine hK _ ?_
  refine yD rfl ?_;refine yB [10,11,12,13,14,15,16,17,18] [9000] (by simp only [zZ,zR,zP,zQ,zN,zS,zM,zX,zU,Nat.reduceEqDiff,reduceIte];exact rfl) ?_
  refine mZ 28 [(27,some 9000)] [[(9000,.sl true 77 4 (cks out))],[(9000,.sl true 77 4 (cks (out ++ [⟨false,(o.take p).drop i,(a.take q).drop j,(b.take r).drop k⟩])))]] [(0,0,0)] mixed (by kernel_rfl) (by kernel_rfl) rfl (fun K hK K1 hK1=>?_);simp (disch:=omega) only [push_cast,↓Int.cast_ofNat_Int,simprocAttr,dB,cM,eB,cZ,fQ,lQ,cY,cL,aT,aZ,bP,aU,aV,fR,dC,dK,eE,eD,cP,bC,bQ,fV,fU,fT,dD,dE,dJ,dG,fW,cW,dF,eC,List.tail_cons,List.take_nil,List.drop_nil,hll,gL,jB,aF,bJ,oZ,pA,iE,qAy,hw1]
  refine hK1 _ ?_;(try clear hK1 K1);with_reducible refine aB ?_;simp (disch:=omega) only [push_cast,↓Int.cast_ofNat_Int,simprocAttr]
  refine hK _ ?_;refine hQ _ ?_;rw [push (.inr (.inr c3))];simp only [zZ,zR,zP,zQ,zN,zS,zM,zX,zU,Nat.reduceEqDiff,reduceIte]
 ·refine zE ?_;refine zJ (fun K hK=>?_);simp (disch:=omega) only [push_cast,↓Int.cast_ofNat_Int,simprocAttr,hll,gL,jB];refine hK _ ?_
  refine yC rfl ?_;refine zC ?_;refine hQ _ ?_;rw [stay (by omega)]
  simp only [zZ,zR,zP,zQ,zN,zS,zM,zX,zU,Nat.reduceEqDiff,reduceIte]
set_option maxHeartbeats 8000000 in
theorem zU5 (o a b:List ByteArray) (L:List (Nat × Nat × Nat)) (n p q r:Nat) (s:ByteArray) (out:List (Ck ByteArray)) (Q:gE) (ho:o.length≤400) (hp:p < o.length) (hs:o[p]=s) (ho2:out.length≤400000) (hok:∀ c ∈ out,(c.st=true→c.b=c.l∧c.b=c.r)∧c.b.length≤400)
  (hQ:∀ S',S'.keep [10,11,12,13,14,15,16,17,18] [9000]=⟨[(10,.lst true (aK o)),(11,.lst true (aK a)),(12,.lst true (aK b)),(13,.lst true (jH L)),(14,.own 9000),(15,.v (.int .i64 p)),(16,.v (.int .i64 q)),(17,.v (.int .i64 r)),(18,.v (.int .i64 n))],[(9000,.sl true 77 4 (cks (rD out s)))]⟩→Q .normal S') :
  HW Tryz.prog 189 (cAt [1,1,1,1,1,1,1,0,1,5,4,1,0,5,1,1,1,1,1,0] (Tryz.f48.body.getD .skip)) Q ⟨[(10,.lst true (aK o)),(11,.lst true (aK a)),(12,.lst true (aK b)),(13,.lst true (jH L)),(14,.own 9000),(15,.v (.int .i64 p)),(16,.v (.int .i64 q)),(17,.v (.int .i64 r)),(18,.v (.int .i64 n)),(19,.lst true (aK [s])),(20,.v (.int .i64 ((out.length:Int) - 1)))],[(9000,.sl true 77 4 (cks out))]⟩:=by
 unfold Tryz.f48;dsimp only [Option.getD_some,cAt]
 have go:∀ d,(aK o).getD p d=[.v (.string s)]:=fun d=>by rw [eY hp,hs]
 have hw1:Wid 4 [[FV.v (.bool true),.lst true (aK [s]),.lst true (aK [s]),.lst true (aK [s])]]=True:=oS [⟨true,[s],[s],[s]⟩]
 have hw2:Wid 1 [[FV.v (.string s)]]=True:=bJ [s]
 rcases qFc out s with ⟨pre,c,rfl,hc,e⟩|⟨hl,e⟩
 ·obtain ⟨hcc,hcl⟩:=hok c (by simp)
  obtain ⟨e1,e2⟩:=hcc hc
  have hli:((((pre ++ [c]).length:Nat):Int) - 1)=(pre.length:Int):=by simp
  rw [hli]
  have hlen:(cks (pre ++ [c])).length=pre.length + 1:=by rw [iE];simp
  have gc:∀ d,(cks (pre ++ [c])).getD pre.length d=[.v (.bool true),.lst true (aK c.b),.lst true (aK c.l),.lst true (aK c.r)]:=fun d=>by
   rw [cks,jT (by simp)];simp [ckE,hc]
  have hset:(cks (pre ++ [c])).set pre.length [.v (.bool true),.lst true (aK (c.b ++ [s])),.lst true (aK (c.b ++ [s])),.lst true (aK (c.b ++ [s]))]=cks (rD (pre ++ [c]) s):=by
   rw [e,← e1,← e2];simp [cks,ckE]
  refine zE ?_;refine zJ (fun K hK=>?_);simp (disch:=omega) only [push_cast,↓Int.cast_ofNat_Int,simprocAttr,hlen,gc,oS];refine hK _ ?_
  refine yD rfl ?_;refine zE ?_;refine yB [10,11,12,13,14,15,16,17,18,20] [9000] (by simp only [zZ,zR,zP,zQ,zN,zS,zM,zX,zU,Nat.reduceEqDiff,reduceIte];exact rfl) ?_
  refine mZ 13 [(0,some 1240),(6,some 1240),(12,some 1240)] [[(9000,.sl true 77 4 (cks (pre ++ [c])))],[(1240,.sl true 9 1 []),(9000,.sl true 77 4 (cks (pre ++ [c])))],[(1240,.sl true 9 1 (aK c.b)),(9000,.sl true 77 4 (cks (pre ++ [c])))],[(1240,.sl true 9 1 (aK (c.b ++ [s]))),(9000,.sl true 77 4 (cks (pre ++ [c])))]] [(3,0,3),(4,0,3),(5,0,1)] mixed (by kernel_rfl) (by kernel_rfl) rfl (fun K hK K1 hK1=>?_);simp (disch:=omega) only [push_cast,↓Int.cast_ofNat_Int,simprocAttr,dB,cM,eB,cZ,fQ,lQ,cY,cL,aT,aZ,bP,aU,aV,fR,dC,dK,eE,eD,cP,bC,bQ,fV,fU,fT,dD,dE,dJ,dG,fW,cW,dF,eC,List.tail_cons,List.take_nil,List.drop_nil,hlen,gc,go,oS,aF,bJ,iH,zHg,hw2,List.nil_append]
  refine hK1 _ ?_;(try clear hK1 K1);with_reducible refine aB ?_;simp (disch:=omega) only [push_cast,↓Int.cast_ofNat_Int,simprocAttr]
  refine hK _ ?_;refine yB [10,11,12,13,14,15,16,17,18,19,20] [9000,1240] (by simp only [zZ,zR,zP,zQ,zN,zS,zM,zX,zU,Nat.reduceEqDiff,reduceIte];exact rfl) ?_
  refine cU 1240 rfl (by simp only [dP,cJ,bH,bZ,bF,fD,cF,cG,bG,cE,cD,dQ,cH,cC,dL,dM,dN,Nat.reduceEqDiff,reduceIte,List.map_cons,List.map_nil,List.map_append];exact rfl) ?_
  refine zJ (fun K hK=>?_);simp (disch:=omega) only [push_cast,↓Int.cast_ofNat_Int,simprocAttr,hlen,gc,oS,hset];refine hK _ ?_
  refine hQ _ ?_;simp only [zZ,zR,zP,zQ,zN,zS,zM,zX,zU,Nat.reduceEqDiff,reduceIte]
 ·rcases List.eq_nil_or_concat out with rfl|⟨pre,c,rfl⟩
  ·have hli:(((([]:List (Ck ByteArray)).length:Nat):Int) - 1)=-1:=rfl
   rw [hli]
   have hsn:cks [] ++ [[.v (.bool true),.lst true (aK [s]),.lst true (aK [s]),.lst true (aK [s])]]=cks (rD [] s):=by rw [e,qAy]
   refine zE ?_;refine zJ (fun K hK=>?_);simp (disch:=omega) only [push_cast,↓Int.cast_ofNat_Int,simprocAttr];refine hK _ ?_
   refine yC rfl ?_;refine zJ (fun K hK=>?_);simp (disch:=omega) only [push_cast,↓Int.cast_ofNat_Int,simprocAttr,iE,hw1,hsn];(repeat refine ⟨by first|omega|decide|((repeat' apply And.intro) <;> first|omega|decide),?_⟩);refine hK _ ?_
   refine hQ _ ?_;simp only [zZ,zR,zP,zQ,zN,zS,zM,zX,zU,Nat.reduceEqDiff,reduceIte]
  ·rw [List.concat_eq_append] at *
   have hc:c.st=false:=hl c (by simp)
   have hli:((((pre ++ [c]).length:Nat):Int) - 1)=(pre.length:Int):=by simp
   rw [hli]
   have hlen:(cks (pre ++ [c])).length=pre.length + 1:=by rw [iE];simp
   have hll:pre.length + 1≤400000:=by simpa using ho2
   have gc:∀ d,(cks (pre ++ [c])).getD pre.length d=[.v (.bool false),.lst true (aK c.b),.lst true (aK c.l),.lst true (aK c.r)]:=fun d=>by
    rw [cks,jT (by simp)];simp [ckE,hc]
   have hsn:cks (pre ++ [c]) ++ [[.v (.bool true),.lst true (aK [s]),.lst true (aK [s]),.lst true (aK [s])]]=cks (rD (pre ++ [c]) s):=by rw [e,qAy]
   refine zE ?_;refine zJ (fun K hK=>?_);simp (disch:=omega) only [push_cast,↓Int.cast_ofNat_Int,simprocAttr,hlen,gc,oS];refine hK _ ?_
   refine yC rfl ?_;refine zJ (fun K hK=>?_);simp (disch:=omega) only [push_cast,↓Int.cast_ofNat_Int,simprocAttr,hlen,hw1,hsn];(repeat refine ⟨by first|omega|decide|((repeat' apply And.intro) <;> first|omega|decide),?_⟩);refine hK _ ?_
   refine hQ _ ?_;simp only [zZ,zR,zP,zQ,zN,zS,zM,zX,zU,Nat.reduceEqDiff,reduceIte]
end Go.Proofs.YtdfjeokjmigkaaaGreat
end
section
set_option maxRecDepth 20000
namespace Go.Proofs.YtdfjeokjmigkaaaGreat
open Go Go.Eng Go.RowKit
structure RI where
 a:Nat
 i:Nat
 l:List ByteArray
def lrE (s:ByteArray) (k:RI):HS:=⟨[(0,.v (.string s)),(3,.own 9000),(4,.v (.int .i64 k.a)),(5,.v (.int .i64 k.i))],[(9000,.sl true 9 1 (aK k.l))]⟩
def lrI (s:ByteArray) (k:RI):Prop:=k.a≤k.i∧k.i≤s.size∧k.l.length≤k.a∧(k.i=s.size→k.a=k.i)∧(∀ j,k.a≤j→j < k.i→dX s j≠10)∧bW s=k.l ++ bW (s.extract k.a s.size)
set_option maxHeartbeats 4000000 in
theorem qBa (s:ByteArray) (hs:s.size≤4294967296):HFun Tryz.prog 71 [.v (.string s)] (lsQ s):=by
 refine eF (N:=34) Tryz.func71 rfl Tryz.ntmps71 Tryz.results71 (by simp) ?_
 refine zE ?_;refine zJ (fun K hK=>?_);simp (disch:=omega) only [push_cast,↓Int.cast_ofNat_Int,simprocAttr];refine hK _ ?_
 refine zE ?_;refine zJ (fun K hK=>?_);simp (disch:=omega) only [push_cast,↓Int.cast_ofNat_Int,simprocAttr];refine hK _ ?_
 refine qE 3 9000 9 1 rfl (by simp only [oK,tJ,tK,gQ,fN,gG,fF,kG,gN,jD,gM,gK,iQ,gP,gJ,fM,iL,iN,iM,kF,kP,jC,Nat.reduceBEq,Nat.reduceEqDiff,reduceIte,cond_true,cond_false,List.map_cons,List.map_nil];exact rfl) ?_
 refine zE ?_;refine zJ (fun K hK=>?_);simp (disch:=omega) only [push_cast,↓Int.cast_ofNat_Int,simprocAttr];refine hK _ ?_
 refine zE ?_;refine zE ?_;refine zJ (fun K hK=>?_);simp (disch:=omega) only [push_cast,↓Int.cast_ofNat_Int,simprocAttr];refine hK _ ?_
 refine zA ?_;refine zD ?_;refine bR (lrE s) (lrI s) (fun k=>s.size - k.i) [0,3,4,5] [9000] ⟨0,0,[]⟩ (by simp only [zZ,zR,zP,zQ,zN,zS,zM,zX,zU,Nat.reduceEqDiff,reduceIte,lrE];rfl) ⟨Nat.le_refl _,Nat.zero_le _,Nat.le_refl _,fun _=>rfl,fun j _ h=>absurd h (Nat.not_lt_zero _),by rw [show (⟨0,0,[]⟩:RI).l=[] from rfl,show (⟨0,0,[]⟩:RI).a=0 from rfl,List.nil_append,← mY (s.extract 0 s.size),mN,List.take_of_length_le (Nat.le_of_eq (lE s)),List.drop_zero,mY]⟩ ?_
 rintro ⟨a,i,l⟩ ⟨h1,h2,h3,h4,h5,h6⟩;dsimp only at h1 h2 h3 h4 h5 h6;simp only [lrE]
 by_cases hlt:i < s.size
 ·refine zE ?_;refine zE ?_;refine zJ (fun K hK=>?_);simp (disch:=omega) only [push_cast,↓Int.cast_ofNat_Int,simprocAttr];refine hK _ ?_
  refine yD rfl ?_;refine zC ?_;refine zE ?_
  by_cases hb:dX s i=10
  ·refine zD ?_;refine zE ?_;refine zJ (fun K hK=>?_);simp (disch:=omega) only [push_cast,↓Int.cast_ofNat_Int,simprocAttr,hb];(repeat refine ⟨by first|omega|decide|((repeat' apply And.intro) <;> first|omega|decide),?_⟩);refine hK _ ?_
   refine yD rfl ?_;refine zE ?_;refine zJ (fun K hK=>?_);simp (disch:=omega) only [push_cast,↓Int.cast_ofNat_Int,simprocAttr,aF];(repeat refine ⟨by first|omega|decide|((repeat' apply And.intro) <;> first|omega|decide),?_⟩);refine hK _ ?_
   refine zA ?_;refine zJ (fun K hK=>?_);simp (disch:=omega) only [push_cast,↓Int.cast_ofNat_Int,simprocAttr];refine hK _ ?_
   refine zB ?_;refine zA ?_;refine zJ (fun K hK=>?_);simp (disch:=omega) only [push_cast,↓Int.cast_ofNat_Int,simprocAttr];refine hK _ ?_
   refine zA ?_;refine ⟨⟨i + 1,i + 1,l ++ [s.extract a (i + 1)]⟩,by simp only [zZ,zR,zP,zQ,zN,zS,zM,zX,zU,Nat.reduceEqDiff,reduceIte,lrE,iH];try rfl,⟨Nat.le_refl _,hlt,by simp;omega,fun _=>rfl,fun j p q=>by dsimp only at p q;omega,?_⟩,by dsimp only;omega⟩
   rw [h6,zBk s a i h1 hlt h5 (.inl hb)];simp
  ·by_cases hz:i + 1=s.size
   ·have e1:decide ((i:Int)=(s.size:Int) - 1)=true:=decide_eq_true (by omega)
    have e2:decide (dX s i=10)=false:=decide_eq_false hb
    refine zD ?_;refine zE ?_;refine zJ (fun K hK=>?_);simp (disch:=omega) only [push_cast,↓Int.cast_ofNat_Int,simprocAttr,e1,e2];(repeat refine ⟨by first|omega|decide|((repeat' apply And.intro) <;> first|omega|decide),?_⟩);refine hK _ ?_
    refine yD rfl ?_;refine zE ?_;refine zJ (fun K hK=>?_);simp (disch:=omega) only [push_cast,↓Int.cast_ofNat_Int,simprocAttr,aF];(repeat refine ⟨by first|omega|decide|((repeat' apply And.intro) <;> first|omega|decide),?_⟩);refine hK _ ?_
    refine zA ?_;refine zJ (fun K hK=>?_);simp (disch:=omega) only [push_cast,↓Int.cast_ofNat_Int,simprocAttr];refine hK _ ?_
    refine zB ?_;refine zA ?_;refine zJ (fun K hK=>?_);simp (disch:=omega) only [push_cast,↓Int.cast_ofNat_Int,simprocAttr];refine hK _ ?_
    refine zA ?_;refine ⟨⟨i + 1,i + 1,l ++ [s.extract a (i + 1)]⟩,by simp only [zZ,zR,zP,zQ,zN,zS,zM,zX,zU,Nat.reduceEqDiff,reduceIte,lrE,iH];try rfl,⟨Nat.le_refl _,hlt,by simp;omega,fun _=>rfl,fun j p q=>by dsimp only at p q;omega,?_⟩,by dsimp only;omega⟩
    rw [h6,zBk s a i h1 hlt h5 (.inr hz)];simp
   ·have e1:decide ((i:Int)=(s.size:Int) - 1)=false:=decide_eq_false (by omega)
    have e2:decide (dX s i=10)=false:=decide_eq_false hb
    refine zD ?_;refine zE ?_;refine zJ (fun K hK=>?_);simp (disch:=omega) only [push_cast,↓Int.cast_ofNat_Int,simprocAttr,e1,e2];(repeat refine ⟨by first|omega|decide|((repeat' apply And.intro) <;> first|omega|decide),?_⟩);refine hK _ ?_
    refine yC rfl ?_;refine zC ?_;refine zB ?_;refine zA ?_;refine zJ (fun K hK=>?_);simp (disch:=omega) only [push_cast,↓Int.cast_ofNat_Int,simprocAttr];refine hK _ ?_
    refine zA ?_;refine ⟨⟨a,i + 1,l⟩,by simp only [zZ,zR,zP,zQ,zN,zS,zM,zX,zU,Nat.reduceEqDiff,reduceIte,lrE];try rfl,⟨by dsimp only;omega,hlt,h3,fun h=>absurd h hz,fun j p q=>?_,h6⟩,by dsimp only;omega⟩
    dsimp only at p q
    by_cases e:j=i
    ·subst e;exact hb
    ·exact h5 j p (by omega)
 ·have hi:i=s.size:=by omega
  have ha:=h4 hi
  refine zE ?_;refine zE ?_;refine zJ (fun K hK=>?_);simp (disch:=omega) only [push_cast,↓Int.cast_ofNat_Int,simprocAttr];refine hK _ ?_
  refine yC rfl ?_;refine zT ?_;refine zG ?_;refine zG ?_;refine zH ?_;refine zE ?_;refine zJ (fun K hK=>?_);simp (disch:=omega) only [push_cast,↓Int.cast_ofNat_Int,simprocAttr];refine hK _ ?_
  refine zA ?_;refine zW ?_;simp only [yA,yM,yH,yE,aA,aC,yK,yJ,zS,zM,Nat.reduceEqDiff,reduceIte,reduceCtorEq]
  have e:bW s=l:=by
   rw [h6,ha,hi];unfold bW;rw [mN,List.drop_eq_nil_of_le (by simp)];simp [spl]
  exact lW rfl (iU _) ⟨rfl,by rw [e]⟩
end Go.Proofs.YtdfjeokjmigkaaaGreat
end
