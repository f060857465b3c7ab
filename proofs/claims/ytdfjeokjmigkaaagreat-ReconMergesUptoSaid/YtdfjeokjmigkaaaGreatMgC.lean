/-
  merge's cutter: between, walked.
-/
import Derived.Test.YtdfjeokjmigkaaaGreatSmH
import Derived.Test.YtdfjeokjmigkaaaGreatChn
import Derived.Test.YtdfjeokjmigkaaaGreatTrU
import Derived.Test.YtdfjeokjmigkaaaGreatCln
set_option linter.unusedSimpArgs false
set_option linter.unusedVariables false
set_option maxRecDepth 20000
namespace Go.Proofs.YtdfjeokjmigkaaaGreat
open Go Go.Eng Go.RowKit Go.DiffM


def ckE (c:Ck ByteArray):List FV:=[.v (.bool c.st),.lst true (aK c.b),.lst true (aK c.l),.lst true (aK c.r)]
def cks (l:List (Ck ByteArray)):List (List FV):=l.map ckE
theorem iE (l:List (Ck ByteArray)):(cks l).length=l.length:=by simp [cks]
theorem oS (l:List (Ck ByteArray)):Wid 4 (cks l)=True:=eq_true (vK l fun _=>rfl)
theorem qAy (l:List (Ck ByteArray)) (b:Bool) (x y z:List ByteArray):cks l ++ [[.v (.bool b),.lst true (aK x),.lst true (aK y),.lst true (aK z)]]=cks (l ++ [⟨b,x,y,z⟩]):=by simp [cks,ckE]
theorem qD4 (l:List (Ck ByteArray)):∀ x ∈ cks l,∀ f ∈ x,FreshF f:=fun x hx f hf=>by
 obtain ⟨h,-,rfl⟩:=List.mem_map.1 hx;simp only [ckE,List.mem_cons,List.not_mem_nil,or_false] at hf
 rcases hf with rfl|rfl|rfl|rfl
 ·exact .v _
 ·exact .lst (iU _)
 ·exact .lst (iU _)
 ·exact .lst (iU _)
abbrev cuR (o a b:List ByteArray) (i j k:Nat):Row:=.bx false 92 [.lst true (aK o),.lst true (aK a),.lst true (aK b),.v (.int .i64 i),.v (.int .i64 j),.v (.int .i64 k),.own 1]
abbrev cuS (o a b:List ByteArray) (i j k:Nat) (out:List (Ck ByteArray)):aD:=[(0,cuR o a b i j k),(1,.sl true 77 4 (cks out))]
set_option maxHeartbeats 4000000 in
theorem sL (o a b:List ByteArray) (i j k i' j' k':Nat) (out:List (Ck ByteArray)) (Q:gE) (ho:o.length≤1000) (ha:a.length≤1000) (hb:b.length≤1000) (hi:i≤i'∧i'≤o.length) (hj:j≤j'∧j'≤a.length) (hk:k≤k'∧k'≤b.length) (hn:out.length≤10000)
  (hQ:∀ E,qAk [0,1,2,3] E=[(0,.ptr 0 7 0 0),(1,.v (.int .i64 i')),(2,.v (.int .i64 j')),(3,.v (.int .i64 k'))]→Q .normal ⟨E,[(1,.sl true 77 4 (cks (out ++ [⟨false,(o.take i').drop i,(a.take j').drop j,(b.take k').drop k⟩]))),(0,cuR o a b i j k)]⟩) :
  HW Tryz.prog 85 (cAt [0,1,2] (Tryz.f66.body.getD .skip)) Q ⟨[(0,.ptr 0 7 0 0),(1,.v (.int .i64 i')),(2,.v (.int .i64 j')),(3,.v (.int .i64 k'))],cuS o a b i j k out⟩:=by
 unfold Tryz.f66;dsimp only [Option.getD_some,cAt]
 have c1:=qSf ((o.take i').drop i) (by rw [List.length_drop,List.length_take];omega)
 have c2:=qSf ((a.take j').drop j) (by rw [List.length_drop,List.length_take];omega)
 have c3:=qSf ((b.take k').drop k) (by rw [List.length_drop,List.length_take];omega)
 refine mZ 41 [(40,some 1)] [cuS o a b i j k out,[(1,.sl true 77 4 (cks (out ++ [⟨false,(o.take i').drop i,(a.take j').drop j,(b.take k').drop k⟩]))),(0,.bx false 92 [.lst true (aK o),.lst true (aK a),.lst true (aK b),.v (.int .i64 i),.v (.int .i64 j),.v (.int .i64 k),.junk])]] [(4,0,0),(8,0,1),(12,0,1),(19,0,1),(23,0,1),(30,0,1),(34,0,1)] mixed (by kernel_rfl) (by kernel_rfl) rfl (fun K hK K1 hK1=>?_);simp (disch:=omega) only [push_cast,↓Int.cast_ofNat_Int,simprocAttr,dB,cM,eB,cZ,fQ,lQ,cY,cL,aT,aZ,bP,aU,aV,fR,dC,dK,eE,eD,cP,bC,bQ,fV,fU,fT,dD,dE,dJ,dG,fW,cW,dF,eC,List.tail_cons,List.take_nil,List.drop_nil,aF,bJ,oZ,pA]
 refine qEo zTz c1 (.cons (aH (aN _)) .nil) ?_;with_reducible refine aB ?_;simp (disch:=omega) only [push_cast,↓Int.cast_ofNat_Int,simprocAttr,dB,cM,eB,cZ,fQ,lQ,cY,cL,aT,aZ,bP,aU,aV,fR,dC,dK,eE,eD,cP,bC,bQ,fV,fU,fT,dD,dE,dJ,dG,fW,cW,dF,eC,List.tail_cons,List.take_nil,List.drop_nil,aF,bJ,oZ,pA]
 refine qEo zTz c2 (.cons (aH (aN _)) .nil) ?_;with_reducible refine aB ?_;simp (disch:=omega) only [push_cast,↓Int.cast_ofNat_Int,simprocAttr,dB,cM,eB,cZ,fQ,lQ,cY,cL,aT,aZ,bP,aU,aV,fR,dC,dK,eE,eD,cP,bC,bQ,fV,fU,fT,dD,dE,dJ,dG,fW,cW,dF,eC,List.tail_cons,List.take_nil,List.drop_nil,aF,bJ,oZ,pA]
 refine qEo zTz c3 (.cons (aH (aN _)) .nil) ?_;with_reducible refine aB ?_;simp (disch:=omega) only [push_cast,↓Int.cast_ofNat_Int,simprocAttr,dB,cM,eB,cZ,fQ,lQ,cY,cL,aT,aZ,bP,aU,aV,fR,dC,dK,eE,eD,cP,bC,bQ,fV,fU,fT,dD,dE,dJ,dG,fW,cW,dF,eC,List.tail_cons,List.take_nil,List.drop_nil,aF,bJ,oZ,pA,iE,qAy]
 refine ⟨by intro x hx;simp at hx;subst hx;rfl,?_⟩
 refine hK1 _ ?_;(try clear hK1 K1);with_reducible refine aB ?_;simp (disch:=omega) only [push_cast,↓Int.cast_ofNat_Int,simprocAttr]
 refine hK _ ?_;exact hQ _ (by simp only [zZ,zR,zP,zQ,zN,zS,zM,zX,zU,Nat.reduceEqDiff,reduceIte])
def btO (o a b:List ByteArray) (i j k i' j' k':Nat) (out:List (Ck ByteArray)):List (Ck ByteArray):=(lM o a b ⟨i,j,k,out⟩ i' j' k').out
def ckH (l:List (Ck ByteArray)):List (List HV):=(cks l).map (List.map FV.h)
theorem qSi (l:List (Ck ByteArray)) (f:HV→HV) (h1:∀ x,f (.v x)=.v x) (h2:∀ fr xs,f (.lst fr xs)=.lst fr xs):(ckH l).map (List.map f)=ckH l:=by
 simp only [ckH,cks,List.map_map]
 apply List.map_congr_left
 intro c _;simp [Function.comp,ckE,FV.h,h1,h2]
theorem vD (l:List (Ck ByteArray)) (p:Nat→Bool):(ckH l).map (List.map (HV.kill p))=ckH l:=qSi l _ (fun x=>by rw [HV.kill]) (fun _ _=>by rw [HV.kill])
theorem mW (l:List (Ck ByteArray)) (id:Nat) (x:HV):(ckH l).map (List.map (HV.sub id x))=ckH l:=qSi l _ (fun x=>by rw [HV.sub]) (fun _ _=>by rw [HV.sub])
theorem cK (l:List (Ck ByteArray)) (m:Nat→Option Nat):(ckH l).map (List.map (HV.ren m))=ckH l:=qSi l _ (fun x=>by rw [HV.ren]) (fun _ _=>by rw [HV.ren])
theorem qVz (l:List (Ck ByteArray)) (b:Bool) (x y z:List ByteArray):ckH l ++ [[.v (.bool b),.lst true (aK x),.lst true (aK y),.lst true (aK z)]]=(cks (l ++ [⟨b,x,y,z⟩])).map (List.map FV.h):=by simp [ckH,cks,ckE,FV.h]
theorem qD5 (l:List (Ck ByteArray)):(ckH l).length=l.length:=by simp [ckH,cks]
abbrev ckL (i j k:Nat):List HV:=[.v (.bool true),.own i,.own j,.own k]
abbrev cuT (o a b:List ByteArray) (i j k:Nat) (pre:List (Ck ByteArray)) (c:Ck ByteArray):aD:=[(0,cuR o a b i j k),(1,.hl true 77 4 (ckH pre ++ [ckL 2 3 4])),(2,.sl true 9 1 (aK c.b)),(3,.sl true 9 1 (aK c.l)),(4,.sl true 9 1 (aK c.r))]
set_option maxHeartbeats 4000000 in
theorem qQh (o a b:List ByteArray) (i j k i' j' k':Nat) (out:List (Ck ByteArray)) (ho:o.length≤1000) (ha:a.length≤1000) (hb:b.length≤1000) (hi:i≤i'∧i'≤o.length) (hj:j≤j'∧j'≤a.length) (hk:k≤k'∧k'≤b.length) (hn:out.length≤10000) :
  HFunS Tryz.prog 66 [.ptr 0 7 0 0,.v (.int .i64 i'),.v (.int .i64 j'),.v (.int .i64 k')] (cuS o a b i j k out) (fun h st=>h=.tup []∧st=cuS o a b i' j' k' (btO o a b i j k i' j' k' out)):=by
 refine qMc (N:=85) Tryz.func66 rfl Tryz.ntmps66 Tryz.results66 (by simp) ?_
 have push:(i < i'∨j < j'∨k < k')→btO o a b i j k i' j' k' out=out ++ [⟨false,(o.take i').drop i,(a.take j').drop j,(b.take k').drop k⟩]:=fun h=>by rw [btO,lM,if_pos h]
 have stay:¬ (i < i'∨j < j'∨k < k')→btO o a b i j k i' j' k' out=out:=fun h=>by rw [btO,lM,if_neg h]
 have cs:(i < i')∨(¬ i < i'∧j < j')∨(¬ i < i'∧¬ j < j'∧k < k')∨(¬ i < i'∧¬ j < j'∧¬ k < k'):=by omega
 rcases cs with c1|⟨c1,c2⟩|⟨c1,c2,c3⟩|⟨c1,c2,c3⟩
 ·refine zE ?_;refine zE ?_;refine zJ (fun K hK=>?_);simp (disch:=omega) only [push_cast,↓Int.cast_ofNat_Int,simprocAttr];refine hK _ ?_
  refine zA ?_;refine yD rfl ?_;refine yB [0,1,2,3] [0,1] (by simp only [zZ,zR,zP,zQ,zN,zS,zM,zX,zU,Nat.reduceEqDiff,reduceIte];exact rfl) ?_
  refine sL o a b i j k i' j' k' out _ ho ha hb hi hj hk hn (fun E hE=>?_)
  refine zA ?_;refine yB (S':=⟨[(0,.ptr 0 7 0 0),(1,.v (.int .i64 i')),(2,.v (.int .i64 j')),(3,.v (.int .i64 k'))],[(0,cuR o a b i j k),(1,.sl true 77 4 (cks (out ++ [⟨false,(o.take i').drop i,(a.take j').drop j,(b.take k').drop k⟩])))]⟩) [0,1,2,3] [0,1] (by simp only [HS.keep];rw [hE];rfl) ?_
  refine zJ (fun K hK=>?_);simp (disch:=omega) only [push_cast,↓Int.cast_ofNat_Int,simprocAttr];refine hK _ ?_
  simp only [aX,cV,yH,yE,yK,yJ,eM,zS,zM,Nat.reduceEqDiff,reduceIte,reduceCtorEq];refine mG [0,1] (by decide) (by decide) (by simp only [push_cast,simprocAttr]) (by simp only [push_cast,simprocAttr]) (by simp only [push_cast,simprocAttr];rfl) (by simp only [push_cast,simprocAttr];rfl) ?_
  exact ⟨rfl,by rw [push (.inl c1)]⟩
 ·refine zE ?_;refine zE ?_;refine zJ (fun K hK=>?_);simp (disch:=omega) only [push_cast,↓Int.cast_ofNat_Int,simprocAttr];refine hK _ ?_
  refine zA ?_;refine yD rfl ?_;refine yB [0,1,2,3] [0,1] (by simp only [zZ,zR,zP,zQ,zN,zS,zM,zX,zU,Nat.reduceEqDiff,reduceIte];exact rfl) ?_
  refine sL o a b i j k i' j' k' out _ ho ha hb hi hj hk hn (fun E hE=>?_)
  refine zA ?_;refine yB (S':=⟨[(0,.ptr 0 7 0 0),(1,.v (.int .i64 i')),(2,.v (.int .i64 j')),(3,.v (.int .i64 k'))],[(0,cuR o a b i j k),(1,.sl true 77 4 (cks (out ++ [⟨false,(o.take i').drop i,(a.take j').drop j,(b.take k').drop k⟩])))]⟩) [0,1,2,3] [0,1] (by simp only [HS.keep];rw [hE];rfl) ?_
  refine zJ (fun K hK=>?_);simp (disch:=omega) only [push_cast,↓Int.cast_ofNat_Int,simprocAttr];refine hK _ ?_
  simp only [aX,cV,yH,yE,yK,yJ,eM,zS,zM,Nat.reduceEqDiff,reduceIte,reduceCtorEq];refine mG [0,1] (by decide) (by decide) (by simp only [push_cast,simprocAttr]) (by simp only [push_cast,simprocAttr]) (by simp only [push_cast,simprocAttr];rfl) (by simp only [push_cast,simprocAttr];rfl) ?_
  exact ⟨rfl,by rw [push (.inr (.inl c2))]⟩
 ·refine zE ?_;refine zE ?_;refine zJ (fun K hK=>?_);simp (disch:=omega) only [push_cast,↓Int.cast_ofNat_Int,simprocAttr];refine hK _ ?_
  refine zA ?_;refine yD rfl ?_;refine yB [0,1,2,3] [0,1] (by simp only [zZ,zR,zP,zQ,zN,zS,zM,zX,zU,Nat.reduceEqDiff,reduceIte];exact rfl) ?_
  refine sL o a b i j k i' j' k' out _ ho ha hb hi hj hk hn (fun E hE=>?_)
  refine zA ?_;refine yB (S':=⟨[(0,.ptr 0 7 0 0),(1,.v (.int .i64 i')),(2,.v (.int .i64 j')),(3,.v (.int .i64 k'))],[(0,cuR o a b i j k),(1,.sl true 77 4 (cks (out ++ [⟨false,(o.take i').drop i,(a.take j').drop j,(b.take k').drop k⟩])))]⟩) [0,1,2,3] [0,1] (by simp only [HS.keep];rw [hE];rfl) ?_
  refine zJ (fun K hK=>?_);simp (disch:=omega) only [push_cast,↓Int.cast_ofNat_Int,simprocAttr];refine hK _ ?_
  simp only [aX,cV,yH,yE,yK,yJ,eM,zS,zM,Nat.reduceEqDiff,reduceIte,reduceCtorEq];refine mG [0,1] (by decide) (by decide) (by simp only [push_cast,simprocAttr]) (by simp only [push_cast,simprocAttr]) (by simp only [push_cast,simprocAttr];rfl) (by simp only [push_cast,simprocAttr];rfl) ?_
  exact ⟨rfl,by rw [push (.inr (.inr c3))]⟩
 ·refine zE ?_;refine zE ?_;refine zJ (fun K hK=>?_);simp (disch:=omega) only [push_cast,↓Int.cast_ofNat_Int,simprocAttr];refine hK _ ?_
  refine zA ?_;refine yC rfl ?_;refine zC ?_;refine zA ?_;refine zJ (fun K hK=>?_);simp (disch:=omega) only [push_cast,↓Int.cast_ofNat_Int,simprocAttr];refine hK _ ?_
  simp only [aX,cV,yH,yE,yK,yJ,eM,zS,zM,Nat.reduceEqDiff,reduceIte,reduceCtorEq];refine mG [0,1] (by decide) (by decide) (by simp only [push_cast,simprocAttr]) (by simp only [push_cast,simprocAttr]) (by simp only [push_cast,simprocAttr];rfl) (by simp only [push_cast,simprocAttr];rfl) ?_
  exact ⟨rfl,by rw [stay (by omega)]⟩
set_option maxHeartbeats 4000000 in
theorem qQg (o a b:List ByteArray) (i j k i' j' k':Nat) (pre:List (Ck ByteArray)) (c:Ck ByteArray) (hc:c.st=true) (ho:o.length≤1000) (ha:a.length≤1000) (hb:b.length≤1000) (hi:i≤i'∧i'≤o.length) (hj:j≤j'∧j'≤a.length) (hk:k≤k'∧k'≤b.length) (hn:(pre ++ [c]).length≤10000) :
  HFunS Tryz.prog 66 [.ptr 0 7 0 0,.v (.int .i64 i'),.v (.int .i64 j'),.v (.int .i64 k')] (cuT o a b i j k pre c) (fun h st=>h=.tup [] ∧
   (((i < i'∨j < j'∨k < k')∧st=cuS o a b i' j' k' (btO o a b i j k i' j' k' (pre ++ [c])))∨(¬ (i < i'∨j < j'∨k < k')∧st=cuT o a b i' j' k' pre c))):=by
 refine qMc (N:=85) Tryz.func66 rfl Tryz.ntmps66 Tryz.results66 (by simp) ?_
 have push:(i < i'∨j < j'∨k < k')→btO o a b i j k i' j' k' (pre ++ [c])=(pre ++ [c]) ++ [⟨false,(o.take i').drop i,(a.take j').drop j,(b.take k').drop k⟩]:=fun h=>by rw [btO,lM,if_pos h]
 have cs:(i < i')∨(¬ i < i'∧j < j')∨(¬ i < i'∧¬ j < j'∧k < k')∨(¬ i < i'∧¬ j < j'∧¬ k < k'):=by omega
 have e1:ckH pre ++ [[.v (.bool true),.lst true (aK c.b),.lst true (aK c.l),.lst true (aK c.r)]]=(cks (pre ++ [c])).map (List.map FV.h):=by
  rw [qVz];cases c;simp only at hc;subst hc;rfl
 rcases cs with c1|⟨c1,c2⟩|⟨c1,c2,c3⟩|⟨c1,c2,c3⟩
 ·refine zE ?_;refine zE ?_;refine zJ (fun K hK=>?_);simp (disch:=omega) only [push_cast,↓Int.cast_ofNat_Int,simprocAttr];refine hK _ ?_
  refine zA ?_;refine yD rfl ?_;refine yB [0,1,2,3] [0,1,2,3,4] (by simp only [zZ,zR,zP,zQ,zN,zS,zM,zX,zU,Nat.reduceEqDiff,reduceIte];exact rfl) ?_
  refine cU 2 rfl (by simp only [dP,cJ,bH,bZ,bF,fD,cF,cG,bG,cE,cD,dQ,cH,cC,dL,dM,dN,Nat.reduceEqDiff,reduceIte,List.map_cons,List.map_nil,List.map_append,mW];exact rfl) ?_
  refine cU 3 rfl (by simp only [dP,cJ,bH,bZ,bF,fD,cF,cG,bG,cE,cD,dQ,cH,cC,dL,dM,dN,Nat.reduceEqDiff,reduceIte,List.map_cons,List.map_nil,List.map_append,mW];exact rfl) ?_
  refine cU 4 rfl (by simp only [dP,cJ,bH,bZ,bF,fD,cF,cG,bG,cE,cD,dQ,cH,cC,dL,dM,dN,Nat.reduceEqDiff,reduceIte,List.map_cons,List.map_nil,List.map_append,mW];exact rfl) ?_
  refine zCj 1 (cks (pre ++ [c])) e1 rfl (by simp only [xF,sD,Nat.reduceEqDiff,reduceIte];exact rfl) ?_
  refine sL o a b i j k i' j' k' (pre ++ [c]) _ ho ha hb hi hj hk hn (fun E hE=>?_)
  refine zA ?_;refine yB (S':=⟨[(0,.ptr 0 7 0 0),(1,.v (.int .i64 i')),(2,.v (.int .i64 j')),(3,.v (.int .i64 k'))],[(0,cuR o a b i j k),(1,.sl true 77 4 (cks ((pre ++ [c]) ++ [⟨false,(o.take i').drop i,(a.take j').drop j,(b.take k').drop k⟩])))]⟩) [0,1,2,3] [0,1] (by simp only [HS.keep];rw [hE];rfl) ?_
  refine zJ (fun K hK=>?_);simp (disch:=omega) only [push_cast,↓Int.cast_ofNat_Int,simprocAttr];refine hK _ ?_
  simp only [aX,cV,yH,yE,yK,yJ,eM,zS,zM,Nat.reduceEqDiff,reduceIte,reduceCtorEq];refine mG [0,1] (by decide) (by decide) (by simp only [push_cast,simprocAttr]) (by simp only [push_cast,simprocAttr]) (by simp only [push_cast,simprocAttr];rfl) (by simp only [push_cast,simprocAttr];rfl) ?_
  exact ⟨rfl,.inl ⟨by omega,by rw [push (.inl c1)]⟩⟩
 ·refine zE ?_;refine zE ?_;refine zJ (fun K hK=>?_);simp (disch:=omega) only [push_cast,↓Int.cast_ofNat_Int,simprocAttr];refine hK _ ?_
  refine zA ?_;refine yD rfl ?_;refine yB [0,1,2,3] [0,1,2,3,4] (by simp only [zZ,zR,zP,zQ,zN,zS,zM,zX,zU,Nat.reduceEqDiff,reduceIte];exact rfl) ?_
  refine cU 2 rfl (by simp only [dP,cJ,bH,bZ,bF,fD,cF,cG,bG,cE,cD,dQ,cH,cC,dL,dM,dN,Nat.reduceEqDiff,reduceIte,List.map_cons,List.map_nil,List.map_append,mW];exact rfl) ?_
  refine cU 3 rfl (by simp only [dP,cJ,bH,bZ,bF,fD,cF,cG,bG,cE,cD,dQ,cH,cC,dL,dM,dN,Nat.reduceEqDiff,reduceIte,List.map_cons,List.map_nil,List.map_append,mW];exact rfl) ?_
  refine cU 4 rfl (by simp only [dP,cJ,bH,bZ,bF,fD,cF,cG,bG,cE,cD,dQ,cH,cC,dL,dM,dN,Nat.reduceEqDiff,reduceIte,List.map_cons,List.map_nil,List.map_append,mW];exact rfl) ?_
  refine zCj 1 (cks (pre ++ [c])) e1 rfl (by simp only [xF,sD,Nat.reduceEqDiff,reduceIte];exact rfl) ?_
  refine sL o a b i j k i' j' k' (pre ++ [c]) _ ho ha hb hi hj hk hn (fun E hE=>?_)
  refine zA ?_;refine yB (S':=⟨[(0,.ptr 0 7 0 0),(1,.v (.int .i64 i')),(2,.v (.int .i64 j')),(3,.v (.int .i64 k'))],[(0,cuR o a b i j k),(1,.sl true 77 4 (cks ((pre ++ [c]) ++ [⟨false,(o.take i').drop i,(a.take j').drop j,(b.take k').drop k⟩])))]⟩) [0,1,2,3] [0,1] (by simp only [HS.keep];rw [hE];rfl) ?_
  refine zJ (fun K hK=>?_);simp (disch:=omega) only [push_cast,↓Int.cast_ofNat_Int,simprocAttr];refine hK _ ?_
  simp only [aX,cV,yH,yE,yK,yJ,eM,zS,zM,Nat.reduceEqDiff,reduceIte,reduceCtorEq];refine mG [0,1] (by decide) (by decide) (by simp only [push_cast,simprocAttr]) (by simp only [push_cast,simprocAttr]) (by simp only [push_cast,simprocAttr];rfl) (by simp only [push_cast,simprocAttr];rfl) ?_
  exact ⟨rfl,.inl ⟨by omega,by rw [push (.inr (.inl c2))]⟩⟩
 ·refine zE ?_;refine zE ?_;refine zJ (fun K hK=>?_);simp (disch:=omega) only [push_cast,↓Int.cast_ofNat_Int,simprocAttr];refine hK _ ?_
  refine zA ?_;refine yD rfl ?_;refine yB [0,1,2,3] [0,1,2,3,4] (by simp only [zZ,zR,zP,zQ,zN,zS,zM,zX,zU,Nat.reduceEqDiff,reduceIte];exact rfl) ?_
  refine cU 2 rfl (by simp only [dP,cJ,bH,bZ,bF,fD,cF,cG,bG,cE,cD,dQ,cH,cC,dL,dM,dN,Nat.reduceEqDiff,reduceIte,List.map_cons,List.map_nil,List.map_append,mW];exact rfl) ?_
  refine cU 3 rfl (by simp only [dP,cJ,bH,bZ,bF,fD,cF,cG,bG,cE,cD,dQ,cH,cC,dL,dM,dN,Nat.reduceEqDiff,reduceIte,List.map_cons,List.map_nil,List.map_append,mW];exact rfl) ?_
  refine cU 4 rfl (by simp only [dP,cJ,bH,bZ,bF,fD,cF,cG,bG,cE,cD,dQ,cH,cC,dL,dM,dN,Nat.reduceEqDiff,reduceIte,List.map_cons,List.map_nil,List.map_append,mW];exact rfl) ?_
  refine zCj 1 (cks (pre ++ [c])) e1 rfl (by simp only [xF,sD,Nat.reduceEqDiff,reduceIte];exact rfl) ?_
  refine sL o a b i j k i' j' k' (pre ++ [c]) _ ho ha hb hi hj hk hn (fun E hE=>?_)
  refine zA ?_;refine yB (S':=⟨[(0,.ptr 0 7 0 0),(1,.v (.int .i64 i')),(2,.v (.int .i64 j')),(3,.v (.int .i64 k'))],[(0,cuR o a b i j k),(1,.sl true 77 4 (cks ((pre ++ [c]) ++ [⟨false,(o.take i').drop i,(a.take j').drop j,(b.take k').drop k⟩])))]⟩) [0,1,2,3] [0,1] (by simp only [HS.keep];rw [hE];rfl) ?_
  refine zJ (fun K hK=>?_);simp (disch:=omega) only [push_cast,↓Int.cast_ofNat_Int,simprocAttr];refine hK _ ?_
  simp only [aX,cV,yH,yE,yK,yJ,eM,zS,zM,Nat.reduceEqDiff,reduceIte,reduceCtorEq];refine mG [0,1] (by decide) (by decide) (by simp only [push_cast,simprocAttr]) (by simp only [push_cast,simprocAttr]) (by simp only [push_cast,simprocAttr];rfl) (by simp only [push_cast,simprocAttr];rfl) ?_
  exact ⟨rfl,.inl ⟨by omega,by rw [push (.inr (.inr c3))]⟩⟩
 ·refine zE ?_;refine zE ?_;refine zJ (fun K hK=>?_);simp (disch:=omega) only [push_cast,↓Int.cast_ofNat_Int,simprocAttr];refine hK _ ?_
  refine zA ?_;refine yC rfl ?_;refine zC ?_;refine zA ?_;refine zJ (fun K hK=>?_);simp (disch:=omega) only [push_cast,↓Int.cast_ofNat_Int,simprocAttr];refine hK _ ?_
  simp only [aX,cV,yH,yE,yK,yJ,eM,zS,zM,Nat.reduceEqDiff,reduceIte,reduceCtorEq];refine mG [0,1,2,3,4] (by decide) (by decide) (by simp only [push_cast,simprocAttr,List.map_append,cK]) (by simp only [push_cast,simprocAttr,List.map_append,cK]) (by simp only [push_cast,simprocAttr,List.map_append,cK];rfl) (by simp only [push_cast,simprocAttr,List.map_append,cK];rfl) ?_
  exact ⟨rfl,.inr ⟨by omega,rfl⟩⟩
end Go.Proofs.YtdfjeokjmigkaaaGreat
