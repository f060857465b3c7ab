/-
  merge's cutter: between, walked.
-/
import Derived.Test.YtmgilahhnbopmaaMgB
import Derived.Test.YtmgilahhnbopmaaChn
import Derived.Test.YtmgilahhnbopmaaSmH
import Derived.Test.YtmgilahhnbopmaaCln
set_option linter.unusedSimpArgs false
set_option linter.unusedVariables false
set_option maxRecDepth 20000
namespace Go.Proofs.Ytmgilahhnbopmaa
open Go Go.Eng Go.RowKit Go.DiffM


def ckE (c:Ck ByteArray):List FV:=[.v (.bool c.st),.lst true (aD c.b),.lst true (aD c.l),.lst true (aD c.r)]
def cks (l:List (Ck ByteArray)):List (List FV):=l.map ckE
theorem jP (l:List (Ck ByteArray)):(cks l).length=l.length:=by simp [cks]
theorem pN (l:List (Ck ByteArray)):Wid 4 (cks l)=True:=eq_true (wP l fun _=>rfl)
theorem wJ (l:List (Ck ByteArray)) (b:Bool) (x y z:List ByteArray):cks l ++ [[.v (.bool b),.lst true (aD x),.lst true (aD y),.lst true (aD z)]]=cks (l ++ [⟨b,x,y,z⟩]):=by simp [cks,ckE]
theorem qBs (l:List (Ck ByteArray)):∀ x ∈ cks l,∀ f ∈ x,FreshF f:=fun x hx f hf=>by
 obtain ⟨h,-,rfl⟩:=List.mem_map.1 hx;simp only [ckE,List.mem_cons,List.not_mem_nil,or_false] at hf
 rcases hf with rfl|rfl|rfl|rfl
 ·exact .v _
 ·exact .lst (jS _)
 ·exact .lst (jS _)
 ·exact .lst (jS _)
abbrev cuR (o a b:List ByteArray) (i j k:Nat):Row:=.bx false 43 [.lst true (aD o),.lst true (aD a),.lst true (aD b),.v (.int .i64 i),.v (.int .i64 j),.v (.int .i64 k),.own 1]
abbrev cuS (o a b:List ByteArray) (i j k:Nat) (out:List (Ck ByteArray)):aB:=[(0,cuR o a b i j k),(1,.sl true 33 4 (cks out))]
set_option maxHeartbeats 4000000 in
theorem pW (o a b:List ByteArray) (i j k i' j' k':Nat) (out:List (Ck ByteArray)) (Q:gQ) (ho:o.length≤1000) (ha:a.length≤1000) (hb:b.length≤1000) (hi:i≤i'∧i'≤o.length) (hj:j≤j'∧j'≤a.length) (hk:k≤k'∧k'≤b.length) (hn:out.length≤10000)
  (hQ:∀ E,pC [0,1,2,3] E=[(0,.ptr 0 7 0 0),(1,.v (.int .i64 i')),(2,.v (.int .i64 j')),(3,.v (.int .i64 k'))]→Q .normal ⟨E,[(1,.sl true 33 4 (cks (out ++ [⟨false,(o.take i').drop i,(a.take j').drop j,(b.take k').drop k⟩]))),(0,cuR o a b i j k)]⟩) :
  HW Try.prog 85 (cAt [0,1,2] (Try.f12.body.getD .skip)) Q ⟨[(0,.ptr 0 7 0 0),(1,.v (.int .i64 i')),(2,.v (.int .i64 j')),(3,.v (.int .i64 k'))],cuS o a b i j k out⟩:=by
 unfold Try.f12;dsimp only [Option.getD_some,cAt]
 have c1:=pM ((o.take i').drop i) (by rw [List.length_drop,List.length_take];omega)
 have c2:=pM ((a.take j').drop j) (by rw [List.length_drop,List.length_take];omega)
 have c3:=pM ((b.take k').drop k) (by rw [List.length_drop,List.length_take];omega)
 refine lL 41 [(40,some 1)] [cuS o a b i j k out,[(1,.sl true 33 4 (cks (out ++ [⟨false,(o.take i').drop i,(a.take j').drop j,(b.take k').drop k⟩]))),(0,.bx false 43 [.lst true (aD o),.lst true (aD a),.lst true (aD b),.v (.int .i64 i),.v (.int .i64 j),.v (.int .i64 k),.junk])]] [(4,0,0),(8,0,1),(12,0,1),(19,0,1),(23,0,1),(30,0,1),(34,0,1)] mixed (by kernel_rfl) (by kernel_rfl) rfl (fun K hK K1 hK1=>?_);simp (disch:=omega) only [push_cast,↓iC9,simprocAttr,dN,cX,eQ,dM,gA,kX,dK,cV,bN,bU,cJ,bP,bQ,gB,dP,dV,eX,eW,cY,bV,cK,gE,gD,gC,dQ,dR,dU,dT,gF,dH,dS,eV,List.tail_cons,List.take_nil,List.drop_nil,aA,bE,fU,fV]
 refine qVn qSz c1 (.cons (dF (aQ _)) .nil) ?_;with_reducible refine aH ?_;simp (disch:=omega) only [push_cast,↓iC9,simprocAttr,dN,cX,eQ,dM,gA,kX,dK,cV,bN,bU,cJ,bP,bQ,gB,dP,dV,eX,eW,cY,bV,cK,gE,gD,gC,dQ,dR,dU,dT,gF,dH,dS,eV,List.tail_cons,List.take_nil,List.drop_nil,aA,bE,fU,fV]
 refine qVn qSz c2 (.cons (dF (aQ _)) .nil) ?_;with_reducible refine aH ?_;simp (disch:=omega) only [push_cast,↓iC9,simprocAttr,dN,cX,eQ,dM,gA,kX,dK,cV,bN,bU,cJ,bP,bQ,gB,dP,dV,eX,eW,cY,bV,cK,gE,gD,gC,dQ,dR,dU,dT,gF,dH,dS,eV,List.tail_cons,List.take_nil,List.drop_nil,aA,bE,fU,fV]
 refine qVn qSz c3 (.cons (dF (aQ _)) .nil) ?_;with_reducible refine aH ?_;simp (disch:=omega) only [push_cast,↓iC9,simprocAttr,dN,cX,eQ,dM,gA,kX,dK,cV,bN,bU,cJ,bP,bQ,gB,dP,dV,eX,eW,cY,bV,cK,gE,gD,gC,dQ,dR,dU,dT,gF,dH,dS,eV,List.tail_cons,List.take_nil,List.drop_nil,aA,bE,fU,fV,jP,wJ]
 refine ⟨by intro x hx;simp at hx;subst hx;rfl,?_⟩
 refine hK1 _ ?_;(try clear hK1 K1);with_reducible refine aH ?_;simp (disch:=omega) only [push_cast,↓iC9,simprocAttr]
 refine hK _ ?_;clear hK K;exact hQ _ (by simp only [zZ,zR,zP,zQ,zN,zS,zM,zX,zU,Nat.reduceEqDiff,reduceIte])
def btO (o a b:List ByteArray) (i j k i' j' k':Nat) (out:List (Ck ByteArray)):List (Ck ByteArray):=(gX o a b ⟨i,j,k,out⟩ i' j' k').out
def ckH (l:List (Ck ByteArray)):List (List HV):=(cks l).map (List.map FV.h)
theorem qS2 (l:List (Ck ByteArray)) (f:HV→HV) (h1:∀ x,f (.v x)=.v x) (h2:∀ fr xs,f (.lst fr xs)=.lst fr xs):(ckH l).map (List.map f)=ckH l:=by
 simp only [ckH,cks,List.map_map]
 apply List.map_congr_left
 intro c _;simp [Function.comp,ckE,FV.h,h1,h2]
theorem sF (l:List (Ck ByteArray)) (p:Nat→Bool):(ckH l).map (List.map (HV.kill p))=ckH l:=qS2 l _ (fun x=>by rw [HV.kill]) (fun _ _=>by rw [HV.kill])
theorem lJ (l:List (Ck ByteArray)) (id:Nat) (x:HV):(ckH l).map (List.map (HV.sub id x))=ckH l:=qS2 l _ (fun x=>by rw [HV.sub]) (fun _ _=>by rw [HV.sub])
theorem cP (l:List (Ck ByteArray)) (m:Nat→Option Nat):(ckH l).map (List.map (HV.ren m))=ckH l:=qS2 l _ (fun x=>by rw [HV.ren]) (fun _ _=>by rw [HV.ren])
theorem qWr (l:List (Ck ByteArray)) (b:Bool) (x y z:List ByteArray):ckH l ++ [[.v (.bool b),.lst true (aD x),.lst true (aD y),.lst true (aD z)]]=(cks (l ++ [⟨b,x,y,z⟩])).map (List.map FV.h):=by simp [ckH,cks,ckE,FV.h]
theorem qBu (l:List (Ck ByteArray)):(ckH l).length=l.length:=by simp [ckH,cks]
abbrev ckL (i j k:Nat):List HV:=[.v (.bool true),.own i,.own j,.own k]
abbrev cuT (o a b:List ByteArray) (i j k:Nat) (pre:List (Ck ByteArray)) (c:Ck ByteArray):aB:=[(0,cuR o a b i j k),(1,.hl true 33 4 (ckH pre ++ [ckL 2 3 4])),(2,.sl true 9 1 (aD c.b)),(3,.sl true 9 1 (aD c.l)),(4,.sl true 9 1 (aD c.r))]
set_option maxHeartbeats 4000000 in
theorem qRi (o a b:List ByteArray) (i j k i' j' k':Nat) (out:List (Ck ByteArray)) (ho:o.length≤1000) (ha:a.length≤1000) (hb:b.length≤1000) (hi:i≤i'∧i'≤o.length) (hj:j≤j'∧j'≤a.length) (hk:k≤k'∧k'≤b.length) (hn:out.length≤10000) :
  HFunS Try.prog 12 [.ptr 0 7 0 0,.v (.int .i64 i'),.v (.int .i64 j'),.v (.int .i64 k')] (cuS o a b i j k out) (fun h st=>h=.tup []∧st=cuS o a b i' j' k' (btO o a b i j k i' j' k' out)):=by
 refine qGc (N:=85) Try.func12 rfl Try.ntmps12 Try.results12 (by simp) ?_
 have push:(i < i'∨j < j'∨k < k')→btO o a b i j k i' j' k' out=out ++ [⟨false,(o.take i').drop i,(a.take j').drop j,(b.take k').drop k⟩]:=fun h=>by rw [btO,gX,if_pos h]
 have stay:¬ (i < i'∨j < j'∨k < k')→btO o a b i j k i' j' k' out=out:=fun h=>by rw [btO,gX,if_neg h]
 have cs:(i < i')∨(¬ i < i'∧j < j')∨(¬ i < i'∧¬ j < j'∧k < k')∨(¬ i < i'∧¬ j < j'∧¬ k < k'):=by omega
 rcases cs with c1|⟨c1,c2⟩|⟨c1,c2,c3⟩|⟨c1,c2,c3⟩
 ·refine zE ?_;refine zE ?_;refine zJ (fun K hK=>?_);simp (disch:=omega) only [push_cast,↓iC9,simprocAttr];refine hK _ ?_;clear hK K
  refine zA ?_;refine yD rfl ?_;refine yB [0,1,2,3] [0,1] (by simp only [zZ,zR,zP,zQ,zN,zS,zM,zX,zU,Nat.reduceEqDiff,reduceIte];exact rfl) ?_
  refine pW o a b i j k i' j' k' out _ ho ha hb hi hj hk hn (fun E hE=>?_)
  refine zA ?_;refine yB (S':=⟨[(0,.ptr 0 7 0 0),(1,.v (.int .i64 i')),(2,.v (.int .i64 j')),(3,.v (.int .i64 k'))],[(0,cuR o a b i j k),(1,.sl true 33 4 (cks (out ++ [⟨false,(o.take i').drop i,(a.take j').drop j,(b.take k').drop k⟩])))]⟩) [0,1,2,3] [0,1] (by simp only [HS.keep];rw [hE];rfl) ?_
  refine zJ (fun K hK=>?_);simp (disch:=omega) only [push_cast,↓iC9,simprocAttr];refine hK _ ?_;clear hK K
  simp only [bL,cS,yH,yE,yK,yJ,eJ,zS,zM,Nat.reduceEqDiff,reduceIte,reduceCtorEq];refine kK [0,1] (by decide) (by decide) (by simp only [push_cast,simprocAttr]) (by simp only [push_cast,simprocAttr]) (by simp only [push_cast,simprocAttr];rfl) (by simp only [push_cast,simprocAttr];rfl) ?_
  exact ⟨rfl,by rw [push (.inl c1)]⟩
 ·refine zE ?_;refine zE ?_;refine zJ (fun K hK=>?_);simp (disch:=omega) only [push_cast,↓iC9,simprocAttr];refine hK _ ?_;clear hK K
  refine zA ?_;refine yD rfl ?_;refine yB [0,1,2,3] [0,1] (by simp only [zZ,zR,zP,zQ,zN,zS,zM,zX,zU,Nat.reduceEqDiff,reduceIte];exact rfl) ?_
  refine pW o a b i j k i' j' k' out _ ho ha hb hi hj hk hn (fun E hE=>?_)
  refine zA ?_;refine yB (S':=⟨[(0,.ptr 0 7 0 0),(1,.v (.int .i64 i')),(2,.v (.int .i64 j')),(3,.v (.int .i64 k'))],[(0,cuR o a b i j k),(1,.sl true 33 4 (cks (out ++ [⟨false,(o.take i').drop i,(a.take j').drop j,(b.take k').drop k⟩])))]⟩) [0,1,2,3] [0,1] (by simp only [HS.keep];rw [hE];rfl) ?_
  refine zJ (fun K hK=>?_);simp (disch:=omega) only [push_cast,↓iC9,simprocAttr];refine hK _ ?_;clear hK K
  simp only [bL,cS,yH,yE,yK,yJ,eJ,zS,zM,Nat.reduceEqDiff,reduceIte,reduceCtorEq];refine kK [0,1] (by decide) (by decide) (by simp only [push_cast,simprocAttr]) (by simp only [push_cast,simprocAttr]) (by simp only [push_cast,simprocAttr];rfl) (by simp only [push_cast,simprocAttr];rfl) ?_
  exact ⟨rfl,by rw [push (.inr (.inl c2))]⟩
 ·refine zE ?_;refine zE ?_;refine zJ (fun K hK=>?_);simp (disch:=omega) only [push_cast,↓iC9,simprocAttr];refine hK _ ?_;clear hK K
  refine zA ?_;refine yD rfl ?_;refine yB [0,1,2,3] [0,1] (by simp only [zZ,zR,zP,zQ,zN,zS,zM,zX,zU,Nat.reduceEqDiff,reduceIte];exact rfl) ?_
  refine pW o a b i j k i' j' k' out _ ho ha hb hi hj hk hn (fun E hE=>?_)
  refine zA ?_;refine yB (S':=⟨[(0,.ptr 0 7 0 0),(1,.v (.int .i64 i')),(2,.v (.int .i64 j')),(3,.v (.int .i64 k'))],[(0,cuR o a b i j k),(1,.sl true 33 4 (cks (out ++ [⟨false,(o.take i').drop i,(a.take j').drop j,(b.take k').drop k⟩])))]⟩) [0,1,2,3] [0,1] (by simp only [HS.keep];rw [hE];rfl) ?_
  refine zJ (fun K hK=>?_);simp (disch:=omega) only [push_cast,↓iC9,simprocAttr];refine hK _ ?_;clear hK K
  simp only [bL,cS,yH,yE,yK,yJ,eJ,zS,zM,Nat.reduceEqDiff,reduceIte,reduceCtorEq];refine kK [0,1] (by decide) (by decide) (by simp only [push_cast,simprocAttr]) (by simp only [push_cast,simprocAttr]) (by simp only [push_cast,simprocAttr];rfl) (by simp only [push_cast,simprocAttr];rfl) ?_
  exact ⟨rfl,by rw [push (.inr (.inr c3))]⟩
 ·refine zE ?_;refine zE ?_;refine zJ (fun K hK=>?_);simp (disch:=omega) only [push_cast,↓iC9,simprocAttr];refine hK _ ?_;clear hK K
  refine zA ?_;refine yC rfl ?_;refine zC ?_;refine zA ?_;refine zJ (fun K hK=>?_);simp (disch:=omega) only [push_cast,↓iC9,simprocAttr];refine hK _ ?_;clear hK K
  simp only [bL,cS,yH,yE,yK,yJ,eJ,zS,zM,Nat.reduceEqDiff,reduceIte,reduceCtorEq];refine kK [0,1] (by decide) (by decide) (by simp only [push_cast,simprocAttr]) (by simp only [push_cast,simprocAttr]) (by simp only [push_cast,simprocAttr];rfl) (by simp only [push_cast,simprocAttr];rfl) ?_
  exact ⟨rfl,by rw [stay (by omega)]⟩
set_option maxHeartbeats 4000000 in
theorem qRh (o a b:List ByteArray) (i j k i' j' k':Nat) (pre:List (Ck ByteArray)) (c:Ck ByteArray) (hc:c.st=true) (ho:o.length≤1000) (ha:a.length≤1000) (hb:b.length≤1000) (hi:i≤i'∧i'≤o.length) (hj:j≤j'∧j'≤a.length) (hk:k≤k'∧k'≤b.length) (hn:(pre ++ [c]).length≤10000) :
  HFunS Try.prog 12 [.ptr 0 7 0 0,.v (.int .i64 i'),.v (.int .i64 j'),.v (.int .i64 k')] (cuT o a b i j k pre c) (fun h st=>h=.tup [] ∧
   (((i < i'∨j < j'∨k < k')∧st=cuS o a b i' j' k' (btO o a b i j k i' j' k' (pre ++ [c])))∨(¬ (i < i'∨j < j'∨k < k')∧st=cuT o a b i' j' k' pre c))):=by
 refine qGc (N:=85) Try.func12 rfl Try.ntmps12 Try.results12 (by simp) ?_
 have push:(i < i'∨j < j'∨k < k')→btO o a b i j k i' j' k' (pre ++ [c])=(pre ++ [c]) ++ [⟨false,(o.take i').drop i,(a.take j').drop j,(b.take k').drop k⟩]:=fun h=>by rw [btO,gX,if_pos h]
 have cs:(i < i')∨(¬ i < i'∧j < j')∨(¬ i < i'∧¬ j < j'∧k < k')∨(¬ i < i'∧¬ j < j'∧¬ k < k'):=by omega
 have e1:ckH pre ++ [[.v (.bool true),.lst true (aD c.b),.lst true (aD c.l),.lst true (aD c.r)]]=(cks (pre ++ [c])).map (List.map FV.h):=by
  rw [qWr];cases c;simp only at hc;subst hc;rfl
 rcases cs with c1|⟨c1,c2⟩|⟨c1,c2,c3⟩|⟨c1,c2,c3⟩
 ·refine zE ?_;refine zE ?_;refine zJ (fun K hK=>?_);simp (disch:=omega) only [push_cast,↓iC9,simprocAttr];refine hK _ ?_;clear hK K
  refine zA ?_;refine yD rfl ?_;refine yB [0,1,2,3] [0,1,2,3,4] (by simp only [zZ,zR,zP,zQ,zN,zS,zM,zX,zU,Nat.reduceEqDiff,reduceIte];exact rfl) ?_
  refine dE 2 rfl (by simp only [bJ,bC,aL,aT,aJ,cC,aX,aY,aK,aW,aV,bK,aZ,aU,bF,bG,bH,Nat.reduceEqDiff,reduceIte,List.map_cons,List.map_nil,List.map_append,lJ];exact rfl) ?_
  refine dE 3 rfl (by simp only [bJ,bC,aL,aT,aJ,cC,aX,aY,aK,aW,aV,bK,aZ,aU,bF,bG,bH,Nat.reduceEqDiff,reduceIte,List.map_cons,List.map_nil,List.map_append,lJ];exact rfl) ?_
  refine dE 4 rfl (by simp only [bJ,bC,aL,aT,aJ,cC,aX,aY,aK,aW,aV,bK,aZ,aU,bF,bG,bH,Nat.reduceEqDiff,reduceIte,List.map_cons,List.map_nil,List.map_append,lJ];exact rfl) ?_
  refine zA1 1 (cks (pre ++ [c])) e1 rfl (by simp only [mK,kC,Nat.reduceEqDiff,reduceIte];exact rfl) ?_
  refine pW o a b i j k i' j' k' (pre ++ [c]) _ ho ha hb hi hj hk hn (fun E hE=>?_)
  refine zA ?_;refine yB (S':=⟨[(0,.ptr 0 7 0 0),(1,.v (.int .i64 i')),(2,.v (.int .i64 j')),(3,.v (.int .i64 k'))],[(0,cuR o a b i j k),(1,.sl true 33 4 (cks ((pre ++ [c]) ++ [⟨false,(o.take i').drop i,(a.take j').drop j,(b.take k').drop k⟩])))]⟩) [0,1,2,3] [0,1] (by simp only [HS.keep];rw [hE];rfl) ?_
  refine zJ (fun K hK=>?_);simp (disch:=omega) only [push_cast,↓iC9,simprocAttr];refine hK _ ?_;clear hK K
  simp only [bL,cS,yH,yE,yK,yJ,eJ,zS,zM,Nat.reduceEqDiff,reduceIte,reduceCtorEq];refine kK [0,1] (by decide) (by decide) (by simp only [push_cast,simprocAttr]) (by simp only [push_cast,simprocAttr]) (by simp only [push_cast,simprocAttr];rfl) (by simp only [push_cast,simprocAttr];rfl) ?_
  exact ⟨rfl,.inl ⟨by omega,by rw [push (.inl c1)]⟩⟩
 ·refine zE ?_;refine zE ?_;refine zJ (fun K hK=>?_);simp (disch:=omega) only [push_cast,↓iC9,simprocAttr];refine hK _ ?_;clear hK K
  refine zA ?_;refine yD rfl ?_;refine yB [0,1,2,3] [0,1,2,3,4] (by simp only [zZ,zR,zP,zQ,zN,zS,zM,zX,zU,Nat.reduceEqDiff,reduceIte];exact rfl) ?_
  refine dE 2 rfl (by simp only [bJ,bC,aL,aT,aJ,cC,aX,aY,aK,aW,aV,bK,aZ,aU,bF,bG,bH,Nat.reduceEqDiff,reduceIte,List.map_cons,List.map_nil,List.map_append,lJ];exact rfl) ?_
  refine dE 3 rfl (by simp only [bJ,bC,aL,aT,aJ,cC,aX,aY,aK,aW,aV,bK,aZ,aU,bF,bG,bH,Nat.reduceEqDiff,reduceIte,List.map_cons,List.map_nil,List.map_append,lJ];exact rfl) ?_
  refine dE 4 rfl (by simp only [bJ,bC,aL,aT,aJ,cC,aX,aY,aK,aW,aV,bK,aZ,aU,bF,bG,bH,Nat.reduceEqDiff,reduceIte,List.map_cons,List.map_nil,List.map_append,lJ];exact rfl) ?_
  refine zA1 1 (cks (pre ++ [c])) e1 rfl (by simp only [mK,kC,Nat.reduceEqDiff,reduceIte];exact rfl) ?_
  refine pW o a b i j k i' j' k' (pre ++ [c]) _ ho ha hb hi hj hk hn (fun E hE=>?_)
  refine zA ?_;refine yB (S':=⟨[(0,.ptr 0 7 0 0),(1,.v (.int .i64 i')),(2,.v (.int .i64 j')),(3,.v (.int .i64 k'))],[(0,cuR o a b i j k),(1,.sl true 33 4 (cks ((pre ++ [c]) ++ [⟨false,(o.take i').drop i,(a.take j').drop j,(b.take k').drop k⟩])))]⟩) [0,1,2,3] [0,1] (by simp only [HS.keep];rw [hE];rfl) ?_
  refine zJ (fun K hK=>?_);simp (disch:=omega) only [push_cast,↓iC9,simprocAttr];refine hK _ ?_;clear hK K
  simp only [bL,cS,yH,yE,yK,yJ,eJ,zS,zM,Nat.reduceEqDiff,reduceIte,reduceCtorEq];refine kK [0,1] (by decide) (by decide) (by simp only [push_cast,simprocAttr]) (by simp only [push_cast,simprocAttr]) (by simp only [push_cast,simprocAttr];rfl) (by simp only [push_cast,simprocAttr];rfl) ?_
  exact ⟨rfl,.inl ⟨by omega,by rw [push (.inr (.inl c2))]⟩⟩
 ·refine zE ?_;refine zE ?_;refine zJ (fun K hK=>?_);simp (disch:=omega) only [push_cast,↓iC9,simprocAttr];refine hK _ ?_;clear hK K
  refine zA ?_;refine yD rfl ?_;refine yB [0,1,2,3] [0,1,2,3,4] (by simp only [zZ,zR,zP,zQ,zN,zS,zM,zX,zU,Nat.reduceEqDiff,reduceIte];exact rfl) ?_
  refine dE 2 rfl (by simp only [bJ,bC,aL,aT,aJ,cC,aX,aY,aK,aW,aV,bK,aZ,aU,bF,bG,bH,Nat.reduceEqDiff,reduceIte,List.map_cons,List.map_nil,List.map_append,lJ];exact rfl) ?_
  refine dE 3 rfl (by simp only [bJ,bC,aL,aT,aJ,cC,aX,aY,aK,aW,aV,bK,aZ,aU,bF,bG,bH,Nat.reduceEqDiff,reduceIte,List.map_cons,List.map_nil,List.map_append,lJ];exact rfl) ?_
  refine dE 4 rfl (by simp only [bJ,bC,aL,aT,aJ,cC,aX,aY,aK,aW,aV,bK,aZ,aU,bF,bG,bH,Nat.reduceEqDiff,reduceIte,List.map_cons,List.map_nil,List.map_append,lJ];exact rfl) ?_
  refine zA1 1 (cks (pre ++ [c])) e1 rfl (by simp only [mK,kC,Nat.reduceEqDiff,reduceIte];exact rfl) ?_
  refine pW o a b i j k i' j' k' (pre ++ [c]) _ ho ha hb hi hj hk hn (fun E hE=>?_)
  refine zA ?_;refine yB (S':=⟨[(0,.ptr 0 7 0 0),(1,.v (.int .i64 i')),(2,.v (.int .i64 j')),(3,.v (.int .i64 k'))],[(0,cuR o a b i j k),(1,.sl true 33 4 (cks ((pre ++ [c]) ++ [⟨false,(o.take i').drop i,(a.take j').drop j,(b.take k').drop k⟩])))]⟩) [0,1,2,3] [0,1] (by simp only [HS.keep];rw [hE];rfl) ?_
  refine zJ (fun K hK=>?_);simp (disch:=omega) only [push_cast,↓iC9,simprocAttr];refine hK _ ?_;clear hK K
  simp only [bL,cS,yH,yE,yK,yJ,eJ,zS,zM,Nat.reduceEqDiff,reduceIte,reduceCtorEq];refine kK [0,1] (by decide) (by decide) (by simp only [push_cast,simprocAttr]) (by simp only [push_cast,simprocAttr]) (by simp only [push_cast,simprocAttr];rfl) (by simp only [push_cast,simprocAttr];rfl) ?_
  exact ⟨rfl,.inl ⟨by omega,by rw [push (.inr (.inr c3))]⟩⟩
 ·refine zE ?_;refine zE ?_;refine zJ (fun K hK=>?_);simp (disch:=omega) only [push_cast,↓iC9,simprocAttr];refine hK _ ?_;clear hK K
  refine zA ?_;refine yC rfl ?_;refine zC ?_;refine zA ?_;refine zJ (fun K hK=>?_);simp (disch:=omega) only [push_cast,↓iC9,simprocAttr];refine hK _ ?_;clear hK K
  simp only [bL,cS,yH,yE,yK,yJ,eJ,zS,zM,Nat.reduceEqDiff,reduceIte,reduceCtorEq];refine kK [0,1,2,3,4] (by decide) (by decide) (by simp only [push_cast,simprocAttr,List.map_append,cP]) (by simp only [push_cast,simprocAttr,List.map_append,cP]) (by simp only [push_cast,simprocAttr,List.map_append,cP];rfl) (by simp only [push_cast,simprocAttr,List.map_append,cP];rfl) ?_
  exact ⟨rfl,.inr ⟨by omega,rfl⟩⟩
end Go.Proofs.Ytmgilahhnbopmaa
