/-
  merge's cutter: between, its pieces' lists ay leaves or rows.
-/
import Derived.Test.YtmgilahhnbopmaaMgC
import Derived.Test.YtmgilahhnbopmaaFlf
set_option linter.unusedSimpArgs false
set_option linter.unusedVariables false
set_option maxRecDepth 20000
namespace Go.Proofs.Ytmgilahhnbopmaa
open Go Go.Eng Go.RowKit Go.DiffM
theorem mC (P:Program) (N:Nat) (ds:List (Option Nat)) (sts:List aB) (o:Oper) (E T E':aN) (a:Nat):qCy P N ds sts o E T E' a 4=(jC P N o ⟨E,sts.getD a []⟩ ⟨T,sts.getD a []⟩ (zCu E') (hG T ds o.guard)∧qCy P N ds sts o E T E' (a + 1) 3):=id rfl
theorem mD (P:Program) (N:Nat) (ds:List (Option Nat)) (sts:List aB) (o:Oper) (E T E':aN) (a:Nat):qCy P N ds sts o E T E' a 5=(jC P N o ⟨E,sts.getD a []⟩ ⟨T,sts.getD a []⟩ (zCu E') (hG T ds o.guard)∧qCy P N ds sts o E T E' (a + 1) 4):=id rfl
abbrev CkV:=Ck ByteArray × Ad × Ad × Ad
def qS0 (t:CkV):List HV:=[.v (.bool t.1.st),.v (hd t.2.1 t.1.b.length),.v (hd t.2.2.1 t.1.l.length),.v (hd t.2.2.2 t.1.r.length)]
def ckW (T:List CkV):List (List HV):=T.map qS0
theorem qS1 (T:List CkV) (f:HV→HV) (hf:∀ x,f (.v x)=.v x):(ckW T).map (List.map f)=ckW T:=by
 simp only [ckW,List.map_map]
 apply List.map_congr_left
 intro t _;simp [qS0,hf]
theorem bS (T:List CkV) (p:Nat→Bool):(ckW T).map (List.map (HV.kill p))=ckW T:=qS1 T _ fun x=>by rw [HV.kill]
theorem bY (T:List CkV) (id:Nat) (x:HV):(ckW T).map (List.map (HV.sub id x))=ckW T:=qS1 T _ fun x=>by rw [HV.sub]
theorem aE (T:List CkV) (m:Nat→Option Nat):(ckW T).map (List.map (HV.ren m))=ckW T:=qS1 T _ fun x=>by rw [HV.ren]
theorem jQ (T:List CkV):(ckW T).length=T.length:=by simp [ckW]
theorem sE (T:List CkV) (s:Bool) (x y z:List ByteArray) (p q r:Option Addr) (c d e:Nat):ckW T ++ [[.v (.bool s),.v (.slice p x.length c),.v (.slice q y.length d),.v (.slice r z.length e)]]=ckW (T ++ [(⟨s,x,y,z⟩,(p,c),(q,d),(r,e))]):=by simp [ckW,qS0]
theorem qBt (T:List CkV):∀ x ∈ ckW T,∀ f ∈ x,NamH f:=fun x hx f hf=>by
 obtain ⟨t,-,rfl⟩:=List.mem_map.1 hx;simp only [qS0,List.mem_cons,List.not_mem_nil,or_false] at hf
 rcases hf with rfl|rfl|rfl|rfl <;> exact .v _
abbrev ckU (i j k:Nat):List HV:=[.v (.bool false),.own i,.own j,.own k]
abbrev cvS (o a b:List ByteArray) (i j k:Nat) (T:List CkV):aB:=[(0,cuR o a b i j k),(1,.hl true 33 4 (ckW T))]
abbrev tx (l:List ByteArray):Row:=.sl true 9 1 (aD l)
abbrev cvT (o a b:List ByteArray) (i j k:Nat) (T:List CkV) (c:Ck ByteArray):aB:=[(0,cuR o a b i j k),(1,.hl true 33 4 (ckW T ++ [ckL 2 3 4])),(2,tx c.b),(3,tx c.l),(4,tx c.r)]
set_option maxHeartbeats 8000000 in
theorem qYo (o a b:List ByteArray) (i j k i' j' k':Nat) (T:List CkV) (Q:gQ) (ho:o.length≤1000) (ha:a.length≤1000) (hb:b.length≤1000) (hi:i≤i'∧i'≤o.length) (hj:j≤j'∧j'≤a.length) (hk:k≤k'∧k'≤b.length) (hn:T.length≤10000)
  (hQ:∀ E,pC [0,1,2,3] E=[(0,.ptr 0 7 0 0),(1,.v (.int .i64 i')),(2,.v (.int .i64 j')),(3,.v (.int .i64 k'))]→Q .normal ⟨E,[(1,.hl true 33 4 (ckW T ++ [ckU 360 448 536])),(552,.hl true 33 4 [ckU 360 448 536]),(536,tx ((b.take k').drop k)),(448,tx ((a.take j').drop j)),(360,tx ((o.take i').drop i)),(0,cuR o a b i j k)]⟩) :
  HW Try.prog 85 (cAt [0,1,2] (Try.f12.body.getD .skip)) Q ⟨[(0,.ptr 0 7 0 0),(1,.v (.int .i64 i')),(2,.v (.int .i64 j')),(3,.v (.int .i64 k'))],[(0,cuR o a b i j k),(1,.hl true 33 4 (ckW T))]⟩:=by
 unfold Try.f12;dsimp only [Option.getD_some,cAt]
 have c1:=pM ((o.take i').drop i) (by rw [List.length_drop,List.length_take];omega)
 have c2:=pM ((a.take j').drop j) (by rw [List.length_drop,List.length_take];omega)
 have c3:=pM ((b.take k').drop k) (by rw [List.length_drop,List.length_take];omega)
 refine lL 41 [(15,some 360),(26,some 448),(37,some 536),(39,some 552),(40,some 1)] [[(0,cuR o a b i j k),(1,.hl true 33 4 (ckW T))],[(360,tx ((o.take i').drop i)),(0,cuR o a b i j k),(1,.hl true 33 4 (ckW T))],[(448,tx ((a.take j').drop j)),(360,tx ((o.take i').drop i)),(0,cuR o a b i j k),(1,.hl true 33 4 (ckW T))],[(536,tx ((b.take k').drop k)),(448,tx ((a.take j').drop j)),(360,tx ((o.take i').drop i)),(0,cuR o a b i j k),(1,.hl true 33 4 (ckW T))],[(552,.hl true 33 4 [ckU 360 448 536]),(536,tx ((b.take k').drop k)),(448,tx ((a.take j').drop j)),(360,tx ((o.take i').drop i)),(0,cuR o a b i j k),(1,.hl true 33 4 (ckW T))],[(1,.hl true 33 4 (ckW T ++ [ckU 360 448 536])),(552,.hl true 33 4 [ckU 360 448 536]),(536,tx ((b.take k').drop k)),(448,tx ((a.take j').drop j)),(360,tx ((o.take i').drop i)),(0,.bx false 43 [.lst true (aD o),.lst true (aD a),.lst true (aD b),.v (.int .i64 i),.v (.int .i64 j),.v (.int .i64 k),.junk])]] [(4,0,4),(8,0,5),(12,0,5),(19,0,5),(23,0,5),(30,0,5),(34,0,5),(38,3,3)] mixed (by kernel_rfl) (by kernel_rfl) rfl (fun K hK K1 hK1=>?_);simp (disch:=omega) only [push_cast,↓iC9,simprocAttr,dN,cX,eQ,dM,gA,kX,dK,cV,bN,bU,cJ,bP,bQ,gB,dP,dV,eX,eW,cY,bV,cK,gE,gD,gC,dQ,dR,dU,dT,gF,dH,dS,eV,List.tail_cons,List.take_nil,List.drop_nil,mC,mD,aA,bE,fU,fV,bS,List.map_append,jT]
 refine zCb 360 qSz c1 (.cons (dF (aQ _)) .nil) (by simp only [gK,fL,iC,iE,iD,jN,gP,gN,gM,fR,jM,bS,List.map_append,List.map_cons,List.map_nil,Nat.reduceBEq,Nat.reduceEqDiff,reduceIte,cond_false,cond_true];try rfl) ?_
 simp (disch:=omega) only [push_cast,↓iC9,simprocAttr,dN,cX,eQ,dM,gA,kX,dK,cV,bN,bU,cJ,bP,bQ,gB,dP,dV,eX,eW,cY,bV,cK,gE,gD,gC,dQ,dR,dU,dT,gF,dH,dS,eV,List.tail_cons,List.take_nil,List.drop_nil,mC,mD,aA,bE,fU,fV,bS,List.map_append,jT];refine zCb 448 qSz c2 (.cons (dF (aQ _)) .nil) (by simp only [gK,fL,iC,iE,iD,jN,gP,gN,gM,fR,jM,bS,List.map_append,List.map_cons,List.map_nil,Nat.reduceBEq,Nat.reduceEqDiff,reduceIte,cond_false,cond_true];try rfl) ?_
 simp (disch:=omega) only [push_cast,↓iC9,simprocAttr,dN,cX,eQ,dM,gA,kX,dK,cV,bN,bU,cJ,bP,bQ,gB,dP,dV,eX,eW,cY,bV,cK,gE,gD,gC,dQ,dR,dU,dT,gF,dH,dS,eV,List.tail_cons,List.take_nil,List.drop_nil,mC,mD,aA,bE,fU,fV,bS,List.map_append,jT];refine zCb 536 qSz c3 (.cons (dF (aQ _)) .nil) (by simp only [gK,fL,iC,iE,iD,jN,gP,gN,gM,fR,jM,bS,List.map_append,List.map_cons,List.map_nil,Nat.reduceBEq,Nat.reduceEqDiff,reduceIte,cond_false,cond_true];try rfl) ?_
 simp (disch:=omega) only [push_cast,↓iC9,simprocAttr,dN,cX,eQ,dM,gA,kX,dK,cV,bN,bU,cJ,bP,bQ,gB,dP,dV,eX,eW,cY,bV,cK,gE,gD,gC,dQ,dR,dU,dT,gF,dH,dS,eV,List.tail_cons,List.take_nil,List.drop_nil,mC,mD,aA,bE,fU,fV,bS,List.map_append,jT,jQ];refine hK1 _ ?_;(try clear hK1 K1);with_reducible refine aH ?_;simp (disch:=omega) only [push_cast,↓iC9,simprocAttr,bS,List.map_append]
 refine hK _ ?_;clear hK K;exact hQ _ (by simp only [zZ,zR,zP,zQ,zN,zS,zM,zX,zU,Nat.reduceEqDiff,reduceIte])
set_option maxHeartbeats 8000000 in
theorem qYn (o a b:List ByteArray) (i j k i' j' k':Nat) (T:List CkV) (c:Ck ByteArray) (Q:gQ) (ho:o.length≤1000) (ha:a.length≤1000) (hb:b.length≤1000) (hi:i≤i'∧i'≤o.length) (hj:j≤j'∧j'≤a.length) (hk:k≤k'∧k'≤b.length) (hn:T.length≤10000)
  (hQ:∀ E,pC [0,1,2,3] E=[(0,.ptr 0 7 0 0),(1,.v (.int .i64 i')),(2,.v (.int .i64 j')),(3,.v (.int .i64 k'))]→Q .normal ⟨E,[(1,.hl true 33 4 (ckW T ++ [ckL 2 3 4] ++ [ckU 360 448 536])),(552,.hl true 33 4 [ckU 360 448 536]),(536,tx ((b.take k').drop k)),(448,tx ((a.take j').drop j)),(360,tx ((o.take i').drop i)),(0,cuR o a b i j k),(2,tx c.b),(3,tx c.l),(4,tx c.r)]⟩) :
  HW Try.prog 85 (cAt [0,1,2] (Try.f12.body.getD .skip)) Q ⟨[(0,.ptr 0 7 0 0),(1,.v (.int .i64 i')),(2,.v (.int .i64 j')),(3,.v (.int .i64 k'))],[(0,cuR o a b i j k),(1,.hl true 33 4 (ckW T ++ [ckL 2 3 4])),(2,tx c.b),(3,tx c.l),(4,tx c.r)]⟩:=by
 unfold Try.f12;dsimp only [Option.getD_some,cAt]
 have c1:=pM ((o.take i').drop i) (by rw [List.length_drop,List.length_take];omega)
 have c2:=pM ((a.take j').drop j) (by rw [List.length_drop,List.length_take];omega)
 have c3:=pM ((b.take k').drop k) (by rw [List.length_drop,List.length_take];omega)
 refine lL 41 [(15,some 360),(26,some 448),(37,some 536),(39,some 552),(40,some 1)] [[(0,cuR o a b i j k),(1,.hl true 33 4 (ckW T ++ [ckL 2 3 4])),(2,tx c.b),(3,tx c.l),(4,tx c.r)],[(360,tx ((o.take i').drop i)),(0,cuR o a b i j k),(1,.hl true 33 4 (ckW T ++ [ckL 2 3 4])),(2,tx c.b),(3,tx c.l),(4,tx c.r)],[(448,tx ((a.take j').drop j)),(360,tx ((o.take i').drop i)),(0,cuR o a b i j k),(1,.hl true 33 4 (ckW T ++ [ckL 2 3 4])),(2,tx c.b),(3,tx c.l),(4,tx c.r)],[(536,tx ((b.take k').drop k)),(448,tx ((a.take j').drop j)),(360,tx ((o.take i').drop i)),(0,cuR o a b i j k),(1,.hl true 33 4 (ckW T ++ [ckL 2 3 4])),(2,tx c.b),(3,tx c.l),(4,tx c.r)],[(552,.hl true 33 4 [ckU 360 448 536]),(536,tx ((b.take k').drop k)),(448,tx ((a.take j').drop j)),(360,tx ((o.take i').drop i)),(0,cuR o a b i j k),(1,.hl true 33 4 (ckW T ++ [ckL 2 3 4])),(2,tx c.b),(3,tx c.l),(4,tx c.r)],[(1,.hl true 33 4 (ckW T ++ [ckL 2 3 4] ++ [ckU 360 448 536])),(552,.hl true 33 4 [ckU 360 448 536]),(536,tx ((b.take k').drop k)),(448,tx ((a.take j').drop j)),(360,tx ((o.take i').drop i)),(0,.bx false 43 [.lst true (aD o),.lst true (aD a),.lst true (aD b),.v (.int .i64 i),.v (.int .i64 j),.v (.int .i64 k),.junk]),(2,tx c.b),(3,tx c.l),(4,tx c.r)]] [(4,0,4),(8,0,5),(12,0,5),(19,0,5),(23,0,5),(30,0,5),(34,0,5),(38,3,3)] mixed (by kernel_rfl) (by kernel_rfl) rfl (fun K hK K1 hK1=>?_);simp (disch:=omega) only [push_cast,↓iC9,simprocAttr,dN,cX,eQ,dM,gA,kX,dK,cV,bN,bU,cJ,bP,bQ,gB,dP,dV,eX,eW,cY,bV,cK,gE,gD,gC,dQ,dR,dU,dT,gF,dH,dS,eV,List.tail_cons,List.take_nil,List.drop_nil,mC,mD,aA,bE,fU,fV,bS,List.map_append,jT]
 refine zCb 360 qSz c1 (.cons (dF (aQ _)) .nil) (by simp only [gK,fL,iC,iE,iD,jN,gP,gN,gM,fR,jM,bS,List.map_append,List.map_cons,List.map_nil,Nat.reduceBEq,Nat.reduceEqDiff,reduceIte,cond_false,cond_true];try rfl) ?_
 simp (disch:=omega) only [push_cast,↓iC9,simprocAttr,dN,cX,eQ,dM,gA,kX,dK,cV,bN,bU,cJ,bP,bQ,gB,dP,dV,eX,eW,cY,bV,cK,gE,gD,gC,dQ,dR,dU,dT,gF,dH,dS,eV,List.tail_cons,List.take_nil,List.drop_nil,mC,mD,aA,bE,fU,fV,bS,List.map_append,jT];refine zCb 448 qSz c2 (.cons (dF (aQ _)) .nil) (by simp only [gK,fL,iC,iE,iD,jN,gP,gN,gM,fR,jM,bS,List.map_append,List.map_cons,List.map_nil,Nat.reduceBEq,Nat.reduceEqDiff,reduceIte,cond_false,cond_true];try rfl) ?_
 simp (disch:=omega) only [push_cast,↓iC9,simprocAttr,dN,cX,eQ,dM,gA,kX,dK,cV,bN,bU,cJ,bP,bQ,gB,dP,dV,eX,eW,cY,bV,cK,gE,gD,gC,dQ,dR,dU,dT,gF,dH,dS,eV,List.tail_cons,List.take_nil,List.drop_nil,mC,mD,aA,bE,fU,fV,bS,List.map_append,jT];refine zCb 536 qSz c3 (.cons (dF (aQ _)) .nil) (by simp only [gK,fL,iC,iE,iD,jN,gP,gN,gM,fR,jM,bS,List.map_append,List.map_cons,List.map_nil,Nat.reduceBEq,Nat.reduceEqDiff,reduceIte,cond_false,cond_true];try rfl) ?_
 simp (disch:=omega) only [push_cast,↓iC9,simprocAttr,dN,cX,eQ,dM,gA,kX,dK,cV,bN,bU,cJ,bP,bQ,gB,dP,dV,eX,eW,cY,bV,cK,gE,gD,gC,dQ,dR,dU,dT,gF,dH,dS,eV,List.tail_cons,List.take_nil,List.drop_nil,mC,mD,aA,bE,fU,fV,bS,List.map_append,jT,jQ];refine hK1 _ ?_;(try clear hK1 K1);with_reducible refine aH ?_;simp (disch:=omega) only [push_cast,↓iC9,simprocAttr,bS,List.map_append]
 refine hK _ ?_;clear hK K;exact hQ _ (by simp only [zZ,zR,zP,zQ,zN,zS,zM,zX,zU,Nat.reduceEqDiff,reduceIte])
set_option maxHeartbeats 8000000 in
theorem zF5 (o a b:List ByteArray) (i j k i' j' k':Nat) (T:List CkV) (ho:o.length≤1000) (ha:a.length≤1000) (hb:b.length≤1000) (hi:i≤i'∧i'≤o.length) (hj:j≤j'∧j'≤a.length) (hk:k≤k'∧k'≤b.length) (hn:T.length≤10000) :
  HFunS Try.prog 12 [.ptr 0 7 0 0,.v (.int .i64 i'),.v (.int .i64 j'),.v (.int .i64 k')] (cvS o a b i j k T) (fun h st=>h=.tup [] ∧
   (((i < i'∨j < j'∨k < k')∧st=[(0,cuR o a b i' j' k'),(1,.hl true 33 4 (ckW T ++ [ckU 2 3 4])),(2,tx ((o.take i').drop i)),(3,tx ((a.take j').drop j)),(4,tx ((b.take k').drop k))])∨(¬ (i < i'∨j < j'∨k < k')∧st=cvS o a b i' j' k' T))):=by
 refine qGc (N:=85) Try.func12 rfl Try.ntmps12 Try.results12 (by simp) ?_
 have cs:(i < i')∨(¬ i < i'∧j < j')∨(¬ i < i'∧¬ j < j'∧k < k')∨(¬ i < i'∧¬ j < j'∧¬ k < k'):=by omega
 rcases cs with c1|⟨c1,c2⟩|⟨c1,c2,c3⟩|⟨c1,c2,c3⟩
 ·refine zE ?_;refine zE ?_;refine zJ (fun K hK=>?_);simp (disch:=omega) only [push_cast,↓iC9,simprocAttr];refine hK _ ?_;clear hK K
  refine zA ?_;refine yD rfl ?_;refine yB [0,1,2,3] [0,1] (by simp only [zZ,zR,zP,zQ,zN,zS,zM,zX,zU,Nat.reduceEqDiff,reduceIte];exact rfl) ?_
  refine qYo o a b i j k i' j' k' T _ ho ha hb hi hj hk hn (fun E hE=>?_)
  refine zA ?_;refine yB (S':=⟨[(0,.ptr 0 7 0 0),(1,.v (.int .i64 i')),(2,.v (.int .i64 j')),(3,.v (.int .i64 k'))],[(0,cuR o a b i j k),(1,.hl true 33 4 (ckW T ++ [ckU 360 448 536])),(360,tx ((o.take i').drop i)),(448,tx ((a.take j').drop j)),(536,tx ((b.take k').drop k))]⟩) [0,1,2,3] [0,1,360,448,536] (by simp only [HS.keep];rw [hE];rfl) ?_
  refine zJ (fun K hK=>?_);simp (disch:=omega) only [push_cast,↓iC9,simprocAttr,bS,List.map_append];refine hK _ ?_;clear hK K
  simp only [bL,cS,yH,yE,yK,yJ,eJ,zS,zM,Nat.reduceEqDiff,reduceIte,reduceCtorEq];refine kK [0,1,360,448,536] (by decide) (by decide) (by simp only [push_cast,simprocAttr,List.map_append,aE]) (by simp only [push_cast,simprocAttr,List.map_append,aE]) (by simp only [push_cast,simprocAttr,List.map_append,aE];rfl) (by simp only [push_cast,simprocAttr,List.map_append,aE];rfl) ?_
  exact ⟨rfl,.inl ⟨by omega,rfl⟩⟩
 ·refine zE ?_;refine zE ?_;refine zJ (fun K hK=>?_);simp (disch:=omega) only [push_cast,↓iC9,simprocAttr];refine hK _ ?_;clear hK K
  refine zA ?_;refine yD rfl ?_;refine yB [0,1,2,3] [0,1] (by simp only [zZ,zR,zP,zQ,zN,zS,zM,zX,zU,Nat.reduceEqDiff,reduceIte];exact rfl) ?_
  refine qYo o a b i j k i' j' k' T _ ho ha hb hi hj hk hn (fun E hE=>?_)
  refine zA ?_;refine yB (S':=⟨[(0,.ptr 0 7 0 0),(1,.v (.int .i64 i')),(2,.v (.int .i64 j')),(3,.v (.int .i64 k'))],[(0,cuR o a b i j k),(1,.hl true 33 4 (ckW T ++ [ckU 360 448 536])),(360,tx ((o.take i').drop i)),(448,tx ((a.take j').drop j)),(536,tx ((b.take k').drop k))]⟩) [0,1,2,3] [0,1,360,448,536] (by simp only [HS.keep];rw [hE];rfl) ?_
  refine zJ (fun K hK=>?_);simp (disch:=omega) only [push_cast,↓iC9,simprocAttr,bS,List.map_append];refine hK _ ?_;clear hK K
  simp only [bL,cS,yH,yE,yK,yJ,eJ,zS,zM,Nat.reduceEqDiff,reduceIte,reduceCtorEq];refine kK [0,1,360,448,536] (by decide) (by decide) (by simp only [push_cast,simprocAttr,List.map_append,aE]) (by simp only [push_cast,simprocAttr,List.map_append,aE]) (by simp only [push_cast,simprocAttr,List.map_append,aE];rfl) (by simp only [push_cast,simprocAttr,List.map_append,aE];rfl) ?_
  exact ⟨rfl,.inl ⟨by omega,rfl⟩⟩
 ·refine zE ?_;refine zE ?_;refine zJ (fun K hK=>?_);simp (disch:=omega) only [push_cast,↓iC9,simprocAttr];refine hK _ ?_;clear hK K
  refine zA ?_;refine yD rfl ?_;refine yB [0,1,2,3] [0,1] (by simp only [zZ,zR,zP,zQ,zN,zS,zM,zX,zU,Nat.reduceEqDiff,reduceIte];exact rfl) ?_
  refine qYo o a b i j k i' j' k' T _ ho ha hb hi hj hk hn (fun E hE=>?_)
  refine zA ?_;refine yB (S':=⟨[(0,.ptr 0 7 0 0),(1,.v (.int .i64 i')),(2,.v (.int .i64 j')),(3,.v (.int .i64 k'))],[(0,cuR o a b i j k),(1,.hl true 33 4 (ckW T ++ [ckU 360 448 536])),(360,tx ((o.take i').drop i)),(448,tx ((a.take j').drop j)),(536,tx ((b.take k').drop k))]⟩) [0,1,2,3] [0,1,360,448,536] (by simp only [HS.keep];rw [hE];rfl) ?_
  refine zJ (fun K hK=>?_);simp (disch:=omega) only [push_cast,↓iC9,simprocAttr,bS,List.map_append];refine hK _ ?_;clear hK K
  simp only [bL,cS,yH,yE,yK,yJ,eJ,zS,zM,Nat.reduceEqDiff,reduceIte,reduceCtorEq];refine kK [0,1,360,448,536] (by decide) (by decide) (by simp only [push_cast,simprocAttr,List.map_append,aE]) (by simp only [push_cast,simprocAttr,List.map_append,aE]) (by simp only [push_cast,simprocAttr,List.map_append,aE];rfl) (by simp only [push_cast,simprocAttr,List.map_append,aE];rfl) ?_
  exact ⟨rfl,.inl ⟨by omega,rfl⟩⟩
 ·refine zE ?_;refine zE ?_;refine zJ (fun K hK=>?_);simp (disch:=omega) only [push_cast,↓iC9,simprocAttr];refine hK _ ?_;clear hK K
  refine zA ?_;refine yC rfl ?_;refine zC ?_;refine zA ?_;refine zJ (fun K hK=>?_);simp (disch:=omega) only [push_cast,↓iC9,simprocAttr,bS,List.map_append];refine hK _ ?_;clear hK K
  simp only [bL,cS,yH,yE,yK,yJ,eJ,zS,zM,Nat.reduceEqDiff,reduceIte,reduceCtorEq];refine kK [0,1] (by decide) (by decide) (by simp only [push_cast,simprocAttr,List.map_append,aE]) (by simp only [push_cast,simprocAttr,List.map_append,aE]) (by simp only [push_cast,simprocAttr,List.map_append,aE];rfl) (by simp only [push_cast,simprocAttr,List.map_append,aE];rfl) ?_
  exact ⟨rfl,.inr ⟨by omega,rfl⟩⟩
set_option maxHeartbeats 8000000 in
theorem zF4 (o a b:List ByteArray) (i j k i' j' k':Nat) (T:List CkV) (c:Ck ByteArray) (ho:o.length≤1000) (ha:a.length≤1000) (hb:b.length≤1000) (hi:i≤i'∧i'≤o.length) (hj:j≤j'∧j'≤a.length) (hk:k≤k'∧k'≤b.length) (hn:T.length≤10000) :
  HFunS Try.prog 12 [.ptr 0 7 0 0,.v (.int .i64 i'),.v (.int .i64 j'),.v (.int .i64 k')] (cvT o a b i j k T c) (fun h st=>h=.tup [] ∧
   (((i < i'∨j < j'∨k < k')∧st=[(0,cuR o a b i' j' k'),(1,.hl true 33 4 (ckW T ++ [ckL 2 3 4] ++ [ckU 5 6 7])),(2,tx c.b),(3,tx c.l),(4,tx c.r),(5,tx ((o.take i').drop i)),(6,tx ((a.take j').drop j)),(7,tx ((b.take k').drop k))])∨(¬ (i < i'∨j < j'∨k < k')∧st=cvT o a b i' j' k' T c))):=by
 refine qGc (N:=85) Try.func12 rfl Try.ntmps12 Try.results12 (by simp) ?_
 have cs:(i < i')∨(¬ i < i'∧j < j')∨(¬ i < i'∧¬ j < j'∧k < k')∨(¬ i < i'∧¬ j < j'∧¬ k < k'):=by omega
 rcases cs with c1|⟨c1,c2⟩|⟨c1,c2,c3⟩|⟨c1,c2,c3⟩
 ·refine zE ?_;refine zE ?_;refine zJ (fun K hK=>?_);simp (disch:=omega) only [push_cast,↓iC9,simprocAttr];refine hK _ ?_;clear hK K
  refine zA ?_;refine yD rfl ?_;refine yB [0,1,2,3] [0,1,2,3,4] (by simp only [zZ,zR,zP,zQ,zN,zS,zM,zX,zU,Nat.reduceEqDiff,reduceIte];exact rfl) ?_
  refine qYn o a b i j k i' j' k' T c _ ho ha hb hi hj hk hn (fun E hE=>?_)
  refine zA ?_;refine yB (S':=⟨[(0,.ptr 0 7 0 0),(1,.v (.int .i64 i')),(2,.v (.int .i64 j')),(3,.v (.int .i64 k'))],[(0,cuR o a b i j k),(1,.hl true 33 4 (ckW T ++ [ckL 2 3 4] ++ [ckU 360 448 536])),(2,tx c.b),(3,tx c.l),(4,tx c.r),(360,tx ((o.take i').drop i)),(448,tx ((a.take j').drop j)),(536,tx ((b.take k').drop k))]⟩) [0,1,2,3] [0,1,2,3,4,360,448,536] (by simp only [HS.keep];rw [hE];rfl) ?_
  refine zJ (fun K hK=>?_);simp (disch:=omega) only [push_cast,↓iC9,simprocAttr,bS,List.map_append];refine hK _ ?_;clear hK K
  simp only [bL,cS,yH,yE,yK,yJ,eJ,zS,zM,Nat.reduceEqDiff,reduceIte,reduceCtorEq];refine kK [0,1,2,3,4,360,448,536] (by decide) (by decide) (by simp only [push_cast,simprocAttr,List.map_append,aE]) (by simp only [push_cast,simprocAttr,List.map_append,aE]) (by simp only [push_cast,simprocAttr,List.map_append,aE];rfl) (by simp only [push_cast,simprocAttr,List.map_append,aE];rfl) ?_
  exact ⟨rfl,.inl ⟨by omega,rfl⟩⟩
 ·refine zE ?_;refine zE ?_;refine zJ (fun K hK=>?_);simp (disch:=omega) only [push_cast,↓iC9,simprocAttr];refine hK _ ?_;clear hK K
  refine zA ?_;refine yD rfl ?_;refine yB [0,1,2,3] [0,1,2,3,4] (by simp only [zZ,zR,zP,zQ,zN,zS,zM,zX,zU,Nat.reduceEqDiff,reduceIte];exact rfl) ?_
  refine qYn o a b i j k i' j' k' T c _ ho ha hb hi hj hk hn (fun E hE=>?_)
  refine zA ?_;refine yB (S':=⟨[(0,.ptr 0 7 0 0),(1,.v (.int .i64 i')),(2,.v (.int .i64 j')),(3,.v (.int .i64 k'))],[(0,cuR o a b i j k),(1,.hl true 33 4 (ckW T ++ [ckL 2 3 4] ++ [ckU 360 448 536])),(2,tx c.b),(3,tx c.l),(4,tx c.r),(360,tx ((o.take i').drop i)),(448,tx ((a.take j').drop j)),(536,tx ((b.take k').drop k))]⟩) [0,1,2,3] [0,1,2,3,4,360,448,536] (by simp only [HS.keep];rw [hE];rfl) ?_
  refine zJ (fun K hK=>?_);simp (disch:=omega) only [push_cast,↓iC9,simprocAttr,bS,List.map_append];refine hK _ ?_;clear hK K
  simp only [bL,cS,yH,yE,yK,yJ,eJ,zS,zM,Nat.reduceEqDiff,reduceIte,reduceCtorEq];refine kK [0,1,2,3,4,360,448,536] (by decide) (by decide) (by simp only [push_cast,simprocAttr,List.map_append,aE]) (by simp only [push_cast,simprocAttr,List.map_append,aE]) (by simp only [push_cast,simprocAttr,List.map_append,aE];rfl) (by simp only [push_cast,simprocAttr,List.map_append,aE];rfl) ?_
  exact ⟨rfl,.inl ⟨by omega,rfl⟩⟩
 ·refine zE ?_;refine zE ?_;refine zJ (fun K hK=>?_);simp (disch:=omega) only [push_cast,↓iC9,simprocAttr];refine hK _ ?_;clear hK K
  refine zA ?_;refine yD rfl ?_;refine yB [0,1,2,3] [0,1,2,3,4] (by simp only [zZ,zR,zP,zQ,zN,zS,zM,zX,zU,Nat.reduceEqDiff,reduceIte];exact rfl) ?_
  refine qYn o a b i j k i' j' k' T c _ ho ha hb hi hj hk hn (fun E hE=>?_)
  refine zA ?_;refine yB (S':=⟨[(0,.ptr 0 7 0 0),(1,.v (.int .i64 i')),(2,.v (.int .i64 j')),(3,.v (.int .i64 k'))],[(0,cuR o a b i j k),(1,.hl true 33 4 (ckW T ++ [ckL 2 3 4] ++ [ckU 360 448 536])),(2,tx c.b),(3,tx c.l),(4,tx c.r),(360,tx ((o.take i').drop i)),(448,tx ((a.take j').drop j)),(536,tx ((b.take k').drop k))]⟩) [0,1,2,3] [0,1,2,3,4,360,448,536] (by simp only [HS.keep];rw [hE];rfl) ?_
  refine zJ (fun K hK=>?_);simp (disch:=omega) only [push_cast,↓iC9,simprocAttr,bS,List.map_append];refine hK _ ?_;clear hK K
  simp only [bL,cS,yH,yE,yK,yJ,eJ,zS,zM,Nat.reduceEqDiff,reduceIte,reduceCtorEq];refine kK [0,1,2,3,4,360,448,536] (by decide) (by decide) (by simp only [push_cast,simprocAttr,List.map_append,aE]) (by simp only [push_cast,simprocAttr,List.map_append,aE]) (by simp only [push_cast,simprocAttr,List.map_append,aE];rfl) (by simp only [push_cast,simprocAttr,List.map_append,aE];rfl) ?_
  exact ⟨rfl,.inl ⟨by omega,rfl⟩⟩
 ·refine zE ?_;refine zE ?_;refine zJ (fun K hK=>?_);simp (disch:=omega) only [push_cast,↓iC9,simprocAttr];refine hK _ ?_;clear hK K
  refine zA ?_;refine yC rfl ?_;refine zC ?_;refine zA ?_;refine zJ (fun K hK=>?_);simp (disch:=omega) only [push_cast,↓iC9,simprocAttr,bS,List.map_append];refine hK _ ?_;clear hK K
  simp only [bL,cS,yH,yE,yK,yJ,eJ,zS,zM,Nat.reduceEqDiff,reduceIte,reduceCtorEq];refine kK [0,1,2,3,4] (by decide) (by decide) (by simp only [push_cast,simprocAttr,List.map_append,aE]) (by simp only [push_cast,simprocAttr,List.map_append,aE]) (by simp only [push_cast,simprocAttr,List.map_append,aE];rfl) (by simp only [push_cast,simprocAttr,List.map_append,aE];rfl) ?_
  exact ⟨rfl,.inr ⟨by omega,rfl⟩⟩
end Go.Proofs.Ytmgilahhnbopmaa
