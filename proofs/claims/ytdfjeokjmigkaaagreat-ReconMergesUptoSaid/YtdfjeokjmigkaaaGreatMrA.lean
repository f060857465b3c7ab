/-
  The reference's merge: the lines that all three have.
-/
import Derived.Test.YtdfjeokjmigkaaaGreatScr
import Derived.Test.YtdfjeokjmigkaaaGreatSmH
import Derived.Test.YtdfjeokjmigkaaaGreatChn
set_option linter.unusedSimpArgs false
set_option linter.unusedVariables false
set_option maxRecDepth 20000
namespace Go.Proofs.YtdfjeokjmigkaaaGreat
open Go Go.Eng Go.RowKit Go.DiffM

def trE (t:Nat × Nat × Nat):List FV:=[.v (.int .i64 t.1),.v (.int .i64 t.2.1),.v (.int .i64 t.2.2)]
def jH (l:List (Nat × Nat × Nat)):List (List FV):=l.map trE
abbrev qTh (l:List (Nat × Nat × Nat)):Row:=.sl true 98 3 (jH l)
theorem qDg (l:List (Nat × Nat × Nat)):(jH l).length=l.length:=by simp [jH]
theorem qKo (l:List (Nat × Nat × Nat)) (t:Nat × Nat × Nat):jH l ++ [[.v (.int .i64 (t.1:Nat)),.v (.int .i64 (t.2.1:Nat)),.v (.int .i64 (t.2.2:Nat))]]=jH (l ++ [t]):=by simp [jH,trE]
theorem jB (l:List (Nat × Nat × Nat)):Wid 3 (jH l)=True:=eq_true (vK l fun _=>rfl)
theorem qG9 {l:List (Nat × Nat × Nat)} {i:Nat} {d:List FV} (h:i < l.length):(jH l).getD i d=[.v (.int .i64 (l[i].1:Nat)),.v (.int .i64 (l[i].2.1:Nat)),.v (.int .i64 (l[i].2.2:Nat))]:=by unfold jH;rw [jT h];rfl
theorem qSr (l:List (Nat × Nat × Nat)):∀ x ∈ jH l,∀ f ∈ x,FreshF f:=fun x hx f hf=>by
 obtain ⟨t,-,rfl⟩:=List.mem_map.1 hx;simp only [trE,List.mem_cons,List.not_mem_nil,or_false] at hf
 rcases hf with rfl|rfl|rfl <;> exact .v _
def qEt (p:Nat × Nat) (y:List (Nat × Nat)):List (Nat × Nat × Nat):=(y.filter fun q=>p.1 == q.1).map fun q=>(p.1,p.2,q.2)
theorem zG8 {x y:List (Nat × Nat)} {i:Nat} (h:i < x.length):tri (x.take (i + 1)) y=tri (x.take i) y ++ qEt x[i] y:=by
 rw [List.take_succ_eq_append_getElem h];simp only [tri,qEt,List.flatMap_append,List.flatMap_cons,List.flatMap_nil,List.append_nil]
theorem zCw {p:Nat × Nat} {y:List (Nat × Nat)} {j:Nat} (h:j < y.length):qEt p (y.take (j + 1))=qEt p (y.take j) ++ (if p.1=y[j].1 then [(p.1,p.2,y[j].2)] else []):=by
 rw [List.take_succ_eq_append_getElem h,qEt,List.filter_append,List.map_append]
 congr 1
 by_cases e:p.1=y[j].1
 ·simp [e]
 ·simp [e]
theorem qSt (p:Nat × Nat) (y:List (Nat × Nat)):(qEt p y).length≤y.length:=by
 rw [qEt,List.length_map];exact List.length_filter_le ..
theorem zBe (x y:List (Nat × Nat)):(tri x y).length≤x.length * y.length:=by
 induction x with
|nil=>simp [tri]
|cons p r ih =>
  have h:=qSt p y
  have e:tri (p :: r) y=qEt p y ++ tri r y:=by simp [tri,qEt]
  rw [e,List.length_append,List.length_cons,Nat.add_mul,Nat.one_mul];omega
def rtE (x y:List (Nat × Nat)) (l:List (Nat × Nat × Nat)) (i:Nat):HS:=⟨[(7,.lst true (nN (x.map tW))),(9,.lst true (nN (y.map tW))),(11,.own 9000),(12,.v (.int .i64 i))],[(9000,qTh l)]⟩
def rtF (x y:List (Nat × Nat)) (l:List (Nat × Nat × Nat)) (i j:Nat):HS:=⟨[(7,.lst true (nN (x.map tW))),(9,.lst true (nN (y.map tW))),(11,.own 9000),(12,.v (.int .i64 i)),(13,.v (.int .i64 j))],[(9000,qTh l)]⟩
set_option maxHeartbeats 8000000 in
theorem qTo (o a b:List ByteArray) (ho:o.length≤400) (ha:a.length≤400) (hb:b.length≤400):HFun Tryz.prog 72 [.lst false (aK o),.lst false (aK a),.lst false (aK b)] (fun h st =>
  h=.own 0∧st=[(0,qTh (tri (kn o a) (kn o b)))]):=by
 refine eF (N:=69) Tryz.func72 rfl Tryz.ntmps72 Tryz.results72 (by simp) ?_
 refine zE ?_;refine zJ (fun K hK=>?_);simp (disch:=omega) only [push_cast,↓Int.cast_ofNat_Int,simprocAttr];refine hK _ ?_
 refine zE ?_;refine zJ (fun K hK=>?_);simp (disch:=omega) only [push_cast,↓Int.cast_ofNat_Int,simprocAttr]
 refine hat 136 zVv (qPp o a) (.cons (aH (aN _)) (.cons (aH (aN _)) .nil)) ?_;rintro _ _ (⟨hlim,rfl,rfl⟩|⟨-,-,rfl,rfl⟩)
 ·omega
 rw [qL8];with_reducible refine aB ?_;simp (disch:=omega) only [push_cast,↓Int.cast_ofNat_Int,simprocAttr]
 refine hK _ ?_;refine yB [0,2,7] [136] (by simp only [zZ,zR,zP,zQ,zN,zS,zM,zX,zU,Nat.reduceEqDiff,reduceIte];exact rfl) ?_
 refine cU 136 rfl (by simp only [dP,cJ,bH,bZ,bF,fD,cF,cG,bG,cE,cD,dQ,cH,cC,dL,dM,dN,Nat.reduceEqDiff,reduceIte,List.map_cons,List.map_nil,List.map_append];exact rfl) ?_
 refine zE ?_;refine zJ (fun K hK=>?_);simp (disch:=omega) only [push_cast,↓Int.cast_ofNat_Int,simprocAttr]
 refine hat 184 zVv (qPp o b) (.cons (aH (aN _)) (.cons (aH (aN _)) .nil)) ?_;rintro _ _ (⟨hlim,rfl,rfl⟩|⟨-,-,rfl,rfl⟩)
 ·omega
 rw [qL8];with_reducible refine aB ?_;simp (disch:=omega) only [push_cast,↓Int.cast_ofNat_Int,simprocAttr]
 refine hK _ ?_;refine yB [7,9] [184] (by simp only [zZ,zR,zP,zQ,zN,zS,zM,zX,zU,Nat.reduceEqDiff,reduceIte];exact rfl) ?_
 refine cU 184 rfl (by simp only [dP,cJ,bH,bZ,bF,fD,cF,cG,bG,cE,cD,dQ,cH,cC,dL,dM,dN,Nat.reduceEqDiff,reduceIte,List.map_cons,List.map_nil,List.map_append];exact rfl) ?_
 have hX:(kn o a).length≤400:=by have:=(qX o a).len;omega
 have hY:(kn o b).length≤400:=by have:=(qX o b).len;omega
 generalize kn o a=x at *
 generalize kn o b=y at *
 refine zE ?_;refine zJ (fun K hK=>?_);simp (disch:=omega) only [push_cast,↓Int.cast_ofNat_Int,simprocAttr];refine hK _ ?_
 refine qE 11 9000 98 3 rfl (by simp only [oK,tJ,tK,gQ,fN,gG,fF,kG,gN,jD,gM,gK,iQ,gP,gJ,fM,iL,iN,iM,kF,kP,jC,Nat.reduceBEq,Nat.reduceEqDiff,reduceIte,cond_true,cond_false,List.map_cons,List.map_nil];exact rfl) ?_
 refine zE ?_;refine zE ?_;refine zJ (fun K hK=>?_);simp (disch:=omega) only [push_cast,↓Int.cast_ofNat_Int,simprocAttr];refine hK _ ?_
 refine zA ?_;refine zD ?_
 have hxl:(nN (x.map tW)).length=x.length:=by rw [pQ,List.length_map]
 have hyl:(nN (y.map tW)).length=y.length:=by rw [pQ,List.length_map]
 refine bR (fun i=>rtE x y (tri (x.take i) y) i) (fun i=>i≤x.length) (fun i=>x.length - i) [7,9,11,12] [9000] 0 (by simp only [zZ,zR,zP,zQ,zN,zS,zM,zX,zU,Nat.reduceEqDiff,reduceIte,rtE];try rfl) (Nat.zero_le _) ?_
 intro i hi;simp only [rtE]
 by_cases hlt:i < x.length
 ·obtain ⟨p,q,hpq⟩:∃ p q,x[i]=(p,q):=⟨x[i].1,x[i].2,rfl⟩
  have gx:∀ d,(nN (x.map tW)).getD i d=[.v (.int .i64 (p:Nat)),.v (.int .i64 (q:Nat))]:=fun d=>by
   rw [qHu (by rw [List.length_map];exact hlt),List.getElem_map,hpq];rfl
  have hsucc:tri (x.take (i + 1)) y=tri (x.take i) y ++ qEt (p,q) y:=by rw [zG8 hlt,hpq]
  have hB:(tri (x.take i) y).length≤400 * 400:=Nat.le_trans (zBe _ _) (Nat.mul_le_mul (by rw [List.length_take];omega) hY)
  generalize tri (x.take i) y=l at *
  refine zE ?_;refine zE ?_;refine zJ (fun K hK=>?_);simp (disch:=omega) only [push_cast,↓Int.cast_ofNat_Int,simprocAttr,hxl];refine hK _ ?_
  refine zA ?_;refine yD rfl ?_;refine zC ?_;refine zE ?_;refine zD ?_;refine zE ?_;refine zJ (fun K hK=>?_);simp (disch:=omega) only [push_cast,↓Int.cast_ofNat_Int,simprocAttr];refine hK _ ?_
  refine zA ?_;refine zD ?_;refine bR (fun j=>rtF x y (l ++ qEt (p,q) (y.take j)) i j) (fun j=>j≤y.length) (fun j=>y.length - j) [7,9,11,12,13] [9000] 0 (by simp only [zZ,zR,zP,zQ,zN,zS,zM,zX,zU,Nat.reduceEqDiff,reduceIte,rtF,List.take_zero,show qEt (p,q) []=[] from rfl,List.append_nil];try rfl) (Nat.zero_le _) ?_
  intro j hj;simp only [rtF]
  by_cases hjt:j < y.length
  ·obtain ⟨r,s,hrs⟩:∃ r s,y[j]=(r,s):=⟨y[j].1,y[j].2,rfl⟩
   have gy:∀ d,(nN (y.map tW)).getD j d=[.v (.int .i64 (r:Nat)),.v (.int .i64 (s:Nat))]:=fun d=>by
    rw [qHu (by rw [List.length_map];exact hjt),List.getElem_map,hrs];rfl
   have hnx:qEt (p,q) (y.take (j + 1))=qEt (p,q) (y.take j) ++ (if p=r then [(p,q,s)] else []):=by rw [zCw hjt,hrs]
   have hT:=qSt (p,q) (y.take j)
   rw [List.length_take] at hT;generalize qEt (p,q) (y.take j)=m at *
   refine zE ?_;refine zE ?_;refine zJ (fun K hK=>?_);simp (disch:=omega) only [push_cast,↓Int.cast_ofNat_Int,simprocAttr,hyl];refine hK _ ?_
   refine zA ?_;refine yD rfl ?_;refine zC ?_;refine zE ?_
   by_cases e:p=r
   ·subst e;refine zD ?_;refine zE ?_;refine HW_drw 11 mixed (by kernel_rfl) (fun K hK=>?_);simp (disch:=omega) only [push_cast,↓Int.cast_ofNat_Int,simprocAttr,hxl,hyl,gx,gy,sK]
    with_reducible refine aB ?_;simp (disch:=omega) only [push_cast,↓Int.cast_ofNat_Int,simprocAttr,hxl,hyl,gx,gy,sK]
    refine hK _ ?_;refine yD rfl ?_
    have hsn:jH (l ++ m) ++ [[.v (.int .i64 (p:Nat)),.v (.int .i64 (q:Nat)),.v (.int .i64 (s:Nat))]]=jH (l ++ m ++ [(p,q,s)]):=qKo (l ++ m) (p,q,s)
    have hw1:Wid 3 [[FV.v (.int .i64 (p:Nat)),FV.v (.int .i64 (q:Nat)),FV.v (.int .i64 (s:Nat))]]=True:=jB [(p,q,s)]
    have hln:(jH (l ++ m)).length=l.length + m.length:=by rw [qDg,List.length_append]
    refine yB [7,9,11,12,13] [9000] (by simp only [zZ,zR,zP,zQ,zN,zS,zM,zX,zU,Nat.reduceEqDiff,reduceIte];exact rfl) ?_
    refine mZ 19 [(18,some 9000)] [[(9000,qTh (l ++ m))],[(9000,qTh (l ++ m ++ [(p,q,s)]))]] [(0,0,0)] mixed (by kernel_rfl) (by kernel_rfl) rfl (fun K hK K1 hK1=>?_);simp (disch:=omega) only [push_cast,↓Int.cast_ofNat_Int,simprocAttr,dB,cM,eB,cZ,fQ,lQ,cY,cL,aT,aZ,bP,aU,aV,fR,dC,dK,eE,eD,cP,bC,bQ,fV,fU,fT,dD,dE,dJ,dG,fW,cW,dF,eC,List.tail_cons,List.take_nil,List.drop_nil,hxl,hyl,gx,gy,sK,hsn,hln,hw1]
    refine hK1 _ ?_;(try clear hK1 K1);with_reducible refine aB ?_;simp (disch:=omega) only [push_cast,↓Int.cast_ofNat_Int,simprocAttr]
    refine hK _ ?_;refine zB ?_;refine zA ?_;refine zJ (fun K hK=>?_);simp (disch:=omega) only [push_cast,↓Int.cast_ofNat_Int,simprocAttr];refine hK _ ?_
    refine zA ?_;refine ⟨j + 1,by simp only [zZ,zR,zP,zQ,zN,zS,zM,zX,zU,Nat.reduceEqDiff,reduceIte,rtF];rw [hnx,if_pos rfl,List.append_assoc];try rfl,hjt,by omega⟩
   ·refine zD ?_;refine zE ?_;refine HW_drw 11 mixed (by kernel_rfl) (fun K hK=>?_);simp (disch:=omega) only [push_cast,↓Int.cast_ofNat_Int,simprocAttr,hxl,hyl,gx,gy,sK]
    with_reducible refine aB ?_;simp (disch:=omega) only [push_cast,↓Int.cast_ofNat_Int,simprocAttr,hxl,hyl,gx,gy,sK]
    refine hK _ ?_;refine yC rfl ?_;refine zC ?_;refine zB ?_;refine zA ?_;refine zJ (fun K hK=>?_);simp (disch:=omega) only [push_cast,↓Int.cast_ofNat_Int,simprocAttr];refine hK _ ?_
    refine zA ?_;refine ⟨j + 1,by simp only [zZ,zR,zP,zQ,zN,zS,zM,zX,zU,Nat.reduceEqDiff,reduceIte,rtF];rw [hnx,if_neg e,List.append_nil];try rfl,hjt,by omega⟩
  ·have hjy:y.take j=y:=List.take_of_length_le (by omega)
   rw [hjy];refine zE ?_;refine zE ?_;refine zJ (fun K hK=>?_);simp (disch:=omega) only [push_cast,↓Int.cast_ofNat_Int,simprocAttr,hyl];refine hK _ ?_
   refine zA ?_;refine yC rfl ?_;refine zT ?_;refine zG ?_;refine zG ?_;refine zH ?_;refine zB ?_;refine zA ?_;refine zJ (fun K hK=>?_);simp (disch:=omega) only [push_cast,↓Int.cast_ofNat_Int,simprocAttr];refine hK _ ?_
   refine zA ?_;refine ⟨i + 1,by simp only [zZ,zR,zP,zQ,zN,zS,zM,zX,zU,Nat.reduceEqDiff,reduceIte,rtE];rw [hsucc];try rfl,hlt,by omega⟩
 ·have hfin:x.take i=x:=List.take_of_length_le (by omega)
  rw [hfin];refine zE ?_;refine zE ?_;refine zJ (fun K hK=>?_);simp (disch:=omega) only [push_cast,↓Int.cast_ofNat_Int,simprocAttr,hxl];refine hK _ ?_
  refine zA ?_;refine yC rfl ?_;refine zT ?_;refine zG ?_;refine zG ?_;refine zH ?_;refine zE ?_;refine zJ (fun K hK=>?_);simp (disch:=omega) only [push_cast,↓Int.cast_ofNat_Int,simprocAttr];refine hK _ ?_
  refine zA ?_;refine zW ?_;simp only [yA,yM,yH,yE,aA,aC,yK,yJ,zS,zM,Nat.reduceEqDiff,reduceIte,reduceCtorEq];exact lW rfl (qSr _) ⟨rfl,rfl⟩
end Go.Proofs.YtdfjeokjmigkaaaGreat
