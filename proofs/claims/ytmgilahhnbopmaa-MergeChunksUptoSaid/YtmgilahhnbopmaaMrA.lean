/-
  The reference's merge: the lines that all three have.
-/
import Derived.Test.YtmgilahhnbopmaaScr
import Derived.Test.YtmgilahhnbopmaaMgB
import Derived.Test.YtmgilahhnbopmaaChn
set_option linter.unusedSimpArgs false
set_option linter.unusedVariables false
set_option maxRecDepth 20000
namespace Go.Proofs.Ytmgilahhnbopmaa
open Go Go.Eng Go.RowKit Go.DiffM

def trE (t:Nat × Nat × Nat):List FV:=[.v (.int .i64 t.1),.v (.int .i64 t.2.1),.v (.int .i64 t.2.2)]
def iZ (l:List (Nat × Nat × Nat)):List (List FV):=l.map trE
abbrev qTu (l:List (Nat × Nat × Nat)):Row:=.sl true 49 3 (iZ l)
theorem qBf (l:List (Nat × Nat × Nat)):(iZ l).length=l.length:=by simp [iZ]
theorem qHn (l:List (Nat × Nat × Nat)) (t:Nat × Nat × Nat):iZ l ++ [[.v (.int .i64 (t.1:Nat)),.v (.int .i64 (t.2.1:Nat)),.v (.int .i64 (t.2.2:Nat))]]=iZ (l ++ [t]):=by simp [iZ,trE]
theorem iP (l:List (Nat × Nat × Nat)):Wid 3 (iZ l)=True:=eq_true (wP l fun _=>rfl)
theorem qEp {l:List (Nat × Nat × Nat)} {i:Nat} {d:List FV} (h:i < l.length):(iZ l).getD i d=[.v (.int .i64 (l[i].1:Nat)),.v (.int .i64 (l[i].2.1:Nat)),.v (.int .i64 (l[i].2.2:Nat))]:=by unfold iZ;rw [iG h];rfl
theorem qS9 (l:List (Nat × Nat × Nat)):∀ x ∈ iZ l,∀ f ∈ x,FreshF f:=fun x hx f hf=>by
 obtain ⟨t,-,rfl⟩:=List.mem_map.1 hx;simp only [trE,List.mem_cons,List.not_mem_nil,or_false] at hf
 rcases hf with rfl|rfl|rfl <;> exact .v _
def qCj (p:Nat × Nat) (y:List (Nat × Nat)):List (Nat × Nat × Nat):=(y.filter fun q=>p.1 == q.1).map fun q=>(p.1,p.2,q.2)
theorem zC1 {x y:List (Nat × Nat)} {i:Nat} (h:i < x.length):tri (x.take (i + 1)) y=tri (x.take i) y ++ qCj x[i] y:=by
 rw [List.take_succ_eq_append_getElem h];simp only [tri,qCj,List.flatMap_append,List.flatMap_cons,List.flatMap_nil,List.append_nil]
theorem zBd {p:Nat × Nat} {y:List (Nat × Nat)} {j:Nat} (h:j < y.length):qCj p (y.take (j + 1))=qCj p (y.take j) ++ (if p.1=y[j].1 then [(p.1,p.2,y[j].2)] else []):=by
 rw [List.take_succ_eq_append_getElem h,qCj,List.filter_append,List.map_append]
 congr 1
 by_cases e:p.1=y[j].1
 ·simp [e]
 ·simp [e]
theorem qTb (p:Nat × Nat) (y:List (Nat × Nat)):(qCj p y).length≤y.length:=by
 rw [qCj,List.length_map];exact List.length_filter_le ..
theorem qYx (x y:List (Nat × Nat)):(tri x y).length≤x.length * y.length:=by
 induction x with
|nil=>simp [tri]
|cons p r ih =>
  have h:=qTb p y
  have e:tri (p :: r) y=qCj p y ++ tri r y:=by simp [tri,qCj]
  rw [e,List.length_append,List.length_cons,Nat.add_mul,Nat.one_mul];omega
def rtE (x y:List (Nat × Nat)) (l:List (Nat × Nat × Nat)) (i:Nat):HS:=⟨[(7,.lst true (lW (x.map qX))),(9,.lst true (lW (y.map qX))),(11,.own 9000),(12,.v (.int .i64 i))],[(9000,qTu l)]⟩
def rtF (x y:List (Nat × Nat)) (l:List (Nat × Nat × Nat)) (i j:Nat):HS:=⟨[(7,.lst true (lW (x.map qX))),(9,.lst true (lW (y.map qX))),(11,.own 9000),(12,.v (.int .i64 i)),(13,.v (.int .i64 j))],[(9000,qTu l)]⟩
set_option maxHeartbeats 8000000 in
theorem qTy (o a b:List ByteArray) (ho:o.length≤400) (ha:a.length≤400) (hb:b.length≤400):HFun Try.prog 16 [.lst false (aD o),.lst false (aD a),.lst false (aD b)] (fun h st =>
  h=.own 0∧st=[(0,qTu (tri (kn o a) (kn o b)))]):=by
 refine rT (N:=69) Try.func16 rfl Try.ntmps16 Try.results16 (by simp) ?_
 refine zE ?_;refine zJ (fun K hK=>?_);simp (disch:=omega) only [push_cast,↓iC9,simprocAttr];refine hK _ ?_;clear hK K
 refine zE ?_;refine zJ (fun K hK=>?_);simp (disch:=omega) only [push_cast,↓iC9,simprocAttr]
 refine hat 136 zK5 (qN5 o a) (.cons (dF (aQ _)) (.cons (dF (aQ _)) .nil)) ?_;rintro _ _ (⟨hlim,rfl,rfl⟩|⟨-,-,rfl,rfl⟩)
 ·omega
 rw [qKd];with_reducible refine aH ?_;simp (disch:=omega) only [push_cast,↓iC9,simprocAttr]
 refine hK _ ?_;clear hK K;refine yB [0,2,7] [136] (by simp only [zZ,zR,zP,zQ,zN,zS,zM,zX,zU,Nat.reduceEqDiff,reduceIte];exact rfl) ?_
 refine dE 136 rfl (by simp only [bJ,bC,aL,aT,aJ,cC,aX,aY,aK,aW,aV,bK,aZ,aU,bF,bG,bH,Nat.reduceEqDiff,reduceIte,List.map_cons,List.map_nil,List.map_append];exact rfl) ?_
 refine zE ?_;refine zJ (fun K hK=>?_);simp (disch:=omega) only [push_cast,↓iC9,simprocAttr]
 refine hat 184 zK5 (qN5 o b) (.cons (dF (aQ _)) (.cons (dF (aQ _)) .nil)) ?_;rintro _ _ (⟨hlim,rfl,rfl⟩|⟨-,-,rfl,rfl⟩)
 ·omega
 rw [qKd];with_reducible refine aH ?_;simp (disch:=omega) only [push_cast,↓iC9,simprocAttr]
 refine hK _ ?_;clear hK K;refine yB [7,9] [184] (by simp only [zZ,zR,zP,zQ,zN,zS,zM,zX,zU,Nat.reduceEqDiff,reduceIte];exact rfl) ?_
 refine dE 184 rfl (by simp only [bJ,bC,aL,aT,aJ,cC,aX,aY,aK,aW,aV,bK,aZ,aU,bF,bG,bH,Nat.reduceEqDiff,reduceIte,List.map_cons,List.map_nil,List.map_append];exact rfl) ?_
 have hX:(kn o a).length≤400:=by have:=(oM o a).len;omega
 have hY:(kn o b).length≤400:=by have:=(oM o b).len;omega
 generalize kn o a=x at *
 generalize kn o b=y at *
 refine zE ?_;refine zJ (fun K hK=>?_);simp (disch:=omega) only [push_cast,↓iC9,simprocAttr];refine hK _ ?_;clear hK K
 refine qB0 11 9000 49 3 rfl (by simp only [sZ,yZ,qAb,mE,jZ,gK,fL,jN,gP,mA,gN,gM,oQ,mB,lZ,fR,iC,iE,iD,jM,oN,lX,Nat.reduceBEq,Nat.reduceEqDiff,reduceIte,cond_true,cond_false,List.map_cons,List.map_nil];exact rfl) ?_
 refine zE ?_;refine zE ?_;refine zJ (fun K hK=>?_);simp (disch:=omega) only [push_cast,↓iC9,simprocAttr];refine hK _ ?_;clear hK K
 refine zA ?_;refine zD ?_
 have hxl:(lW (x.map qX)).length=x.length:=by rw [nN,List.length_map]
 have hyl:(lW (y.map qX)).length=y.length:=by rw [nN,List.length_map]
 refine fS (fun i=>rtE x y (tri (x.take i) y) i) (fun i=>i≤x.length) (fun i=>x.length - i) [7,9,11,12] [9000] 0 (by simp only [zZ,zR,zP,zQ,zN,zS,zM,zX,zU,Nat.reduceEqDiff,reduceIte,rtE];try rfl) (Nat.zero_le _) ?_
 intro i hi;simp only [rtE]
 by_cases hlt:i < x.length
 ·obtain ⟨p,q,hpq⟩:∃ p q,x[i]=(p,q):=⟨x[i].1,x[i].2,rfl⟩
  have gx:∀ d,(lW (x.map qX)).getD i d=[.v (.int .i64 (p:Nat)),.v (.int .i64 (q:Nat))]:=fun d=>by
   rw [qE1 (by rw [List.length_map];exact hlt),List.getElem_map,hpq];rfl
  have hsucc:tri (x.take (i + 1)) y=tri (x.take i) y ++ qCj (p,q) y:=by rw [zC1 hlt,hpq]
  have hB:(tri (x.take i) y).length≤400 * 400:=Nat.le_trans (qYx _ _) (Nat.mul_le_mul (by rw [List.length_take];omega) hY)
  generalize tri (x.take i) y=l at *
  refine zE ?_;refine zE ?_;refine zJ (fun K hK=>?_);simp (disch:=omega) only [push_cast,↓iC9,simprocAttr,hxl];refine hK _ ?_;clear hK K
  refine zA ?_;refine yD rfl ?_;refine zC ?_;refine zE ?_;refine zD ?_;refine zE ?_;refine zJ (fun K hK=>?_);simp (disch:=omega) only [push_cast,↓iC9,simprocAttr];refine hK _ ?_;clear hK K
  refine zA ?_;refine zD ?_;refine fS (fun j=>rtF x y (l ++ qCj (p,q) (y.take j)) i j) (fun j=>j≤y.length) (fun j=>y.length - j) [7,9,11,12,13] [9000] 0 (by simp only [zZ,zR,zP,zQ,zN,zS,zM,zX,zU,Nat.reduceEqDiff,reduceIte,rtF,List.take_zero,show qCj (p,q) []=[] from rfl,List.append_nil];try rfl) (Nat.zero_le _) ?_
  intro j hj;simp only [rtF]
  by_cases hjt:j < y.length
  ·obtain ⟨r,s,hrs⟩:∃ r s,y[j]=(r,s):=⟨y[j].1,y[j].2,rfl⟩
   have gy:∀ d,(lW (y.map qX)).getD j d=[.v (.int .i64 (r:Nat)),.v (.int .i64 (s:Nat))]:=fun d=>by
    rw [qE1 (by rw [List.length_map];exact hjt),List.getElem_map,hrs];rfl
   have hnx:qCj (p,q) (y.take (j + 1))=qCj (p,q) (y.take j) ++ (if p=r then [(p,q,s)] else []):=by rw [zBd hjt,hrs]
   have hT:=qTb (p,q) (y.take j)
   rw [List.length_take] at hT;generalize qCj (p,q) (y.take j)=m at *
   refine zE ?_;refine zE ?_;refine zJ (fun K hK=>?_);simp (disch:=omega) only [push_cast,↓iC9,simprocAttr,hyl];refine hK _ ?_;clear hK K
   refine zA ?_;refine yD rfl ?_;refine zC ?_;refine zE ?_
   by_cases e:p=r
   ·subst e;refine zD ?_;refine zE ?_;refine HW_drw 11 mixed (by kernel_rfl) (fun K hK=>?_);simp (disch:=omega) only [push_cast,↓iC9,simprocAttr,hxl,hyl,gx,gy,pV]
    with_reducible refine aH ?_;simp (disch:=omega) only [push_cast,↓iC9,simprocAttr,hxl,hyl,gx,gy,pV]
    refine hK _ ?_;clear hK K;refine yD rfl ?_
    have hsn:iZ (l ++ m) ++ [[.v (.int .i64 (p:Nat)),.v (.int .i64 (q:Nat)),.v (.int .i64 (s:Nat))]]=iZ (l ++ m ++ [(p,q,s)]):=qHn (l ++ m) (p,q,s)
    have hw1:Wid 3 [[FV.v (.int .i64 (p:Nat)),FV.v (.int .i64 (q:Nat)),FV.v (.int .i64 (s:Nat))]]=True:=iP [(p,q,s)]
    have hln:(iZ (l ++ m)).length=l.length + m.length:=by rw [qBf,List.length_append]
    refine yB [7,9,11,12,13] [9000] (by simp only [zZ,zR,zP,zQ,zN,zS,zM,zX,zU,Nat.reduceEqDiff,reduceIte];exact rfl) ?_
    refine lL 19 [(18,some 9000)] [[(9000,qTu (l ++ m))],[(9000,qTu (l ++ m ++ [(p,q,s)]))]] [(0,0,0)] mixed (by kernel_rfl) (by kernel_rfl) rfl (fun K hK K1 hK1=>?_);simp (disch:=omega) only [push_cast,↓iC9,simprocAttr,dN,cX,eQ,dM,gA,kX,dK,cV,bN,bU,cJ,bP,bQ,gB,dP,dV,eX,eW,cY,bV,cK,gE,gD,gC,dQ,dR,dU,dT,gF,dH,dS,eV,List.tail_cons,List.take_nil,List.drop_nil,hxl,hyl,gx,gy,pV,hsn,hln,hw1]
    refine hK1 _ ?_;(try clear hK1 K1);with_reducible refine aH ?_;simp (disch:=omega) only [push_cast,↓iC9,simprocAttr]
    refine hK _ ?_;clear hK K;refine zB ?_;refine zA ?_;refine zJ (fun K hK=>?_);simp (disch:=omega) only [push_cast,↓iC9,simprocAttr];refine hK _ ?_;clear hK K
    refine zA ?_;refine ⟨j + 1,by simp only [zZ,zR,zP,zQ,zN,zS,zM,zX,zU,Nat.reduceEqDiff,reduceIte,rtF];rw [hnx,if_pos rfl,List.append_assoc];try rfl,hjt,by omega⟩
   ·refine zD ?_;refine zE ?_;refine HW_drw 11 mixed (by kernel_rfl) (fun K hK=>?_);simp (disch:=omega) only [push_cast,↓iC9,simprocAttr,hxl,hyl,gx,gy,pV]
    with_reducible refine aH ?_;simp (disch:=omega) only [push_cast,↓iC9,simprocAttr,hxl,hyl,gx,gy,pV]
    refine hK _ ?_;clear hK K;refine yC rfl ?_;refine zC ?_;refine zB ?_;refine zA ?_;refine zJ (fun K hK=>?_);simp (disch:=omega) only [push_cast,↓iC9,simprocAttr];refine hK _ ?_;clear hK K
    refine zA ?_;refine ⟨j + 1,by simp only [zZ,zR,zP,zQ,zN,zS,zM,zX,zU,Nat.reduceEqDiff,reduceIte,rtF];rw [hnx,if_neg e,List.append_nil];try rfl,hjt,by omega⟩
  ·have hjy:y.take j=y:=List.take_of_length_le (by omega)
   rw [hjy];refine zE ?_;refine zE ?_;refine zJ (fun K hK=>?_);simp (disch:=omega) only [push_cast,↓iC9,simprocAttr,hyl];refine hK _ ?_;clear hK K
   refine zA ?_;refine yC rfl ?_;refine zT ?_;refine zG ?_;refine zG ?_;refine zH ?_;refine zB ?_;refine zA ?_;refine zJ (fun K hK=>?_);simp (disch:=omega) only [push_cast,↓iC9,simprocAttr];refine hK _ ?_;clear hK K
   refine zA ?_;refine ⟨i + 1,by simp only [zZ,zR,zP,zQ,zN,zS,zM,zX,zU,Nat.reduceEqDiff,reduceIte,rtE];rw [hsucc];try rfl,hlt,by omega⟩
 ·have hfin:x.take i=x:=List.take_of_length_le (by omega)
  rw [hfin];refine zE ?_;refine zE ?_;refine zJ (fun K hK=>?_);simp (disch:=omega) only [push_cast,↓iC9,simprocAttr,hxl];refine hK _ ?_;clear hK K
  refine zA ?_;refine yC rfl ?_;refine zT ?_;refine zG ?_;refine zG ?_;refine zH ?_;refine zE ?_;refine zJ (fun K hK=>?_);simp (disch:=omega) only [push_cast,↓iC9,simprocAttr];refine hK _ ?_;clear hK K
  refine zA ?_;refine zW ?_;simp only [yA,yM,yH,yE,aR,bT,yK,yJ,zS,zM,Nat.reduceEqDiff,reduceIte,reduceCtorEq];exact xK rfl (qS9 _) ⟨rfl,rfl⟩
end Go.Proofs.Ytmgilahhnbopmaa
