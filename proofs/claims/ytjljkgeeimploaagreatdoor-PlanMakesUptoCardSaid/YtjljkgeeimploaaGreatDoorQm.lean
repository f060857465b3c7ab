/- What the walk of the law stands on. -/
import Derived.Test.YtjljkgeeimploaaGreatDoorQl
set_option linter.defProp false
set_option maxRecDepth 20000
set_option maxHeartbeats 32000000
namespace Go.Proofs.Y
open Go Go.Eng Go.RowKit Go.DiffM
section
variable {α:Type} [DecidableEq α]
theorem qU5 (x:α) (a b:List α):lcs (x :: a) b≤lcs a b + 1:=by
 obtain ⟨s,h1,h2,h3⟩:=qLg _ (x :: a) b (a7 _)
 rcases List.sublist_cons_iff.1 h1 with h|⟨r,rfl,h⟩
 ·have:=rP _ a b s (a7 _) h h2;omega
 ·have:=rP _ a b r (a7 _) h ((bCu _ _).trans h2)
  simp only [i6] at h3;omega
theorem qRr (y:α) (a b:List α):lcs a (y :: b)≤lcs a b + 1:=by
 obtain ⟨s,h1,h2,h3⟩:=qLg _ a (y :: b) (a7 _)
 rcases List.sublist_cons_iff.1 h2 with h|⟨r,rfl,h⟩
 ·have:=rP _ a b s (a7 _) h1 h;omega
 ·have:=rP _ a b r (a7 _) ((bCu _ _).trans h1) h
  simp only [i6] at h3;omega
theorem zTi (a b:List α) (i j:Nat) (hi:i < a.length):at2 a b i j≤at2 a b (i + 1) j + 1:=by
 unfold at2;rw [l4 hi];exact qU5 _ _ _
theorem zMn (a b:List α) (i j:Nat) (hj:j < b.length):at2 a b i j≤at2 a b i (j + 1) + 1:=by
 unfold at2;rw [l4 hj];exact qRr _ _ _
end
def yB2:List FV:=[.v (.slice none 0 0)]
def sU (r:List Int):List FV:=[.lst true (fN r)]
def pY (a b:List Ba) (p:Nat):List Int:=(List.range (b.length + 1)).map fun q=>((at2 a b p q:Nat):Int)
def oC (a b:List Ba) (n:Nat):List (List Int):=((List.range (a.length + 1)).drop n).map (pY a b)
def uZ (n:Nat) (rows:List (List Int)):List (List FV):=List.replicate n yB2 ++ rows.map sU
def tab (a b:List Ba):List (List FV):=(oC a b 0).map sU
def qR (a b:List Ba) (p:Nat):(pY a b p).length=b.length + 1:=by simp [pY]
def qBv (a b:List Ba) (p q:Nat) (h:q < (pY a b p).length):(pY a b p)[q]=((at2 a b p q:Nat):Int):=by simp [pY]
def sZ (a b:List Ba) (n:Nat) (h:n≤a.length):oC a b n=pY a b n :: oC a b (n + 1):=by
 unfold oC;rw [l4 (by simp;omega),d8,bBr]
def qTp (a b:List Ba):oC a b a.length=[pY a b a.length]:=by
 rw [sZ a b _ (a7 _)]
 congr 1
 unfold oC;rw [u0 (by simp)];rfl
def nF (n:Nat) (rows:List (List Int)):(uZ n rows).length=n + rows.length:=by simp [uZ]
def rD (n:Nat) (rows:List (List Int)):Wid 1 (uZ n rows)=True:=bEe fun x hx=>by
 simp only [uZ,m8] at hx
 rcases hx with h|h
 ·rw [(bEl.1 h).2];rfl
 ·obtain ⟨r,-,rfl⟩:=m6.1 h;rfl
def nX (n:Nat) (r:List Int) (rows:List (List Int)) {d:List FV}:(uZ n (r :: rows)).getD n d=[.lst true (fN r)]:=by
 rw [eU (by simp [uZ])]
 simp [uZ,sU]
def qS0 (n:Nat) (rows:List (List Int)) {d:List FV}:(uZ (n + 1) rows).getD n d=[.v (.slice none 0 0)]:=by
 rw [eU (by simp [uZ];omega)]
 simp only [uZ];rw [bAd (by simp)]
 simp [yB2]
def qSz (n:Nat) (r:List Int) (rows:List (List Int)):(uZ (n + 1) rows).set n [.lst true (fN r)]=uZ n (r :: rows):=by
 simp only [uZ,bD3,u6];rw [bDy _ _ (by simp)]
 simp [sU]
def zNb (n:Nat):List.replicate n [FV.v (.slice none 0 0)]=uZ n []:=by simp [uZ,yB2]
def zF4 (a b:List Ba):uZ 0 (oC a b 0)=tab a b:=by simp [uZ,tab]
def qVc (n:Nat):List.replicate n [FV.v (.int .i64 0)]=fN (List.replicate n 0):=by simp [fN,qRv]
def qAt (R:List Int) (k:Nat) (x:Int):(fN R).set k [.v (.int .i64 x)]=fN (R.set k x):=by simp [fN,List.map_set,qRv]
def oJ {R:List Int} {k:Nat} {x:Int} {d:List FV} (h:k < R.length):(fN (R.set k x)).getD k d=[.v (.int .i64 x)]:=by rw [eX (by simpa using h)];simp
def qQh (a b:List Ba):(tab a b).length=a.length + 1:=by simp [tab,oC]
def qQi (a b:List Ba) {p:Nat} {d:List FV} (h:p < a.length + 1):(tab a b).getD p d=[.lst true (fN (pY a b p))]:=by
 unfold tab;rw [fQ (by simpa [oC] using h)]
 simp [oC,sU]
def qQg (a b:List Ba):Wid 1 (tab a b)=True:=bEe (qC _ fun _=>rfl)
def zF3 (a b:List Ba):∀ x ∈ tab a b,∀ f ∈ x,FreshF f:=fun x hx f hf=>by
 obtain ⟨r,-,rfl⟩:=m6.1 hx;simp [sU] at hf;subst hf;exact .lst (xT r)
def zUj (a b:List Ba) (hA:a.length≤400) (hB:b.length≤400):HFun Tryz.prog 166 [.lst false (aR a),.lst false (aR b)] (fun h st=>h=.own 0∧st=[(0,.sl true 130 1 (tab a b))]):=by
 refine bP (N:=115) Tryz.func166 rfl Tryz.ntmps166 Tryz.results166 (by simp) ?_
 refine goA 5 ?_;push_cast(disch:=omega)[aJ,maxLen,zNb];refine goP [0,1,5] [96] ?_;refine goA 3 ?_;push_cast(disch:=omega)[aJ,maxLen,nF,qS0,qSz,qVc];refine goP [0,1,5] [96] ?_;refine goA 3 ?_;push_cast(disch:=omega)[aJ];refine goP [0,1,5,6] [96] ?_;refine goL (fun i:Int=>⟨[(0,.lst false (aR a)),(1,.lst false (aR b)),(5,.own 96),(6,.v (.int .i64 i))],[(96,.sl true 130 1 (uZ (i + 1).toNat (oC a b (i + 1).toNat)))]⟩)
  (fun i=>-1≤i∧i < a.length) (fun i=>(i + 1).toNat) [0,1,5,6] [96] ((a.length:Int) - 1) ?_ ⟨by omega,by omega⟩ ?_
 ·have e:((a.length:Int) - 1 + 1).toNat=a.length:=by omega
  simp only [zZ,zR,zP,zQ,zN,zS,zM,zX,zU,Nat.reduceEqDiff,reduceIte,e,qTp]
  have e2:pY a b a.length=List.replicate (b.length + 1) 0:=by
   apply bEy
   ·simp [pY]
   ·intro i h1 h2;simp only [pY,d9,bBr,bCv];rw [qSl _ _ _ _ (.inl (a7 _))];rfl
  rw [e2]
 rintro i ⟨hi1,hi2⟩;refine goA 3 ?_;push_cast;refine tR (fun hlt=>?_) (fun hge=>?_)
 ·have h0:0≤i:=by simpa using hlt
  obtain ⟨p,rfl⟩:=Int.eq_ofNat_of_zero_le h0
  have hp:p < a.length:=by omega
  have e:((p:Int) + 1).toNat=p + 1:=by omega
  simp only [e];rw [sZ a b (p + 1) (by omega)]
  refine goA 5 ?_;push_cast(disch:=omega)[aJ,maxLen,qVc];refine goP [0,1,5,6,7,8] [96,248] ?_
  have hRn:=qR a b (p + 1)
  generalize hN:pY a b (p + 1)=Rn at *
  have hget:∀ q (h:q < Rn.length),Rn[q]=((at2 a b (p + 1) q:Nat):Int):=fun q h=>by subst hN;exact qBv a b (p + 1) q h
  refine goL (fun x:Int × List Int=>⟨[(0,.lst false (aR a)),(1,.lst false (aR b)),(5,.own 96),(6,.v (.int .i64 (p:Nat))),(7,.own 248),(8,.v (.int .i64 x.1))],[(96,.sl true 130 1 (uZ (p + 1) (Rn :: oC a b (p + 1 + 1)))),(248,.sl true 3 1 (fN x.2))]⟩)
   (fun x=>-1≤x.1∧x.1 < b.length∧x.2.length=b.length + 1∧∀ q (h:q < x.2.length),x.1 < q→x.2[q]=((at2 a b p q:Nat):Int)) (fun x=>(x.1 + 1).toNat) [0,1,5,6,7,8] [96,248] ((b.length:Int) - 1,List.replicate (b.length + 1) 0) (by push_cast <;> rfl) ⟨by show -1≤(b.length:Int) - 1;omega,by show (b.length:Int) - 1 < b.length;omega,by simp,fun q h hq=>?_⟩ ?_
  ·simp only [z7] at h
   have:(b.length:Int) - 1 < q:=hq
   simp only [bCv];rw [qSl a b p q (.inr (by omega))];rfl
  rintro ⟨j,R⟩ ⟨hj1,hj2,hR,hv⟩;simp only at hj1 hj2 hR hv;refine goA 3 ?_;push_cast;refine tR (fun hlt2=>?_) (fun hge2=>?_)
  ·have hj0:0≤j:=by simpa using hlt2
   obtain ⟨k,rfl⟩:=Int.eq_ofNat_of_zero_le hj0
   have hk:k < b.length:=by omega
   have hx:R[k + 1]'(by omega)=((at2 a b p (k + 1):Nat):Int):=hv (k + 1) (by omega) (by omega)
   have hy:Rn[k]'(by omega)=((at2 a b (p + 1) k:Nat):Int):=hget k (by omega)
   have hz:Rn[k + 1]'(by omega)=((at2 a b (p + 1) (k + 1):Nat):Int):=hget (k + 1) (by omega)
   have hstep:=qW0 a b p k hp hk
   have b1:=zTi a b p (k + 1) hp
   have b2:=zMn a b (p + 1) k hk
   have b3:=qGx a b p (k + 1)
   have b4:=qGx a b (p + 1) k
   have b5:=qGx a b (p + 1) (k + 1)
   generalize hX:at2 a b p (k + 1)=X at *
   generalize hY:at2 a b (p + 1) k=Y at *
   generalize hZ:at2 a b (p + 1) (k + 1)=Z at *
   generalize hV:at2 a b p k=V at *
   have fin:∀ (v:Nat),v=V→∀ q (h:q < (R.set k (v:Int)).length),((k:Int) - 1) < q→(R.set k (v:Int))[q]=((at2 a b p q:Nat):Int):=fun v ev q h hq=>by
    rw [List.getElem_set];split
    ·rename_i e;subst e;rw [hV,ev]
    ·exact hv q (by simpa using h) (by omega)
   by_cases he:a[p]=b[k]
   ·rw [g8 he] at hstep
    have he':decide (a[p]=b[k])=true:=i7 he
    have hcs:(Y≤X∧X < Z + 1)∨(Y≤X∧X=Z + 1)∨(X < Y∧Y < Z + 1)∨(X < Y∧Y=Z + 1):=by omega
    rcases hcs with ⟨c1,c2⟩|⟨c1,c2⟩|⟨c1,c2⟩|⟨c1,c2⟩
    all_goals
     refine goA 3 ?_;push_cast(disch:=omega)[dJ,eX,eW,hx,qAt];refine goP [0,1,5,6,7,8] [96,248] ?_;refine HW_drw 13 mixed (by kernel_rfl) (fun K hK=>?_);push_cast(disch:=omega)[dJ,eX,eW,nF,nX,rD,hy,oJ,bAi]
     with_reducible refine aS ?_;push_cast
     refine hK _ ?_;clear hK K;refine goP [0,1,5,6,7,8,59] [96,248] ?_;refine goA 1 ?_;push_cast;refine goA 3 ?_;push_cast(disch:=omega)[dJ,eX,eW,nF,nX,rD,hy,qAt,oJ,bAi,List.set_set];refine HW_drw 26 mixed (by kernel_rfl) (fun K hK=>?_);push_cast(disch:=omega)[aJ,bK,dM,he',dJ,eX,eW,nF,nX,rD,hz,oJ,bAi]
     with_reducible refine aS ?_;push_cast
     refine hK _ ?_;clear hK K;refine goP [0,1,5,6,7,8,96] [96,248] ?_;refine goA 1 ?_;push_cast;refine goA 5 ?_;push_cast(disch:=omega)[dJ,eX,eW,nF,nX,rD,hz,qAt,oJ,bAi,List.set_set];refine ⟨((k:Int) - 1,_),rfl,⟨by show -1≤(k:Int) - 1;omega,by show (k:Int) - 1 < b.length;omega,by simp [hR],fun q h hq=>?_⟩,by show ((k:Int) - 1 + 1).toNat < ((k:Int) + 1).toNat;omega⟩
     first
     |exact fin X (by omega) q h hq
     |exact fin Y (by omega) q h hq
     |exact fin (Z + 1) (by omega) q h hq
   ·rw [b7 he] at hstep
    have he':decide (a[p]=b[k])=false:=b9 he
    have hcs:(Y≤X)∨(X < Y):=by omega
    rcases hcs with c1|c1
    all_goals
     refine goA 3 ?_;push_cast(disch:=omega)[dJ,eX,eW,hx,qAt];refine goP [0,1,5,6,7,8] [96,248] ?_;refine HW_drw 13 mixed (by kernel_rfl) (fun K hK=>?_);push_cast(disch:=omega)[dJ,eX,eW,nF,nX,rD,hy,oJ,bAi]
     with_reducible refine aS ?_;push_cast
     refine hK _ ?_;clear hK K;refine goP [0,1,5,6,7,8,59] [96,248] ?_;refine goA 1 ?_;push_cast;refine goA 3 ?_;push_cast(disch:=omega)[dJ,eX,eW,nF,nX,rD,hy,qAt,oJ,bAi,List.set_set];refine HW_drw 26 mixed (by kernel_rfl) (fun K hK=>?_);push_cast(disch:=omega)[aJ,bK,dM,he',dJ,eX,eW,nF,nX,rD,hz,oJ,bAi]
     with_reducible refine aS ?_;push_cast
     refine hK _ ?_;clear hK K;refine goP [0,1,5,6,7,8,96] [96,248] ?_;refine goA 3 ?_;push_cast(disch:=omega);refine ⟨((k:Int) - 1,_),rfl,⟨by show -1≤(k:Int) - 1;omega,by show (k:Int) - 1 < b.length;omega,by simp [hR],fun q h hq=>?_⟩,by show ((k:Int) - 1 + 1).toNat < ((k:Int) + 1).toNat;omega⟩
     first
     |exact fin X (by omega) q h hq
     |exact fin Y (by omega) q h hq
  ·have hjm:j=-1:=by
    have:¬ 0≤j:=by simpa using hge2
    omega
   subst hjm
   have hRp:R=pY a b p:=by
    apply bEy
    ·rw [hR,qR]
    ·intro q h1 h2;rw [hv q h1 (by omega),qBv]
   subst hRp;refine goA 3 ?_;push_cast(disch:=omega)[nF,qS0,qSz];refine goP [0,1,5,6] [96] ?_;refine goA 3 ?_;push_cast(disch:=omega);refine ⟨(p:Int) - 1,?_,⟨by omega,by omega⟩,by omega⟩
   have e3:((p:Int) - 1 + 1).toNat=p:=by omega
   simp only [zZ,zR,zP,zQ,zN,zS,zM,zX,zU,Nat.reduceEqDiff,reduceIte,e3,sZ a b p (by omega),sZ a b (p + 1) (by omega),hN]
 ·have him:i=-1:=by
   have:¬ 0≤i:=by simpa using hge
   omega
  subst him;refine goA 3 ?_;push_cast;refine iQ (by push_cast <;> rfl) ?_ ⟨rfl,?_⟩
  ·exact zF3 a b
  ·show [(0,Row.sl true 130 1 (uZ 0 (oC a b 0)))]=_
   rw [zF4]
def qAe (o:List Nat):List Int:=o.map fun (n:Nat)=>(n:Int)
def zDg (o:List Nat) (n:Nat):qAe o ++ [(n:Int)]=qAe (o ++ [n]):=by simp [qAe]
def qGw (o:List Nat):(qAe o).length=o.length:=by simp [qAe]
def zUn (a b:List Ba) (hA:a.length≤400) (hB:b.length≤400):HFun Tryz.prog 154 [.lst false (aR a),.lst false (aR b)] (fun h st=>h=.own 0∧st=[(0,.sl true 3 1 (fN (qAe (steps a b))))]):=by
 refine bP (N:=93) Tryz.func154 rfl Tryz.ntmps154 Tryz.results154 (by simp) ?_
 refine goA 9 ?_;push_cast;refine cUt 88 yG5 (zUj a b hA hB) (.cons (aD (aU _)) (.cons (aD (aU _)) .nil)) ?_;push_cast;refine goP [0,1,5,6,7,8] [88] ?_;refine goW 6 1 3 1 rfl ?_
 have hln:=mK _ a b (a7 _)
 refine goL (fun x:Nat × Nat × List Int=>⟨[(0,.lst false (aR a)),(1,.lst false (aR b)),(5,.own 88),(6,.own 1),(7,.v (.int .i64 x.1)),(8,.v (.int .i64 x.2.1))],[(1,.sl true 3 1 (fN x.2.2)),(88,.sl true 130 1 (tab a b))]⟩)
  (fun x=>x.1≤a.length∧x.2.1≤b.length∧∃ o,x.2.2=qAe o∧steps a b=o ++ steps (a.drop x.1) (b.drop x.2.1)) (fun x=>a.length - x.1 + (b.length - x.2.1)) [0,1,5,6,7,8] [1,88] (0,0,[]) (by push_cast <;> rfl) ⟨g7 _,g7 _,[],rfl,by simp⟩ ?_
 rintro ⟨i,j,out⟩ ⟨hi,hj,o,ho,hst⟩;simp only at hi hj ho hst
 have hol:out.length≤800:=by
  have:=congrArg List.length hst
  rw [i8] at this;rw [ho,qGw];omega
 have next:∀ (op:Nat) (i' j':Nat),steps (a.drop i) (b.drop j)=op :: steps (a.drop i') (b.drop j')→∃ o',out ++ [(op:Int)]=qAe o'∧steps a b=o' ++ steps (a.drop i') (b.drop j'):=fun op i' j' h =>
  ⟨o ++ [op],by rw [ho,zDg],by rw [hst,h];simp⟩
 by_cases hend:i=a.length∧j=b.length
 ·obtain ⟨rfl,rfl⟩:=hend;refine goA 5 ?_;push_cast(disch:=omega)[aJ];refine iQ rfl (xT _) ⟨rfl,?_⟩;rw [qFt _ _ _ _ (a7 _) (a7 _),x4] at hst;rw [hst,ho]
 ·have hin:i < a.length∨(a.length≤i∧j < b.length):=by omega
  rcases hin with hia|⟨hia,hjb⟩
  all_goals (refine goA 3 ?_;push_cast(disch:=omega)[aJ];refine goP [0,1,5,6,7,8] [1,88] ?_)
  ·by_cases hjb:j < b.length
   ·by_cases he:a[i]=b[j]
    ·have he':decide (a[i]=b[j])=true:=i7 he
     refine goA 1 ?_;push_cast;refine HW_drw 21 mixed (by kernel_rfl) (fun K hK=>?_);push_cast(disch:=omega)[aJ,bK,dM,he']
     with_reducible refine aS ?_;push_cast
     refine hK _ ?_;clear hK K;refine goP [0,1,5,6,7,8,42] [1,88] ?_;refine goA 3 ?_;push_cast(disch:=omega)[dJ,vU];refine goP [0,1,5,6,7,8] [1,88] ?_;refine goA 5 ?_;push_cast(disch:=omega);exact ⟨(i + 1,j + 1,out ++ [0]),rfl,⟨hia,hjb,next 0 _ _ (qDa a b i j hia hjb he)⟩,by show a.length - (i + 1) + (b.length - (j + 1)) < a.length - i + (b.length - j);omega⟩
    ·have he':decide (a[i]=b[j])=false:=b9 he
     refine goA 1 ?_;push_cast;refine HW_drw 21 mixed (by kernel_rfl) (fun K hK=>?_);push_cast(disch:=omega)[aJ,bK,dM,he']
     with_reducible refine aS ?_;push_cast
     refine hK _ ?_;clear hK K;refine goP [0,1,5,6,7,8,42] [1,88] ?_;refine goA 3 ?_;push_cast(disch:=omega)[aJ];refine goP [0,1,5,6,7,8] [1,88] ?_
     have hx:(pY a b (i + 1))[j]'(by rw [qR];omega)=((at2 a b (i + 1) j:Nat):Int):=qBv _ _ _ _ _
     have hy:(pY a b i)[j + 1]'(by rw [qR];omega)=((at2 a b i (j + 1):Nat):Int):=qBv _ _ _ _ _
     have l1:=qR a b (i + 1)
     have l2:=qR a b i
     by_cases hc:at2 a b (i + 1) j < at2 a b i (j + 1)
     ·refine HW_drw 23 mixed (by kernel_rfl) (fun K hK=>?_);push_cast(disch:=omega)[aJ,bK,qQh,qQi,qQg,dJ,eX,eW,hx,hy]
      with_reducible refine aS ?_;push_cast
      refine hK _ ?_;clear hK K;refine goP [0,1,5,6,7,8,81] [1,88] ?_;refine goA 5 ?_;push_cast(disch:=omega)[dJ,vU];exact ⟨(i,j + 1,out ++ [2]),rfl,⟨hi,hjb,next 2 _ _ (qQ a b i j hjb (.inr ⟨hia,he,hc⟩))⟩,by show a.length - i + (b.length - (j + 1)) < a.length - i + (b.length - j);omega⟩
     ·refine HW_drw 23 mixed (by kernel_rfl) (fun K hK=>?_);push_cast(disch:=omega)[aJ,bK,qQh,qQi,qQg,dJ,eX,eW,hx,hy]
      with_reducible refine aS ?_;push_cast
      refine hK _ ?_;clear hK K;refine goP [0,1,5,6,7,8,81] [1,88] ?_;refine goA 5 ?_;push_cast(disch:=omega)[dJ,vU];exact ⟨(i + 1,j,out ++ [1]),rfl,⟨hia,hj,next 1 _ _ (oA a b i j hia (.inr ⟨hjb,he,by omega⟩))⟩,by show a.length - (i + 1) + (b.length - j) < a.length - i + (b.length - j);omega⟩
   ·refine goA 1 ?_;push_cast;refine HW_drw 21 mixed (by kernel_rfl) (fun K hK=>?_);push_cast(disch:=omega)[aJ,bK,dM]
    with_reducible refine aS ?_;push_cast
    refine hK _ ?_;clear hK K;refine goP [0,1,5,6,7,8,42] [1,88] ?_;refine goA 7 ?_;push_cast(disch:=omega)[aJ,dJ,vU];exact ⟨(i + 1,j,out ++ [1]),rfl,⟨hia,hj,next 1 _ _ (oA a b i j hia (.inl (by omega)))⟩,by show a.length - (i + 1) + (b.length - j) < a.length - i + (b.length - j);omega⟩
  ·refine goA 1 ?_;push_cast;refine HW_drw 21 mixed (by kernel_rfl) (fun K hK=>?_);push_cast(disch:=omega)[aJ,bK,dM]
   with_reducible refine aS ?_;push_cast
   refine hK _ ?_;clear hK K;refine goP [0,1,5,6,7,8,42] [1,88] ?_;refine goA 3 ?_;push_cast(disch:=omega)[aJ];refine goP [0,1,5,6,7,8] [1,88] ?_;refine HW_drw 23 mixed (by kernel_rfl) (fun K hK=>?_);push_cast(disch:=omega)[aJ,bK,qQh,qQi,qQg,dJ,eX,eW]
   with_reducible refine aS ?_;push_cast
   refine hK _ ?_;clear hK K;refine goP [0,1,5,6,7,8,81] [1,88] ?_;refine goA 5 ?_;push_cast(disch:=omega)[dJ,vU];exact ⟨(i,j + 1,out ++ [2]),rfl,⟨hi,hjb,next 2 _ _ (qQ a b i j hjb (.inl hia))⟩,by show a.length - i + (b.length - (j + 1)) < a.length - i + (b.length - j);omega⟩
def zMf {s:List Nat} {i:Nat} {d:List FV} (h:i < s.length):(fN (qAe s)).getD i d=[.v (.int .i64 (s[i]:Nat))]:=by
 rw [eX (by rw [qGw];exact h)];simp [qAe]
def qPz (s:List Nat):(fN (qAe s)).length=s.length:=by rw [dJ,qGw]
def qN3 (a b : List Ba) : HFun Tryz.prog 134 [.lst false (aR a), .lst false (aR b)] (fun h st =>
    (400 < a.length∨400 < b.length)∧h=.tup [.v (.slice none 0 0),.v (.int .i64 4)]∧st=[] ∨
    a.length≤400∧b.length≤400∧h=.tup [.own 0,.v (.int .i64 0)]∧st=[(0,vD (qPh a b))]):=by
  refine bP (N:=54) Tryz.func134 rfl Tryz.ntmps134 Tryz.results134 (by simp) ?_
  refine zTt 0 rfl (fun h1=>?_)
  refine zTt 1 rfl (fun h2=>?_)
  rw [aJ] at h1 h2;refine goA 3 ?_;push_cast
  by_cases hlim:400 < a.length∨400 < b.length
  · have hcs:400 < a.length∨(a.length≤400∧400 < b.length):=by omega
    rcases hcs with c1|⟨c1,c2⟩
    all_goals
      refine goA 5 ?_;push_cast(disch:=omega)[aJ];exact lU (.inl ⟨hlim,rfl,rfl⟩)
  · have hA:a.length≤400:=by omega
    have hB:b.length≤400:=by omega
    refine goA 3 ?_;push_cast(disch:=omega)[aJ];refine goP [0,1,4,5] [] ?_;refine goA 9 ?_;push_cast;refine cUt 168 yG8 (zUn a b hA hB) (.cons (aD (aU _)) (.cons (aD (aU _)) .nil)) ?_;push_cast;refine goP [6,7,8,9,10] [168] ?_;refine goW 7 1 165 2 rfl ?_
    have hsl:(steps a b).length≤800:=by have:=mK _ a b (a7 _);omega
    rw [← zEu];generalize steps a b=s at *
    have hP:mS s 0 0=[] ++ mS (s.drop 0) 0 0:=rfl
    generalize mS s 0 0=P at *
    refine goL (fun x:Nat × Nat × Nat × List (Int × Int)=>⟨[(6,.own 168),(7,.own 1),(8,.v (.int .i64 x.2.1)),(9,.v (.int .i64 x.2.2.1)),(10,.v (.int .i64 x.1))],[(1,vD x.2.2.2),(168,.sl true 3 1 (fN (qAe s)))]⟩)
      (fun x=>x.1≤s.length∧x.2.1≤x.1∧x.2.2.1≤x.1∧x.2.2.2.length≤x.1∧P=x.2.2.2 ++ mS (s.drop x.1) x.2.1 x.2.2.1) (fun x=>s.length - x.1) [6,7,8,9,10] [1,168] (0,0,0,[]) (by push_cast <;> rfl) ⟨g7 _,a7 _,a7 _,a7 _,hP⟩ ?_
    clear hP;rintro ⟨k,i,j,o⟩ ⟨hk,hi,hj,ho,hP⟩;simp only at hk hi hj ho hP;refine goA 3 ?_;push_cast[qPz];refine tR (fun hlt=>?_) (fun hge=>?_)
    · have hks:k < s.length:=by simpa using hlt
      rw [l4 hks,mS] at hP
      have hcs:s[k]=0∨s[k]=1∨s[k]=2∨2 < s[k]:=by omega
      rcases hcs with c1|c1|c1|c1
      all_goals
        refine goA 15 ?_;push_cast(disch:=omega)[qPz,zMf,eW,oK,qLn]
      · exact ⟨(k + 1,i + 1,j + 1,o ++ [((i:Int),(j:Int))]),rfl,⟨hks,by show i + 1≤k + 1;omega,by show j + 1≤k + 1;omega,by simp;omega,by rw [hP,g8 c1,b7 (by omega),b7 (by omega),u6]⟩,by show s.length - (k + 1) < s.length - k;omega⟩
      · exact ⟨(k + 1,i + 1,j,o),rfl,⟨hks,by show i + 1≤k + 1;omega,by show j≤k + 1;omega,by show o.length≤k + 1;omega,by rw [hP,b7 (by omega),b7 (by omega),g8 c1,u4]⟩,by show s.length - (k + 1) < s.length - k;omega⟩
      · exact ⟨(k + 1,i,j + 1,o),rfl,⟨hks,by show i≤k + 1;omega,by show j + 1≤k + 1;omega,by show o.length≤k + 1;omega,by rw [hP,b7 (by omega),g8 c1,b7 (by omega),u4]⟩,by show s.length - (k + 1) < s.length - k;omega⟩
      · exact ⟨(k + 1,i + 1,j + 1,o),rfl,⟨hks,by show i + 1≤k + 1;omega,by show j + 1≤k + 1;omega,by show o.length≤k + 1;omega,by rw [hP,b7 (by omega),b7 (by omega),b7 (by omega),u4]⟩,by show s.length - (k + 1) < s.length - k;omega⟩
    · have hge' : k = s.length := by have : s.length ≤ k := by simpa using hge
                                     omega
      subst hge';refine goA 3 ?_;push_cast(disch:=omega);refine gX rfl (qHn _) (.inr ⟨hA,hB,rfl,?_⟩);rw [hP,u0 (a7 _),mS,x4]
def trE (t:Nat × Nat × Nat):List FV:=[.v (.int .i64 t.1),.v (.int .i64 t.2.1),.v (.int .i64 t.2.2)]
def iL (l:List (Nat × Nat × Nat)):List (List FV):=l.map trE
abbrev qTq (l:List (Nat × Nat × Nat)):Row:=.sl true 140 3 (iL l)
def qBm (l:List (Nat × Nat × Nat)):(iL l).length=l.length:=by simp [iL]
def qJ4 (l:List (Nat × Nat × Nat)) (t:Nat × Nat × Nat):iL l ++ [[.v (.int .i64 (t.1:Nat)),.v (.int .i64 (t.2.1:Nat)),.v (.int .i64 (t.2.2:Nat))]]=iL (l ++ [t]):=by simp [iL,trE]
def iB (l:List (Nat × Nat × Nat)):Wid 3 (iL l)=True:=bEe (qC l fun _=>rfl)
def qFr {l:List (Nat × Nat × Nat)} {i:Nat} {d:List FV} (h:i < l.length):(iL l).getD i d=[.v (.int .i64 (l[i].1:Nat)),.v (.int .i64 (l[i].2.1:Nat)),.v (.int .i64 (l[i].2.2:Nat))]:=by unfold iL;rw [fQ h];rfl
def qSv (l:List (Nat × Nat × Nat)):∀ x ∈ iL l,∀ f ∈ x,FreshF f:=fun x hx f hf=>by
 obtain ⟨t,-,rfl⟩:=m6.1 hx;simp only [trE,l3,bBf,bDu] at hf
 rcases hf with rfl|rfl|rfl <;> exact .v _
def qC8 (p:Nat × Nat) (y:List (Nat × Nat)):List (Nat × Nat × Nat):=(y.filter fun q=>p.1 == q.1).map fun q=>(p.1,p.2,q.2)
def zM7 {x y:List (Nat × Nat)} {i:Nat} (h:i < x.length):tri (x.take (i + 1)) y=tri (x.take i) y ++ qC8 x[i] y:=by
 rw [d7 h];simp only [tri,qC8,bAt,s9,bCs,x4]
def zFz {p:Nat × Nat} {y:List (Nat × Nat)} {j:Nat} (h:j < y.length):qC8 p (y.take (j + 1))=qC8 p (y.take j) ++ (if p.1=y[j].1 then [(p.1,p.2,y[j].2)] else []):=by
 rw [d7 h,qC8,bA7,d6]
 congr 1
 by_cases e:p.1=y[j].1
 ·simp [e]
 ·simp [e]
def qSx (p:Nat × Nat) (y:List (Nat × Nat)):(qC8 p y).length≤y.length:=by
 rw [qC8,c8];exact p7 ..
def zDy (x y:List (Nat × Nat)):(tri x y).length≤x.length * y.length:=by
 induction x with
|nil=>simp [tri]
|cons p r ih =>
  have h:=qSx p y
  have e:tri (p :: r) y=qC8 p y ++ tri r y:=by simp [tri,qC8]
  rw [e,i8,i6,x6,bAr];omega
def rtE (x y:List (Nat × Nat)) (l:List (Nat × Nat × Nat)) (i:Nat):HS:=⟨[(7,.lst true (mT (x.map rM))),(9,.lst true (mT (y.map rM))),(11,.own 9000),(12,.v (.int .i64 i))],[(9000,qTq l)]⟩
def rtF (x y:List (Nat × Nat)) (l:List (Nat × Nat × Nat)) (i j:Nat):HS:=⟨[(7,.lst true (mT (x.map rM))),(9,.lst true (mT (y.map rM))),(11,.own 9000),(12,.v (.int .i64 i)),(13,.v (.int .i64 j))],[(9000,qTq l)]⟩
def qTy (o a b:List Ba) (ho:o.length≤400) (ha:a.length≤400) (hb:b.length≤400):HFun Tryz.prog 98 [.lst false (aR o),.lst false (aR a),.lst false (aR b)] (fun h st =>
  h=.own 0∧st=[(0,qTq (tri (kn o a) (kn o b)))]):=by
 refine bP (N:=69) Tryz.func98 rfl Tryz.ntmps98 Tryz.results98 (by simp) ?_
 refine goA 5 ?_;push_cast;refine zMg 136 yAk (qN3 o a) (.cons (aD (aU _)) (.cons (aD (aU _)) .nil)) ?_;rintro _ _ (⟨hlim,rfl,rfl⟩|⟨-,-,rfl,rfl⟩)
 ·omega
 rw [qLm];push_cast;refine goP [0,2,7] [136] ?_;refine goR 136 rfl ?_;refine goA 3 ?_;push_cast;refine zMg 184 yAk (qN3 o b) (.cons (aD (aU _)) (.cons (aD (aU _)) .nil)) ?_;rintro _ _ (⟨hlim,rfl,rfl⟩|⟨-,-,rfl,rfl⟩)
 ·omega
 rw [qLm];push_cast;refine goP [7,9] [184] ?_;refine goR 184 rfl ?_
 have hX:(kn o a).length≤400:=by have:=(pJ o a).len;omega
 have hY:(kn o b).length≤400:=by have:=(pJ o b).len;omega
 generalize kn o a=x at *
 generalize kn o b=y at *
 refine goA 2 ?_;push_cast;refine goW 11 9000 140 3 rfl ?_;refine goA 3 ?_;push_cast
 have hxl:(mT (x.map rM)).length=x.length:=by rw [oK,c8]
 have hyl:(mT (y.map rM)).length=y.length:=by rw [oK,c8]
 refine goL (fun i=>rtE x y (tri (x.take i) y) i) (fun i=>i≤x.length) (fun i=>x.length - i) [7,9,11,12] [9000] 0 (by push_cast[rtE] <;> rfl) (g7 _) ?_
 intro i hi;simp only [rtE]
 by_cases hlt:i < x.length
 ·obtain ⟨p,q,hpq⟩:∃ p q,x[i]=(p,q):=⟨x[i].1,x[i].2,rfl⟩
  have gx:∀ d,(mT (x.map rM)).getD i d=[.v (.int .i64 (p:Nat)),.v (.int .i64 (q:Nat))]:=fun d=>by
   rw [qGg (by rw [c8];exact hlt),d9,hpq];rfl
  have hsucc:tri (x.take (i + 1)) y=tri (x.take i) y ++ qC8 (p,q) y:=by rw [zM7 hlt,hpq]
  have hB:(tri (x.take i) y).length≤400 * 400:=l5 (zDy _ _) (bDd (by rw [l7];omega) hY)
  generalize tri (x.take i) y=l at *
  refine goA 5 ?_;push_cast(disch:=omega)[hxl];refine goL (fun j=>rtF x y (l ++ qC8 (p,q) (y.take j)) i j) (fun j=>j≤y.length) (fun j=>y.length - j) [7,9,11,12,13] [9000] 0 (by push_cast[rtF,bDv,show qC8 (p,q) []=[] from rfl,x4];try rfl) (g7 _) ?_
  intro j hj;simp only [rtF]
  by_cases hjt:j < y.length
  ·obtain ⟨r,s,hrs⟩:∃ r s,y[j]=(r,s):=⟨y[j].1,y[j].2,rfl⟩
   have gy:∀ d,(mT (y.map rM)).getD j d=[.v (.int .i64 (r:Nat)),.v (.int .i64 (s:Nat))]:=fun d=>by
    rw [qGg (by rw [c8];exact hjt),d9,hrs];rfl
   have hnx:qC8 (p,q) (y.take (j + 1))=qC8 (p,q) (y.take j) ++ (if p=r then [(p,q,s)] else []):=by rw [zFz hjt,hrs]
   have hT:=qSx (p,q) (y.take j)
   rw [l7] at hT;generalize qC8 (p,q) (y.take j)=m at *
   refine goA 3 ?_;push_cast(disch:=omega)[hyl]
   by_cases e:p=r
   ·subst e;refine HW_drw 11 mixed (by kernel_rfl) (fun K hK=>?_);push_cast(disch:=omega)[hxl,hyl,gx,gy,qV]
    with_reducible refine aS ?_;push_cast[hxl,hyl,gx,gy,qV]
    refine hK _ ?_;clear hK K;refine goK 1 ?_;push_cast
    have hsn:iL (l ++ m) ++ [[.v (.int .i64 (p:Nat)),.v (.int .i64 (q:Nat)),.v (.int .i64 (s:Nat))]]=iL (l ++ m ++ [(p,q,s)]):=qJ4 (l ++ m) (p,q,s)
    have hw1:Wid 3 [[FV.v (.int .i64 (p:Nat)),FV.v (.int .i64 (q:Nat)),FV.v (.int .i64 (s:Nat))]]=True:=iB [(p,q,s)]
    have hln:(iL (l ++ m)).length=l.length + m.length:=by rw [qBm,i8]
    refine goP [7,9,11,12,13] [9000] ?_;refine fT 19 [(18,some 9000)] [[(9000,qTq (l ++ m))],[(9000,qTq (l ++ m ++ [(p,q,s)]))]] [(0,0,0)] mixed (by kernel_rfl) (by kernel_rfl) rfl (fun K hK K1 hK1=>?_);push_cast(disch:=omega)[hxl,hyl,gx,gy,qV,hsn,hln,hw1]
    refine hK1 _ ?_;(try clear hK1 K1);with_reducible refine aS ?_;push_cast
    refine hK _ ?_;clear hK K;refine goK 3 ?_;push_cast(disch:=omega);refine ⟨j + 1,by push_cast[rtF];rw [hnx,g8 rfl,u6];try rfl,hjt,by omega⟩
   ·refine HW_drw 11 mixed (by kernel_rfl) (fun K hK=>?_);push_cast(disch:=omega)[hxl,hyl,gx,gy,qV]
    with_reducible refine aS ?_;push_cast[hxl,hyl,gx,gy,qV]
    refine hK _ ?_;clear hK K;refine goK 3 ?_;push_cast(disch:=omega);refine ⟨j + 1,by push_cast[rtF];rw [hnx,b7 e,x4];try rfl,hjt,by omega⟩
  ·have hjy:y.take j=y:=m9 (by omega)
   rw [hjy];refine goA 5 ?_;push_cast(disch:=omega)[hyl];refine ⟨i + 1,by push_cast[rtE];rw [hsucc];try rfl,hlt,by omega⟩
 ·have hfin:x.take i=x:=m9 (by omega)
  rw [hfin];refine goA 5 ?_;push_cast(disch:=omega)[hxl];exact iQ rfl (qSv _) ⟨rfl,rfl⟩
def yAf (o a b:List Ba) (L:List (Nat × Nat × Nat)) (n i j k p q r:Nat) (out:List (Ck Ba)) (Q:dP) (ho:o.length≤400) (ha:a.length≤400) (hb:b.length≤400) (hn:n < L.length) (hL:L[n]=(p,q,r)) (hLl:L.length≤200000)
  (hi:i≤p∧p≤o.length) (hj:j≤q∧q≤a.length) (hk:k≤r∧r≤b.length) (ho2:out.length≤400000)
  (hQ:∀ S',S'.keep [10,11,12,13,14,18] [9000]=⟨[(10,.lst true (aR o)),(11,.lst true (aR a)),(12,.lst true (aR b)),(13,.lst true (iL L)),(14,.own 9000),(18,.v (.int .i64 n))],[(9000,.sl true 116 4 (cks (btO o a b i j k p q r out)))]⟩→Q .normal S') :
  HW Tryz.prog 189 (cAt [1,1,1,1,1,1,1,0,1,5,4,1,0,5,0] (Tryz.f74.body.getD .skip)) Q ⟨[(10,.lst true (aR o)),(11,.lst true (aR a)),(12,.lst true (aR b)),(13,.lst true (iL L)),(14,.own 9000),(15,.v (.int .i64 i)),(16,.v (.int .i64 j)),(17,.v (.int .i64 k)),(18,.v (.int .i64 n))],[(9000,.sl true 116 4 (cks out))]⟩:=by
 unfold Tryz.f74;dsimp only [Option.getD_some,cAt];change HW _ _ _ (kb Q 0) _;simp only [cAt]
 have hll:(iL L).length=L.length:=qBm L
 have gL:∀ d,(iL L).getD n d=[.v (.int .i64 (p:Nat)),.v (.int .i64 (q:Nat)),.v (.int .i64 (r:Nat))]:=fun d=>by rw [qFr hn,hL]
 have push:(i < p∨j < q∨k < r)→btO o a b i j k p q r out=out ++ [⟨false,(o.take p).drop i,(a.take q).drop j,(b.take r).drop k⟩]:=fun h=>by rw [btO,kM,g8 h]
 have stay:¬ (i < p∨j < q∨k < r)→btO o a b i j k p q r out=out:=fun h=>by rw [btO,kM,b7 h]
 have hw1:Wid 4 [[FV.v (.bool false),.lst true (aR ((o.take p).drop i)),.lst true (aR ((a.take q).drop j)),.lst true (aR ((b.take r).drop k))]]=True:=nP [⟨false,(o.take p).drop i,(a.take q).drop j,(b.take r).drop k⟩]
 have cs:(i < p)∨(¬ i < p∧j < q)∨(¬ i < p∧¬ j < q∧k < r)∨(¬ i < p∧¬ j < q∧¬ k < r):=by omega
 rcases cs with c1|⟨c1,c2⟩|⟨c1,c2,c3⟩|⟨c1,c2,c3⟩
 ·refine goA 3 ?_;push_cast(disch:=omega)[hll,gL,iB];refine goP [10,11,12,13,14,15,16,17,18] [9000] ?_;refine fT 28 [(27,some 9000)] [[(9000,.sl true 116 4 (cks out))],[(9000,.sl true 116 4 (cks (out ++ [⟨false,(o.take p).drop i,(a.take q).drop j,(b.take r).drop k⟩])))]] [(0,0,0)] mixed (by kernel_rfl) (by kernel_rfl) rfl (fun K hK K1 hK1=>?_);push_cast(disch:=omega)[hll,gL,iB,aJ,bK,mJ,nY,fF,wV,hw1]
  refine hK1 _ ?_;(try clear hK1 K1);with_reducible refine aS ?_;push_cast
  refine hK _ ?_;clear hK K;refine hQ _ ?_;rw [push (.inl c1)];push_cast
 ·refine goA 3 ?_;push_cast(disch:=omega)[hll,gL,iB];refine goP [10,11,12,13,14,15,16,17,18] [9000] ?_;refine fT 28 [(27,some 9000)] [[(9000,.sl true 116 4 (cks out))],[(9000,.sl true 116 4 (cks (out ++ [⟨false,(o.take p).drop i,(a.take q).drop j,(b.take r).drop k⟩])))]] [(0,0,0)] mixed (by kernel_rfl) (by kernel_rfl) rfl (fun K hK K1 hK1=>?_);push_cast(disch:=omega)[hll,gL,iB,aJ,bK,mJ,nY,fF,wV,hw1]
  refine hK1 _ ?_;(try clear hK1 K1);with_reducible refine aS ?_;push_cast
  refine hK _ ?_;clear hK K;refine hQ _ ?_;rw [push (.inr (.inl c2))];push_cast
 ·refine goA 3 ?_;push_cast(disch:=omega)[hll,gL,iB];refine goP [10,11,12,13,14,15,16,17,18] [9000] ?_;refine fT 28 [(27,some 9000)] [[(9000,.sl true 116 4 (cks out))],[(9000,.sl true 116 4 (cks (out ++ [⟨false,(o.take p).drop i,(a.take q).drop j,(b.take r).drop k⟩])))]] [(0,0,0)] mixed (by kernel_rfl) (by kernel_rfl) rfl (fun K hK K1 hK1=>?_);push_cast(disch:=omega)[hll,gL,iB,aJ,bK,mJ,nY,fF,wV,hw1]
  refine hK1 _ ?_;(try clear hK1 K1);with_reducible refine aS ?_;push_cast
  refine hK _ ?_;clear hK K;refine hQ _ ?_;rw [push (.inr (.inr c3))];push_cast
 ·refine goA 3 ?_;push_cast(disch:=omega)[hll,gL,iB];refine hQ _ ?_;rw [stay (by omega)]
  push_cast
def yFr (o a b:List Ba) (L:List (Nat × Nat × Nat)) (n p q r:Nat) (s:Ba) (out:List (Ck Ba)) (Q:dP) (ho:o.length≤400) (hp:p < o.length) (hs:o[p]=s) (ho2:out.length≤400000) (hok:∀ c ∈ out,(c.st=true→c.b=c.l∧c.b=c.r)∧c.b.length≤400)
  (hQ:∀ S',S'.keep [10,11,12,13,14,15,16,17,18] [9000]=⟨[(10,.lst true (aR o)),(11,.lst true (aR a)),(12,.lst true (aR b)),(13,.lst true (iL L)),(14,.own 9000),(15,.v (.int .i64 p)),(16,.v (.int .i64 q)),(17,.v (.int .i64 r)),(18,.v (.int .i64 n))],[(9000,.sl true 116 4 (cks (pS out s)))]⟩→Q .normal S') :
  HW Tryz.prog 189 (cAt [1,1,1,1,1,1,1,0,1,5,4,1,0,5,1,1,1,1,1,0] (Tryz.f74.body.getD .skip)) Q ⟨[(10,.lst true (aR o)),(11,.lst true (aR a)),(12,.lst true (aR b)),(13,.lst true (iL L)),(14,.own 9000),(15,.v (.int .i64 p)),(16,.v (.int .i64 q)),(17,.v (.int .i64 r)),(18,.v (.int .i64 n)),(19,.lst true (aR [s])),(20,.v (.int .i64 ((out.length:Int) - 1)))],[(9000,.sl true 116 4 (cks out))]⟩:=by
 unfold Tryz.f74;dsimp only [Option.getD_some,cAt];change HW _ _ _ (kb Q 0) _;simp only [cAt]
 have go:∀ d,(aR o).getD p d=[.v (.string s)]:=fun d=>by rw [dM hp,hs]
 have hw1:Wid 4 [[FV.v (.bool true),.lst true (aR [s]),.lst true (aR [s]),.lst true (aR [s])]]=True:=nP [⟨true,[s],[s],[s]⟩]
 have hw2:Wid 1 [[FV.v (.string s)]]=True:=bK [s]
 rcases qDv out s with ⟨pre,c,rfl,hc,e⟩|⟨hl,e⟩
 ·obtain ⟨hcc,hcl⟩:=hok c (by simp)
  obtain ⟨e1,e2⟩:=hcc hc
  have hli:((((pre ++ [c]).length:Nat):Int) - 1)=(pre.length:Int):=by simp
  rw [hli]
  have hlen:(cks (pre ++ [c])).length=pre.length + 1:=by rw [fF];simp
  have gc:∀ d,(cks (pre ++ [c])).getD pre.length d=[.v (.bool true),.lst true (aR c.b),.lst true (aR c.l),.lst true (aR c.r)]:=fun d=>by
   rw [cks,fQ (by simp)];simp [ckE,hc]
  have hset:(cks (pre ++ [c])).set pre.length [.v (.bool true),.lst true (aR (c.b ++ [s])),.lst true (aR (c.b ++ [s])),.lst true (aR (c.b ++ [s]))]=cks (pS (pre ++ [c]) s):=by
   rw [e,← e1,← e2];simp [cks,ckE]
  refine goA 3 ?_;push_cast(disch:=omega)[hlen,gc,nP];refine goP [10,11,12,13,14,15,16,17,18,20] [9000] ?_;refine fT 13 [(0,some 1240),(6,some 1240),(12,some 1240)] [[(9000,.sl true 116 4 (cks (pre ++ [c])))],[(1240,.sl true 9 1 []),(9000,.sl true 116 4 (cks (pre ++ [c])))],[(1240,.sl true 9 1 (aR c.b)),(9000,.sl true 116 4 (cks (pre ++ [c])))],[(1240,.sl true 9 1 (aR (c.b ++ [s]))),(9000,.sl true 116 4 (cks (pre ++ [c])))]] [(3,0,3),(4,0,3),(5,0,1)] mixed (by kernel_rfl) (by kernel_rfl) rfl (fun K hK K1 hK1=>?_);push_cast(disch:=omega)[hlen,gc,go,nP,aJ,bK,fY,zNd,hw2,u4]
  refine hK1 _ ?_;(try clear hK1 K1);with_reducible refine aS ?_;push_cast
  refine hK _ ?_;clear hK K;refine goP [10,11,12,13,14,15,16,17,18,19,20] [9000,1240] ?_;refine goR 1240 rfl ?_;refine goA 3 ?_;push_cast(disch:=omega)[hlen,gc,nP,hset];refine hQ _ ?_;push_cast
 ·rcases bBp out with rfl|⟨pre,c,rfl⟩
  ·have hli:(((([]:List (Ck Ba)).length:Nat):Int) - 1)=-1:=rfl
   rw [hli]
   have hsn:cks [] ++ [[.v (.bool true),.lst true (aR [s]),.lst true (aR [s]),.lst true (aR [s])]]=cks (pS [] s):=by rw [e,wV]
   refine goA 5 ?_;push_cast[fF,hw1,hsn];(repeat ((with_reducible refine bJa ?_ ?_);focus first|omega|decide))
   refine hQ _ ?_;push_cast
  ·rw [bBq] at *
   have hc:c.st=false:=hl c (by simp)
   have hli:((((pre ++ [c]).length:Nat):Int) - 1)=(pre.length:Int):=by simp
   rw [hli]
   have hlen:(cks (pre ++ [c])).length=pre.length + 1:=by rw [fF];simp
   have hll:pre.length + 1≤400000:=by simpa using ho2
   have gc:∀ d,(cks (pre ++ [c])).getD pre.length d=[.v (.bool false),.lst true (aR c.b),.lst true (aR c.l),.lst true (aR c.r)]:=fun d=>by
    rw [cks,fQ (by simp)];simp [ckE,hc]
   have hsn:cks (pre ++ [c]) ++ [[.v (.bool true),.lst true (aR [s]),.lst true (aR [s]),.lst true (aR [s])]]=cks (pS (pre ++ [c]) s):=by rw [e,wV]
   refine goA 5 ?_;push_cast(disch:=omega)[hlen,gc,nP,hw1,hsn];(repeat ((with_reducible refine bJa ?_ ?_);focus first|omega|decide))
   refine hQ _ ?_;push_cast
end Go.Proofs.Y
namespace Go.Proofs.Y
open Go Go.Eng Go.RowKit
structure RI where
 a:Nat
 i:Nat
 l:List Ba
def lrE (s:Ba) (k:RI):HS:=⟨[(0,.v (.string s)),(3,.own 9000),(4,.v (.int .i64 k.a)),(5,.v (.int .i64 k.i))],[(9000,.sl true 9 1 (aR k.l))]⟩
def lrI (s:Ba) (k:RI):Prop:=k.a≤k.i∧k.i≤s.size∧k.l.length≤k.a∧(k.i=s.size→k.a=k.i)∧(∀ j,k.a≤j→j < k.i→dK s j≠10)∧cG s=k.l ++ cG (s.extract k.a s.size)
def xH (s:Ba) (hs:s.size≤4294967296):HFun Tryz.prog 97 [.v (.string s)] (lsQ s):=by
 refine bP (N:=34) Tryz.func97 rfl Tryz.ntmps97 Tryz.results97 (by simp) ?_
 refine goA 4 ?_;push_cast;refine goW 3 9000 9 1 rfl ?_;refine goA 5 ?_;push_cast;refine goL (lrE s) (lrI s) (fun k=>s.size - k.i) [0,3,4,5] [9000] ⟨0,0,[]⟩ (by push_cast[lrE] <;> rfl) ⟨a7 _,g7 _,a7 _,fun _=>rfl,fun j _ h=>absurd h (y5 _),by rw [show (⟨0,0,[]⟩:RI).l=[] from rfl,show (⟨0,0,[]⟩:RI).a=0 from rfl,u4,← lZ (s.extract 0 s.size),lM,m9 (bCj (kE s)),bAf,lZ]⟩ ?_
 rintro ⟨a,i,l⟩ ⟨h1,h2,h3,h4,h5,h6⟩;dsimp only at h1 h2 h3 h4 h5 h6;simp only [lrE]
 by_cases hlt:i < s.size
 ·refine goA 3 ?_;push_cast(disch:=omega)
  by_cases hb:dK s i=10
  ·refine goA 9 ?_;push_cast(disch:=omega)[hb,aJ];(repeat ((with_reducible refine bJa ?_ ?_);focus first|omega|decide))
   refine ⟨⟨i + 1,i + 1,l ++ [s.extract a (i + 1)]⟩,by push_cast[lrE,fY] <;> rfl,⟨a7 _,hlt,by simp;omega,fun _=>rfl,fun j p q=>by dsimp only at p q;omega,?_⟩,by dsimp only;omega⟩
   rw [h6,zD6 s a i h1 hlt h5 (.inl hb)];simp
  ·by_cases hz:i + 1=s.size
   ·have e1:decide ((i:Int)=(s.size:Int) - 1)=true:=i7 (by omega)
    have e2:decide (dK s i=10)=false:=b9 hb
    refine goA 9 ?_;push_cast(disch:=omega)[e1,e2,aJ];(repeat ((with_reducible refine bJa ?_ ?_);focus first|omega|decide))
    refine ⟨⟨i + 1,i + 1,l ++ [s.extract a (i + 1)]⟩,by push_cast[lrE,fY] <;> rfl,⟨a7 _,hlt,by simp;omega,fun _=>rfl,fun j p q=>by dsimp only at p q;omega,?_⟩,by dsimp only;omega⟩
    rw [h6,zD6 s a i h1 hlt h5 (.inr hz)];simp
   ·have e1:decide ((i:Int)=(s.size:Int) - 1)=false:=b9 (by omega)
    have e2:decide (dK s i=10)=false:=b9 hb
    refine goA 5 ?_;push_cast(disch:=omega)[e1,e2];(repeat ((with_reducible refine bJa ?_ ?_);focus first|omega|decide))
    refine ⟨⟨a,i + 1,l⟩,by push_cast[lrE] <;> rfl,⟨by dsimp only;omega,hlt,h3,fun h=>absurd h hz,fun j p q=>?_,h6⟩,by dsimp only;omega⟩
    dsimp only at p q
    by_cases e:j=i
    ·subst e;exact hb
    ·exact h5 j p (by omega)
 ·have hi:i=s.size:=by omega
  have ha:=h4 hi
  refine goA 5 ?_;push_cast(disch:=omega)
  have e:cG s=l:=by
   rw [h6,ha,hi];unfold cG;rw [lM,u0 (by simp)];simp [spl]
  exact iQ rfl (fB _) ⟨rfl,by rw [e]⟩
def tyE (s:Ba) (i:Nat):HS:=⟨[(0,.v (.string s)),(3,.v (.int .i64 i))],[]⟩
def qN2 (s:Ba) (hs:s.size≤4294967296):HFun Tryz.prog 96 [.v (.string s)] (fun h st=>h=.v (.int .i64 (dT s))):=by
 have hc:=xH s hs
 have hle:=qS6 s
 refine bP (N:=18) Tryz.func96 rfl Tryz.ntmps96 Tryz.results96 (by simp) ?_
 refine goA 5 ?_;push_cast;refine goL (tyE s) (fun i=>i≤s.size∧∀ j,j < i→dK s j≠0) (fun i=>s.size - i) [0,3] [] 0 (by push_cast[tyE] <;> rfl) ⟨g7 _,fun j h=>absurd h (y5 _)⟩ ?_
 rintro i ⟨h1,h2⟩;simp only [tyE]
 by_cases hlt:i < s.size
 ·refine goA 3 ?_;push_cast(disch:=omega)
  by_cases hb:dK s i=0
  ·have e1:decide (dK s i=0)=true:=i7 hb
   refine goA 5 ?_;push_cast[e1];(repeat ((with_reducible refine bJa ?_ ?_);focus first|omega|decide))
   have e:dT s=21:=g8 ⟨i,hlt,hb⟩
   rw [e];exact aQ rfl
  ·have e1:decide (dK s i=0)=false:=b9 hb
   refine goA 5 ?_;push_cast(disch:=omega)[e1];(repeat ((with_reducible refine bJa ?_ ?_);focus first|omega|decide))
   refine ⟨i + 1,by push_cast[tyE] <;> rfl,⟨hlt,fun j hj=>?_⟩,by omega⟩
   by_cases e:j=i
   ·subst e;exact hb
   ·exact h2 j (by omega)
 ·have hno:¬ ∃ i,i < s.size∧dK s i=0:=fun ⟨j,a,b⟩=>h2 j (by omega) b
  have e:dT s=if 400 < (cG s).length then 4 else 0:=b7 hno
  refine goA 5 ?_;push_cast(disch:=omega);refine cUt 120 zY9 hc (.cons (.v _) .nil) ?_;push_cast[aJ]
  by_cases h4:400 < (cG s).length
  ·skip
   refine tR (fun ht=>?_) (fun hf=>by first|(simp at hf;done)|(simp at hf;omega))
   refine goA 3 ?_;push_cast(disch:=omega);rw [e,g8 h4];exact aQ rfl
  ·skip
   refine tR (fun ht=>by first|(simp at ht;done)|(simp at ht;omega)) (fun hf=>?_)
   refine goA 3 ?_;push_cast(disch:=omega);rw [e,b7 h4];exact aQ rfl
def tcE (l:List Ba) (i:Nat):HS:=⟨[(0,.lst false (aR l)),(3,.own 9000),(4,.v (.int .i64 i))],[(9000,.sl true 9 1 (aR ((dF l).take i)))]⟩
def qHg (l:List Ba) (hl:l.length≤4294967296) (hs:∀ x ∈ l,x.size≤4294967296):HFun Tryz.prog 77 [.lst false (aR l)] (fun h st=>h=.own 0∧st=[(0,.sl true 9 1 (aR (dF l)))]):=by
 have hcl:=mZ l
 refine bP (N:=41) Tryz.func77 rfl Tryz.ntmps77 Tryz.results77 (by simp) ?_
 refine goA 4 ?_;push_cast;refine goW 3 9000 9 1 rfl ?_;refine goA 3 ?_;push_cast;refine goL (tcE l) (fun i=>i≤l.length) (fun i=>l.length - i) [0,3,4] [9000] 0 (by push_cast[tcE] <;> rfl) (g7 _) ?_
 intro i h1;simp only [tcE]
 by_cases hlt:i < l.length
 ·have hg:=qWm l i hlt
  have hx:=hs _ (c7 hlt)
  have hlen:((dF l).take i).length=i:=by rw [l7];omega
  have htk:(dF l).take (i + 1)=(dF l).take i ++ [(dF l)[i]'(by omega)]:=d7 (by omega)
  rw [hg,qDt] at htk;obtain ⟨x,hxe⟩:∃ x,x=l[i]:=⟨_,rfl⟩
  have hget:(aR l).getD i []=[.v (.string x)]:=by rw [dM hlt,hxe]
  rw [← hxe] at htk hx;refine goA 5 ?_;push_cast(disch:=omega)[aJ,bK,hget];(repeat ((with_reducible refine bJa ?_ ?_);focus first|omega|decide))
  have hz:x.size + ({ data:=#[10] }:Ba).size≤9223372036854775807:=by show _ + 1≤_;omega
  by_cases hlast:i=l.length - 1
  ·rw [g8 hlast] at htk
   have e0:decide ((i:Int)=(l.length:Int) - 1)=true:=i7 (by omega)
   by_cases hx0:x.size=0
   ·have hend:kL x.data.toList=false:=by rw [o5 ((kE x).trans hx0)];rfl
    rw [hend,b7 (by simp)] at htk
    have e1:decide ((x.size:Int)=0)=true:=i7 (by omega)
    refine goA 9 ?_;push_cast(disch:=omega)[aJ,e0,e1,hz,hlen];(repeat ((with_reducible refine bJa ?_ ?_);focus first|omega|decide))
    refine ⟨i + 1,?_,hlt,by omega⟩
    simp only [zZ,zR,zP,zQ,zN,zS,zM,zX,zU,Nat.reduceEqDiff,reduceIte,tcE,htk,fY,nl];try rfl
   ·have hend:=zE7 x (by omega)
    have e1:decide ((x.size:Int)=0)=false:=b9 (by omega)
    have e2:((x.size:Int) - 1).toNat=x.size - 1:=by omega
    by_cases hb:dK x (x.size - 1)=10
    ·rw [i7 hb] at hend;rw [hend,g8 rfl] at htk;refine goA 7 ?_;push_cast(disch:=omega)[aJ,e0,e1,e2,hb,hlen];(repeat ((with_reducible refine bJa ?_ ?_);focus first|omega|decide))
     refine ⟨i + 1,?_,hlt,by omega⟩
     simp only [zZ,zR,zP,zQ,zN,zS,zM,zX,zU,Nat.reduceEqDiff,reduceIte,tcE,htk,fY,nl];try rfl
    ·have e3:decide (dK x (x.size - 1)=10)=false:=b9 hb
     rw [e3] at hend;rw [hend,b7 (by simp)] at htk
     refine goA 9 ?_;push_cast(disch:=omega)[aJ,e0,e1,e2,e3,hz,hlen];(repeat ((with_reducible refine bJa ?_ ?_);focus first|omega|decide))
     refine ⟨i + 1,?_,hlt,by omega⟩
     simp only [zZ,zR,zP,zQ,zN,zS,zM,zX,zU,Nat.reduceEqDiff,reduceIte,tcE,htk,fY,nl];try rfl
  ·rw [b7 hlast] at htk
   have e0:decide ((i:Int)=(l.length:Int) - 1)=false:=b9 (by omega)
   refine goA 7 ?_;push_cast(disch:=omega)[aJ,e0,hlen];(repeat ((with_reducible refine bJa ?_ ?_);focus first|omega|decide))
   refine ⟨i + 1,?_,hlt,by omega⟩
   simp only [zZ,zR,zP,zQ,zN,zS,zM,zX,zU,Nat.reduceEqDiff,reduceIte,tcE,htk,fY,nl];try rfl
 ·have hi:i=l.length:=by omega
  have e:(dF l).take i=dF l:=m9 (by omega)
  refine goA 5 ?_;push_cast(disch:=omega)[aJ];rw [e];exact iQ rfl (fB _) ⟨rfl,rfl⟩
def tjE (l:List Ba) (i:Nat):HS:=⟨[(0,.lst false (aR l)),(3,.v (.string (cat (l.take i)))),(4,.v (.int .i64 i))],[]⟩
def qS (l:List Ba) (hl:l.length≤4294967296) (hs:(cat l).size≤4294967296):HFun Tryz.prog 76 [.lst false (aR l)] (fun h st=>h=.v (.string (cat l))):=by
 refine bP (N:=18) Tryz.func76 rfl Tryz.ntmps76 Tryz.results76 (by simp) ?_
 refine goA 7 ?_;push_cast;refine goL (tjE l) (fun i=>i≤l.length) (fun i=>l.length - i) [0,3,4] [] 0 (by push_cast[tjE] <;> rfl) (g7 _) ?_
 intro i h1;simp only [tjE]
 by_cases hlt:i < l.length
 ·have htk:cat (l.take (i + 1))=cat (l.take i) ++ l[i]:=by rw [d7 hlt,lY,qJr]
  have hz:(cat (l.take i)).size + l[i].size≤9223372036854775807:=by
   have h2:cat l=cat (l.take (i + 1)) ++ cat (l.drop (i + 1)):=by rw [← lY,x5]
   have:=congrArg ByteArray.size h2
   rw [htk,n9,n9] at this;omega
  refine goA 7 ?_;push_cast(disch:=omega)[aJ,bK,dM hlt,hz];(repeat ((with_reducible refine bJa ?_ ?_);focus first|omega|decide))
  refine ⟨i + 1,?_,hlt,by omega⟩
  simp only [zZ,zR,zP,zQ,zN,zS,zM,zX,zU,Nat.reduceEqDiff,reduceIte,tjE,htk];try rfl
 ·have e:l.take i=l:=m9 (by omega)
  refine goA 5 ?_;push_cast(disch:=omega)[aJ];rw [e];exact aQ rfl
end Go.Proofs.Y
namespace Go.DiffM
section
variable {α:Type} {o a b:List α}
theorem zTd (cs:List (Ck α)) (s:α):(pS cs s).length≤cs.length + 1:=by
 rcases qDv cs s with ⟨pre,c,rfl,-,e⟩|⟨-,e⟩ <;> (rw [e];simp)
theorem qWy (u:Cu α) (i j k:Nat):(kM o a b u i j k).out.length≤u.out.length + 1:=by
 unfold kM;dsimp only;split <;> simp
theorem zPh (f:Ck α→List α) {cs:List (Ck α)} {c:Ck α} (h:c ∈ cs):(f c).length≤(cs.flatMap f).length:=by
 induction cs with
|nil=>simp at h
|cons d r ih =>
  rw [s9,i8]
  rcases l3.1 h with rfl|h
  ·omega
  ·have:=ih h;omega
variable [Inhabited α]
theorem qMf:∀ (l:List (Nat × Nat × Nat)) (p q r:Nat) (u:Cu α),chT o a b (l ++ [(p,q,r)]) u=qXx (o.getD p default) (kM o a b (chT o a b l u) p q r)
|[],_,_,_,_=>rfl
|(i,j,k) :: l,p,q,r,u=>by rw [u5,chT,chT,qMf l]
structure RI (o a b:List α) (T:List (Nat × Nat × Nat)) (n:Nat) (u:Cu α):Prop where
 pt:Pt o a b u
 hl:HL u
 tk:TK o a b (T.drop n) u.i u.j u.k
 len:u.out.length≤2 * n
theorem zNt {T:List (Nat × Nat × Nat)} (hT:TK o a b T 0 0 0):∀ n,n≤T.length→RI o a b T n (chT o a b (T.take n) ⟨0,0,0,[]⟩)
|0,_=>⟨⟨g7 _,g7 _,g7 _,rfl,rfl,rfl,fun c h=>by simp [chT] at h,fun n h=>by simp [chT] at h⟩,fun c h=>by simp [chT] at h,by simpa [chT] using hT,by simp [chT]⟩
|n + 1,h=>by
  obtain ⟨h1,h2,h3,h4⟩:=zNt hT n (by omega)
  obtain ⟨p,q,r,e⟩:∃ p q r,T[n]=(p,q,r):=⟨T[n].1,T[n].2.1,T[n].2.2,rfl⟩;rw [d7 (by omega),e,qMf]
  rw [l4 (by omega),e] at h3
  obtain ⟨k1,k2,k3,⟨k4,k5,k6,k7,k8⟩,k9⟩:=h3;generalize chT o a b (T.take n) ⟨0,0,0,[]⟩=u at *
  have hb:=qJt h1 h2 (i:=p) (j:=q) (k:=r) ⟨k1,by omega⟩ ⟨k2,by omega⟩ ⟨k3,by omega⟩
  have hs:o.getD p default=o[p]:=by simp [b6,k4]
  rw [hs];obtain ⟨s1,s2⟩:=zD3 (u:=kM o a b u p q r) hb k4 k5 k6 k7 k8;refine ⟨s1,s2,k9,?_⟩
  have a1:=zTd (kM o a b u p q r).out o[p]
  have a2:=qWy (o:=o) (a:=a) (b:=b) u p q r
  show (pS (kM o a b u p q r).out o[p]).length≤_
  omega
end
end Go.DiffM
namespace Go.Proofs.Y
open Go Go.Eng Go.RowKit Go.DiffM
def rfE (x y z:Ba) (i:Nat):HS:=⟨[(0,.v (.string x)),(1,.v (.string y)),(2,.v (.string z)),(8,.lst true (aR [x,y,z])),(9,.v (.int .i64 i))],[]⟩
def rcE (o a b:List Ba) (T L:List (Nat × Nat × Nat)) (n:Nat):HS:=⟨[(10,.lst true (aR o)),(11,.lst true (aR a)),(12,.lst true (aR b)),(13,.lst true (iL L)),(14,.own 9000),(15,.v (.int .i64 (chT o a b (T.take n) ⟨0,0,0,[]⟩).i)),(16,.v (.int .i64 (chT o a b (T.take n) ⟨0,0,0,[]⟩).j)),(17,.v (.int .i64 (chT o a b (T.take n) ⟨0,0,0,[]⟩).k)),(18,.v (.int .i64 n))],[(9000,.sl true 116 4 (cks (chT o a b (T.take n) ⟨0,0,0,[]⟩).out))]⟩
def qTz (x y z:Ba) (hx:x.size≤4294967296) (hy:y.size≤4294967296) (hz:z.size≤4294967296):HFun Tryz.prog 74 [.v (.string x),.v (.string y),.v (.string z)] (fun h st =>
  (kR x y z≠0∧h=.tup [.v (.slice none 0 0),.v (.int .i64 (kR x y z))]∧st=[]) ∨
  (dT x=0∧dT y=0∧dT z=0∧h=.tup [.own 0,.v (.int .i64 0)]∧st=[(0,.sl true 116 4 (cks (bG x y z)))])):=by
 refine bP (N:=189) Tryz.func74 rfl Tryz.ntmps74 Tryz.results74 (by simp) ?_
 refine goA 5 ?_;push_cast;refine goP [0,1,2,8] [192] ?_;refine goR 192 rfl ?_;refine goA 3 ?_;push_cast;refine goL (rfE x y z) (fun i=>i≤3∧(0 < i→dT x=0)∧(1 < i→dT y=0)∧(2 < i→dT z=0)) (fun i=>3 - i) [0,1,2,8,9] [] 0 (by push_cast[rfE] <;> rfl) ⟨by omega,by omega,by omega,by omega⟩ ?_
 rintro i ⟨hi,h0,h1,h2⟩;simp only [rfE]
 have hsl:(aR [x,y,z]).length=3:=rfl
 by_cases hlt:i < 3
 ·obtain ⟨s,hg,hss,hm,hn⟩:∃ s,(∀ d,(aR [x,y,z]).getD i d=[.v (.string s)])∧s.size≤4294967296∧(dT s≠0→kR x y z=dT s)∧(dT s=0→(0 < i + 1→dT x=0)∧(1 < i + 1→dT y=0)∧(2 < i + 1→dT z=0)):=by
   have hcs:i=0∨i=1∨i=2:=by omega
   rcases hcs with rfl|rfl|rfl
   ·exact ⟨x,fun d=>rfl,hx,fun h=>by rw [kR,g8 h],fun h=>⟨fun _=>h,by omega,by omega⟩⟩
   ·exact ⟨y,fun d=>rfl,hy,fun h=>by rw [kR,b7 (by rw [h0 (by omega)];simp),g8 h],fun h=>⟨fun _=>h0 (by omega),fun _=>h,by omega⟩⟩
   ·exact ⟨z,fun d=>rfl,hz,fun h=>by rw [kR,b7 (by rw [h0 (by omega)];simp),b7 (by rw [h1 (by omega)];simp)],fun h=>⟨fun _=>h0 (by omega),fun _=>h1 (by omega),fun _=>h⟩⟩
  refine goA 5 ?_;push_cast(disch:=omega)[hsl,hg,bK];refine cVt yGv (qN2 s hss) (.cons (.v _) .nil) ?_
  by_cases he:dT s=0
  ·push_cast[he];refine goA 3 ?_;push_cast(disch:=omega)[he];exact ⟨i + 1,by push_cast[rfE] <;> rfl,⟨by omega,hn he⟩,by omega⟩
  ·push_cast(disch:=omega)[hsl,hg,bK];refine goA 3 ?_;push_cast(disch:=omega)[hsl,hg,bK];refine cVt yGv (qN2 s hss) (.cons (.v _) .nil) ?_;push_cast;exact lU (.inl ⟨by rw [hm he];exact he,by rw [hm he],rfl⟩)
 ·obtain rfl:i=3:=by omega
  refine goA 3 ?_;push_cast
  have t0:=h0 (by omega)
  have t1:=h1 (by omega)
  have t2:=h2 (by omega)
  have l0:=dW t0
  have l1:=dW t1
  have l2:=dW t2
  refine goP [0,1,2] [] ?_;refine goA 3 ?_;push_cast;refine cUt 328 zY9 (xH x hx) (.cons (.v _) .nil) ?_;push_cast;refine cUt 344 zY9 (xH y hy) (.cons (.v _) .nil) ?_;push_cast;refine cUt 360 zY9 (xH z hz) (.cons (.v _) .nil) ?_;push_cast;refine goP [10,11,12] [328,344,360] ?_;refine goR 328 rfl ?_;refine goR 344 rfl ?_;refine goR 360 rfl ?_
  have hch:bG x y z=lD (cG x) (cG y) (cG z):=rfl
  rw [hch];clear hch h0 h1 h2 hx hy hz;generalize hO:cG x=o at *
  generalize hA:cG y=a at *
  generalize hB:cG z=b at *
  refine goA 3 ?_;push_cast;refine cUt 392 yKg (qTy o a b l0 l1 l2) (.cons (aD (aU _)) (.cons (aD (aU _)) (.cons (aD (aU _)) .nil))) ?_
  have hTK:TK o a b (tri (kn o a) (kn o b)) 0 0 0:=qJ5 _ (kn o a) (kn o b) 0 0 0 (a7 _) (pJ o a) (pJ o b)
  have hTl:(tri (kn o a) (kn o b)).length≤160000:=by
   have h1:=(pJ o a).len
   have h2:=(pJ o b).len
   exact l5 (zDy _ _) (l5 (bDd (show (kn o a).length≤400 by omega) (show (kn o b).length≤400 by omega)) (by decide))
  have hfinal:lD o a b=(kM o a b (chT o a b (tri (kn o a) (kn o b)) ⟨0,0,0,[]⟩) o.length a.length b.length).out:=rfl
  generalize tri (kn o a) (kn o b)=T at *
  have htl:(iL T).length=T.length:=qBm T
  have hsn:iL T ++ [[.v (.int .i64 (o.length:Nat)),.v (.int .i64 (a.length:Nat)),.v (.int .i64 (b.length:Nat))]]=iL (T ++ [(o.length,a.length,b.length)]):=qJ4 T (o.length,a.length,b.length)
  have hw3:Wid 3 [[FV.v (.int .i64 (o.length:Nat)),FV.v (.int .i64 (a.length:Nat)),FV.v (.int .i64 (b.length:Nat))]]=True:=iB [(o.length,a.length,b.length)]
  push_cast(disch:=omega)[aJ,htl,hsn,hw3];(repeat ((with_reducible refine bJa ?_ ?_);focus first|omega|decide))
  refine goP [10,11,12,13] [392] ?_;refine goR 392 rfl ?_;refine goA 2 ?_;push_cast;refine goW 14 9000 116 4 rfl ?_;refine goA 5 ?_;push_cast;obtain ⟨L,hLd⟩:∃ L,L=T ++ [(o.length,a.length,b.length)]:=⟨_,rfl⟩;rw [← hLd]
  have hLlen:L.length=T.length + 1:=by rw [hLd];simp
  have hLlt:∀ n (h:n < T.length) (h':n < L.length),L[n]=T[n]:=fun n h h'=>by subst hLd;exact bAd h
  have hLe:∀ (h:T.length < L.length),L[T.length]=(o.length,a.length,b.length):=fun h=>by subst hLd;simp
  clear hLd hsn
  have hll:(iL L).length=T.length + 1:=by rw [qBm,hLlen]
  refine goL (rcE o a b T L) (fun n=>n≤T.length) (fun n=>T.length - n) [10,11,12,13,14,15,16,17,18] [9000] 0 (by push_cast[rcE,bDv,chT] <;> rfl) (g7 _) ?_
  intro n hn
  have R:=zNt hTK n hn
  simp only [rcE]
  by_cases hnt:n < T.length
  ·obtain ⟨p,q,r,e⟩:∃ p q r,T[n]=(p,q,r):=⟨T[n].1,T[n].2.1,T[n].2.2,rfl⟩
   have hLn:L[n]'(by omega)=(p,q,r):=by rw [hLlt n hnt (by omega),e]
   have gL:∀ d,(iL L).getD n d=[.v (.int .i64 (p:Nat)),.v (.int .i64 (q:Nat)),.v (.int .i64 (r:Nat))]:=fun d=>by rw [qFr (by omega),hLn]
   have hnx:chT o a b (T.take (n + 1)) ⟨0,0,0,[]⟩=qXx (o.getD p default) (kM o a b (chT o a b (T.take n) ⟨0,0,0,[]⟩) p q r):=by
    rw [d7 hnt,e,qMf]
   obtain ⟨R1,R2,R3,R4⟩:=R;rw [l4 hnt,e] at R3;obtain ⟨k1,k2,k3,⟨k4,k5,k6,k7,k8⟩,k9⟩:=R3;generalize chT o a b (T.take n) ⟨0,0,0,[]⟩=u at *
   obtain ⟨ui,uj,uk,out⟩:=u;simp only at k1 k2 k3 R4
   have hs:o.getD p default=o[p]:=by simp [b6,k4]
   rw [hs] at hnx
   have hbp:=qJt R1 R2 (i:=p) (j:=q) (k:=r) ⟨k1,by omega⟩ ⟨k2,by omega⟩ ⟨k3,by omega⟩
   have hbl:=qWy (o:=o) (a:=a) (b:=b) ⟨ui,uj,uk,out⟩ p q r
   simp only at hbl
   have go:∀ d,(aR o).getD p d=[.v (.string o[p])]:=fun d=>dM k4
   refine goA 2 ?_;push_cast(disch:=omega)[hll]
   (repeat refine goQ ?_);refine yD rfl ?_;(repeat first|refine goQ ?_|refine zC ?_)
   refine goP [10,11,12,13,14,15,16,17,18] [9000] ?_;refine goB ?_;refine goQ ?_;refine yAf o a b L n ui uj uk p q r out _ l0 l1 l2 (by omega) hLn (by omega) ⟨k1,by omega⟩ ⟨k2,by omega⟩ ⟨k3,by omega⟩ (by omega) (fun S' hE=>?_)
   refine goA 1 ?_;push_cast;refine yB [10,11,12,13,14,18] [9000] hE ?_;clear hE S'
   have hok:∀ c ∈ btO o a b ui uj uk p q r out,(c.st=true→c.b=c.l∧c.b=c.r)∧c.b.length≤400:=fun c hc=>⟨(hbp.ok c hc).2,by
    have h1:=zPh (·.b) hc
    have h2:((btO o a b ui uj uk p q r out).flatMap (·.b)).length=_:=congrArg List.length hbp.pb
    rw [l7] at h2;omega⟩
   have hb2:(btO o a b ui uj uk p q r out).length≤2 * n + 1:=by show (kM o a b ⟨ui,uj,uk,out⟩ p q r).out.length≤_;omega
   have hnx2:chT o a b (T.take (n + 1)) ⟨0,0,0,[]⟩=⟨p + 1,q + 1,r + 1,pS (btO o a b ui uj uk p q r out) o[p]⟩:=hnx
   clear hnx hbp;generalize btO o a b ui uj uk p q r out=out2 at *
   refine goA 1 ?_;push_cast;refine fT 18 [] [[(9000,.sl true 116 4 (cks out2))]] [(0,0,0),(1,0,0),(2,0,0),(3,0,0),(4,0,0),(5,0,0),(6,0,0),(7,0,0),(8,0,0),(9,0,0),(10,0,0),(11,0,0),(12,0,0),(13,0,0),(14,0,0),(15,0,0),(16,0,0),(17,0,0)] mixed (by kernel_rfl) (by kernel_rfl) rfl (fun K hK K1 hK1=>?_);push_cast(disch:=omega)[bBn,a7,hll,gL,iB]
   refine hK1 _ ?_;(try clear hK1 K1);with_reducible refine aS ?_;push_cast
   refine hK _ ?_;clear hK K;refine goP [10,11,12,13,14,15,16,17,18] [9000] ?_;refine goA 5 ?_;push_cast(disch:=omega)[hll,aJ,bK,go];refine goP [10,11,12,13,14,15,16,17,18,19] [1136,9000] ?_;refine goR 1136 rfl ?_;refine goA 2 ?_;push_cast(disch:=omega)[fF];refine goP [10,11,12,13,14,15,16,17,18,19,20] [9000] ?_;refine goQ ?_;refine yFr o a b L n p q r o[p] out2 _ l0 k4 rfl (by omega) hok (fun S' hE=>?_)
   refine yB [10,11,12,13,14,15,16,17,18] [9000] hE ?_;clear hE S';refine goA 9 ?_;push_cast(disch:=omega);exact ⟨n + 1,by push_cast[rcE];rw [hnx2];try rfl,hnt,by omega⟩
  ·obtain rfl:n=T.length:=by omega
   rw [t6] at R ⊢
   have gL:∀ d,(iL L).getD T.length d=[.v (.int .i64 (o.length:Nat)),.v (.int .i64 (a.length:Nat)),.v (.int .i64 (b.length:Nat))]:=fun d=>by rw [qFr (by omega),hLe (by omega)]
   obtain ⟨R1,R2,R3,R4⟩:=R;generalize chT o a b T ⟨0,0,0,[]⟩=u at *
   obtain ⟨ui,uj,uk,out⟩:=u
   have k1:=R1.i
   have k2:=R1.j
   have k3:=R1.k
   simp only at k1 k2 k3 R4;refine goA 2 ?_;push_cast(disch:=omega)[hll]
   (repeat refine goQ ?_);refine yD rfl ?_;(repeat first|refine goQ ?_|refine zC ?_)
   refine goP [10,11,12,13,14,15,16,17,18] [9000] ?_;refine goB ?_;refine goQ ?_;refine yAf o a b L T.length ui uj uk o.length a.length b.length out _ l0 l1 l2 (by omega) (hLe (by omega)) (by omega) ⟨k1,by omega⟩ ⟨k2,by omega⟩ ⟨k3,by omega⟩ (by omega) (fun S' hE=>?_)
   refine goA 1 ?_;push_cast;refine yB [10,11,12,13,14,18] [9000] hE ?_;clear hE S';rw [show btO o a b ui uj uk o.length a.length b.length out=lD o a b from hfinal.symm]
   refine goA 1 ?_;push_cast;refine fT 18 [] [[(9000,.sl true 116 4 (cks (lD o a b)))]] [(0,0,0),(1,0,0),(2,0,0),(3,0,0),(4,0,0),(5,0,0),(6,0,0),(7,0,0),(8,0,0),(9,0,0),(10,0,0),(11,0,0),(12,0,0),(13,0,0),(14,0,0),(15,0,0),(16,0,0),(17,0,0)] mixed (by kernel_rfl) (by kernel_rfl) rfl (fun K hK K1 hK1=>?_);push_cast(disch:=omega)[bBn,a7,hll,gL,iB]
   refine hK1 _ ?_;(try clear hK1 K1);with_reducible refine aS ?_;push_cast
   refine hK _ ?_;clear hK K;refine goP [10,11,12,13,14,15,16,17,18] [9000] ?_;refine goA 3 ?_;push_cast(disch:=omega)[hll];refine goP [14] [9000] ?_;refine goA 3 ?_;push_cast;exact gX rfl (qCk _) (.inr ⟨t0,t1,t2,rfl,rfl⟩)
def zF2 {α:Type} {a b:List α} {i:Nat} (h:a.take i=b.take i) (h1:a.length≤i) (h2:b.length≤i):a=b:=by
 rw [m9 h1,m9 h2] at h;exact h
def qXm {α:Type} {a b:List α} {i:Nat} (h:a.take i=b.take i) (h1:i < a.length) (h2:i < b.length) (he:a[i]=b[i]):a.take (i + 1)=b.take (i + 1):=by
 rw [d7 h1,d7 h2,h,he]
def qFw (a b:List Ba):HFun Tryz.prog 75 [.lst false (aR a),.lst false (aR b)] (fun h st=>h=.v (.bool (decide (a=b)))):=by
 refine bP (N:=26) Tryz.func75 rfl Tryz.ntmps75 Tryz.results75 (by simp) ?_
 refine zTt 0 rfl (fun hA=>?_)
 rw [aJ] at hA;refine goA 3 ?_;push_cast
 by_cases hl:a.length=b.length
 ·refine goA 5 ?_;push_cast(disch:=omega)[aJ];refine goL (fun i:Nat=>⟨[(0,.lst false (aR a)),(1,.lst false (aR b)),(5,.v (.int .i64 i))],[]⟩) (fun i=>i≤a.length∧a.take i=b.take i) (fun i=>a.length - i) [0,1,5] [] 0 rfl ⟨g7 _,rfl⟩ ?_
  rintro i ⟨hi,hp⟩;refine goA 3 ?_;push_cast[aJ];refine tR (fun hlt=>?_) (fun hge=>?_)
  ·have hia:i < a.length:=by simpa using hlt
   have hib:i < b.length:=by omega
   by_cases he:a[i]=b[i]
   ·have he':decide (a[i]=b[i])=true:=i7 he
    refine HW_drw 9 mixed (by kernel_rfl) (fun K hK=>?_);push_cast(disch:=omega)[aJ,bK,dM,he']
    with_reducible refine aS ?_;push_cast
    refine hK _ ?_;clear hK K;refine goK 3 ?_;push_cast(disch:=omega);exact ⟨i + 1,rfl,⟨hia,qXm hp hia hib he⟩,by omega⟩
   ·have he':decide (a[i]=b[i])=false:=b9 he
    refine HW_drw 9 mixed (by kernel_rfl) (fun K hK=>?_);push_cast(disch:=omega)[aJ,bK,dM,he']
    with_reducible refine aS ?_;push_cast
    refine hK _ ?_;clear hK K;refine goK 3 ?_;push_cast;refine aQ ?_;rw [b9 (fun e=>he (by subst e;rfl))]
  ·have hge':a.length≤i:=by simpa using hge
   refine goA 3 ?_;push_cast(disch:=omega);refine aQ ?_;rw [i7 (zF2 hp hge' (by omega))]
 ·refine goA 5 ?_;push_cast(disch:=omega)[aJ];refine aQ ?_;rw [b9 (fun e=>hl (by rw [e]))]
def mrS (cs:List (Ck Ba)) (n:Nat):HS:=⟨[(9,.own 152),(11,.v (.string (mgT (cs.take n)))),(12,.v (.int .i64 (mgN (cs.take n)))),(13,.v (.int .i64 n))],[(152,.sl true 116 4 (cks cs))]⟩
def qDf (x y z:Ba) (hx:x.size≤1073741824) (hy:y.size≤1073741824) (hz:z.size≤1073741824):HFun Tryz.prog 55 [.v (.string x),.v (.string y),.v (.string z)] (fun h st =>
  h=.tup [.v (.string (qEj x y z)),.v (.int .i64 (qEk x y z)),.v (.int .i64 (kR x y z))]):=by
 refine bP (N:=84) Tryz.func55 rfl Tryz.ntmps55 Tryz.results55 (by simp) ?_
 refine goA 5 ?_;push_cast;refine zMg 152 yKm (qTz x y z (by omega) (by omega) (by omega)) (.cons (.v _) (.cons (.v _) (.cons (.v _) .nil))) ?_
 rintro _ _ (⟨he,rfl,rfl⟩|⟨t0,t1,t2,rfl,rfl⟩)
 ·have e1:qEj x y z={ data:=#[] }:=by rw [qEj,g8 he]
  have e2:qEk x y z=0:=by rw [qEk,g8 he]
  push_cast;refine goA 5 ?_;push_cast(disch:=omega);exact eY (by rw [e1,e2];rfl)
 ·have hE:=qUw t0 t1 t2
  have e1:qEj x y z=mgT (bG x y z):=by rw [qEj,b7 (by simpa using hE)]
  have e2:qEk x y z=mgN (bG x y z):=by rw [qEk,b7 (by simpa using hE)]
  have hlen:=qMd t0 t1 t2
  have hsz:∀ n,(mgT ((bG x y z).take n)).size≤y.size + z.size + 31200:=fun n=>by
   have h1:=qUv ((bG x y z).take n)
   have h2:(cat (((bG x y z).take n).flatMap (·.l))).size≤y.size:=by
    have:cat ((bG x y z).flatMap (·.l))=y:=by rw [show (bG x y z).flatMap (·.l)=cG y from qA5 (cG x) (cG y) (cG z),pR]
    rw [← x5 n (bG x y z),bAt,lY] at this;rw [← congrArg ByteArray.size this,n9];omega
   have h3:(cat (((bG x y z).take n).flatMap (·.r))).size≤z.size:=by
    have:cat ((bG x y z).flatMap (·.r))=z:=by rw [show (bG x y z).flatMap (·.r)=cG z from qA4 (cG x) (cG y) (cG z),pR]
    rw [← x5 n (bG x y z),bAt,lY] at this;rw [← congrArg ByteArray.size this,n9];omega
   have h4:((bG x y z).take n).length≤1200:=by rw [l7];omega
   omega
  have hll:∀ c ∈ bG x y z,c.b.length≤400∧c.l.length≤400∧c.r.length≤400∧(cat c.l).size≤y.size∧(cat c.r).size≤z.size:=fun c hc=>by
   have p1:=vP (·.b) hc
   have p2:=vP (·.l) hc
   have p3:=vP (·.r) hc
   rw [show (bG x y z).flatMap (·.b)=cG x from qMe (cG x) (cG y) (cG z)] at p1
   rw [show (bG x y z).flatMap (·.l)=cG y from qA5 (cG x) (cG y) (cG z),pR] at p2
   rw [show (bG x y z).flatMap (·.r)=cG z from qA4 (cG x) (cG y) (cG z),pR] at p3
   have:=dW t0;have:=dW t1;have:=dW t2
   exact ⟨by omega,by omega,by omega,p2.2.1,p3.2.1⟩
  have hfin:qEj x y z=mgT ((bG x y z).take (bG x y z).length)∧qEk x y z=mgN ((bG x y z).take (bG x y z).length):=by rw [t6];exact ⟨e1,e2⟩
  clear e1 e2;generalize bG x y z=cs at *
  push_cast;refine goA 7 ?_;push_cast;refine goL (mrS cs) (fun n=>n≤cs.length) (fun n=>cs.length - n) [9,11,12,13] [152] 0 (by push_cast[mrS] <;> rfl) (g7 _) ?_
  intro n hn;simp only [mrS]
  by_cases hlt:n < cs.length
  ·obtain ⟨c,hc⟩:∃ c,cs[n]=c:=⟨_,rfl⟩
   have hcm:c ∈ cs:=hc ▸ c7 hlt
   obtain ⟨b1,b2,b3,b4,b5⟩:=hll c hcm
   have hs1:=hsz n
   have hs2:=hsz (n + 1)
   have hnn:=zP5 (cs.take n)
   rw [l7] at hnn
   have ht:cs.take (n + 1)=cs.take n ++ [c]:=by rw [d7 hlt,hc]
   rw [ht,iW,n9] at hs2
   have hT:=qMc c
   have hg:∀ d,(cks cs).getD n d=[.v (.bool c.st),.lst true (aR c.b),.lst true (aR c.l),.lst true (aR c.r)]:=fun d=>by rw [qSg hlt,hc];rfl
   generalize hTT:mgT (cs.take n)=T at *
   generalize hNN:mgN (cs.take n)=M at *
   refine goA 3 ?_;push_cast(disch:=omega)[fF]
   cases hst:c.st with
  |true =>
    have hL:lW c:=.inl hst
    have eT:ckT c=cat c.l:=by rw [ckT,g8 hL]
    have eN:ckN c=0:=by rw [ckN,g8 hL]
    refine goA 3 ?_;push_cast(disch:=omega)[fF,nP,hg,hst];refine goP [9,11,12,13,14] [112,152] ?_;refine goA 7 ?_;push_cast;refine cVt zL8 (qS c.l (by omega) (by omega)) (.cons (aD (aU _)) .nil) ?_
    push_cast(disch:=omega);(repeat ((with_reducible refine bJa ?_ ?_);focus first|omega|decide))
    refine ⟨n + 1,by push_cast[mrS];rw [ht,iW,lJ,hTT,hNN,eT,eN];try rfl,hlt,by omega⟩
  |false =>
    refine goA 3 ?_;push_cast(disch:=omega)[fF,nP,hg,hst];refine goP [9,11,12,13,14] [112,152] ?_
    by_cases hlr:c.l=c.r
    ·have hL:lW c:=.inr (.inl hlr)
     have eT:ckT c=cat c.l:=by rw [ckT,g8 hL]
     have eN:ckN c=0:=by rw [ckN,g8 hL]
     have S1:=qFw c.l c.r
     rw [i7 hlr] at S1;refine goA 7 ?_;push_cast;refine cVt zDd S1 (.cons (aD (aU _)) (.cons (aD (aU _)) .nil)) ?_;push_cast;refine cVt zL8 (qS c.l (by omega) (by omega)) (.cons (aD (aU _)) .nil) ?_
     push_cast(disch:=omega);(repeat ((with_reducible refine bJa ?_ ?_);focus first|omega|decide))
     refine ⟨n + 1,by push_cast[mrS];rw [ht,iW,lJ,hTT,hNN,eT,eN];try rfl,hlt,by omega⟩
    ·have S1:=qFw c.l c.r
     rw [b9 hlr] at S1
     by_cases hbr:c.b=c.r
     ·have hL:lW c:=.inr (.inr hbr)
      have eT:ckT c=cat c.l:=by rw [ckT,g8 hL]
      have eN:ckN c=0:=by rw [ckN,g8 hL]
      have S2:=qFw c.r c.b
      rw [i7 hbr.symm] at S2;refine goA 7 ?_;push_cast;refine cVt zDd S1 (.cons (aD (aU _)) (.cons (aD (aU _)) .nil)) ?_;push_cast;refine cVt zDd S2 (.cons (aD (aU _)) (.cons (aD (aU _)) .nil)) ?_;push_cast;refine cVt zL8 (qS c.l (by omega) (by omega)) (.cons (aD (aU _)) .nil) ?_
      push_cast(disch:=omega);(repeat ((with_reducible refine bJa ?_ ?_);focus first|omega|decide))
      refine ⟨n + 1,by push_cast[mrS];rw [ht,iW,lJ,hTT,hNN,eT,eN];try rfl,hlt,by omega⟩
     ·have hL:¬ lW c:=fun h=>h.elim (fun h=>by rw [hst] at h;cases h) (fun h=>h.elim hlr hbr)
      have S2:=qFw c.r c.b
      rw [b9 (fun e=>hbr e.symm)] at S2
      refine goA 3 ?_;push_cast;refine cVt zDd S1 (.cons (aD (aU _)) (.cons (aD (aU _)) .nil)) ?_;push_cast;refine cVt zDd S2 (.cons (aD (aU _)) (.cons (aD (aU _)) .nil)) ?_;push_cast;refine goP [9,11,12,13,14] [112,152] ?_
      by_cases hbl:c.b=c.l
      ·have eT:ckT c=cat c.r:=by rw [ckT,b7 hL,g8 hbl]
       have eN:ckN c=0:=by rw [ckN,b7 hL,g8 hbl]
       have S3:=qFw c.l c.b
       rw [i7 hbl.symm] at S3;refine goA 7 ?_;push_cast;refine cVt zDd S3 (.cons (aD (aU _)) (.cons (aD (aU _)) .nil)) ?_;push_cast;refine cVt zL8 (qS c.r (by omega) (by omega)) (.cons (aD (aU _)) .nil) ?_
       push_cast(disch:=omega);(repeat ((with_reducible refine bJa ?_ ?_);focus first|omega|decide))
       refine ⟨n + 1,by push_cast[mrS];rw [ht,iW,lJ,hTT,hNN,eT,eN];try rfl,hlt,by omega⟩
      ·have eT:ckT c=((((mkA ++ cat (dF c.l)) ++ mkM) ++ cat (dF c.r)) ++ mkB):=by rw [ckT,b7 hL,b7 hbl]
       have eN:ckN c=1:=by rw [ckN,b7 hL,b7 hbl]
       have S3:=qFw c.l c.b
       rw [b9 (fun e=>hbl e.symm)] at S3
       have k1:=qHg c.l (by omega) (fun x hx=>by have:=qJs hx;omega)
       have k2:=qHg c.r (by omega) (fun x hx=>by have:=qJs hx;omega)
       have z1:=nB c.l
       have z2:=nB c.r
       have j1:=qS (dF c.l) (by rw [mZ];omega) (by omega)
       have j2:=qS (dF c.r) (by rw [mZ];omega) (by omega)
       refine goA 5 ?_;push_cast;refine cVt zDd S3 (.cons (aD (aU _)) (.cons (aD (aU _)) .nil)) ?_;push_cast(disch:=omega);refine goP [9,11,12,13,14] [112,152] ?_
       have sA:({ data:=#[60,60,60,60,60,60,60,10] }:Ba).size=8:=rfl
       have sM:({ data:=#[61,61,61,61,61,61,61,10] }:Ba).size=8:=rfl
       have sB:({ data:=#[62,62,62,62,62,62,62,10] }:Ba).size=8:=rfl
       refine qBb 12 mixed (by kernel_rfl) (fun K hK K1 hK1=>?_);push_cast[sA,sM,sB,n9]
       refine ⟨by omega,?_⟩
       refine qC5 yGx k1 (.cons (aD (aU _)) .nil) ?_;with_reducible refine aS ?_;push_cast
       refine zE0 zL8 j1 (.cons (aD (aU _)) .nil) ?_;with_reducible refine aS ?_;push_cast[sA,sM,sB,n9]
       refine ⟨by omega,by omega,?_⟩
       refine qC5 yGx k2 (.cons (aD (aU _)) .nil) ?_;with_reducible refine aS ?_;push_cast
       refine zE0 zL8 j2 (.cons (aD (aU _)) .nil) ?_;with_reducible refine aS ?_;push_cast[sA,sM,sB,n9]
       refine hK1 _ ?_;(try clear hK1 K1);with_reducible refine aS ?_;push_cast[sA,sM,sB,n9]
       refine ⟨by omega,by omega,?_⟩
       refine hK _ ?_;clear hK K;refine goK 3 ?_;push_cast(disch:=omega);refine ⟨n + 1,by push_cast[mrS];rw [ht,iW,lJ,hTT,hNN,eT,eN];simp only [ByteArray.append_assoc];try rfl,hlt,by omega⟩
  ·have hne:n=cs.length:=by omega
   subst hne;refine goA 5 ?_;push_cast(disch:=omega)[fF];exact eY (by rw [hfin.1,hfin.2,hE])
end Go.Proofs.Y
namespace Go.Rc
open Go Go.Eng Go.RowKit Go.Tr Go.Dk
def vJ (t:List Ent):Nat→Option Ba
|0=>none
|i + 1=>(t[i]?).map fun e=>e.1
def qUg {t:List Ent} {i:Nat} (h:i < t.length):vJ t (i + 1)=some t[i].1:=by rw [vJ,c9 h];rfl
def zGm (mg:(Int × Ba)→(Int × Ba)→(Int × Ba)→Bool) (A H S:List Ent) (p:Ba):0≤lF mg A H S p∧lF mg A H S p≤5:=by
 unfold lF
 (repeat' split) <;> omega
end Go.Rc
namespace Go.Proofs.Y
open Go Go.Eng Go.RowKit Go.Tr Go.Dk Go.Rc Go.DiffM
def yA6 (a h s:Int × Ba) (ha:a.2.size≤4096) (hh:h.2.size≤4096) (hs:s.2.size≤4096):∃ n,HFun Tryz.prog 21 [cY a,cY h,cY s] (fun r st=>r=.tup [cY n,.v (.bool (mgR a h s))]∧st=[]) :=
 ⟨_,qKq a h s _ _ _ (qDf (kV a) h.2 s.2 (l5 (oS ha) (by decide)) (l5 hh (by decide)) (l5 hs (by decide)))⟩
def yFv {H S:List Ent} (hH:TB H) (hS:TB S):∀ (n:Nat) (p:Ba),p.size≤n→p.size≤1048576→HFun Tryz.prog 36 [.lst false (aG H),.lst false (aG S),.v (.string p)] (fun h st=>h=.v (.bool (opn H S p))):=by
 intro n
 induction n with
|zero =>
  intro p hn hp;refine bP (N:=39) Tryz.func36 rfl Tryz.ntmps36 Tryz.results36 (by simp) ?_
  have hp0:p={ data:=#[] }:=bBl.1 (by omega)
  have h0:par p={ data:=#[] }:=by rw [hp0];rfl
  have cp:=qFx p hp
  rw [qRh h0];rw [h0] at cp;refine goA 9 ?_;push_cast;refine cVt qWo cp (.cons (.v _) .nil) ?_;push_cast;exact aQ rfl
|succ n ih =>
  intro p hn hp;refine bP (N:=39) Tryz.func36 rfl Tryz.ntmps36 Tryz.results36 (by simp) ?_
  have cp:=qFx p hp
  cases e0:decide (par p={ data:=#[] }) with
 |true =>
   have h0:par p={ data:=#[] }:=u7 e0
   rw [qRh h0];refine goA 9 ?_;push_cast;refine cVt qWo cp (.cons (.v _) .nil) ?_;push_cast[e0];(repeat ((with_reducible refine bJa ?_ ?_);focus first|omega|decide))
   exact aQ rfl
 |false =>
  have h0:¬ par p={ data:=#[] }:=x8 e0
  have hsz:=qKx h0
  rw [qZj h0];generalize par p=q at cp e0 h0 hsz ⊢
  have co:=ih q (by omega) (by omega)
  have g1:=pU H q (by have:=hH.len;omega)
  have g2:=pU S q (by have:=hS.len;omega)
  have s1:=xD H q (by have:=hH.len;omega) hH.sz (by omega)
  have s2:=xD S q (by have:=hS.len;omega) hS.sz (by omega)
  have f1:(dX H q).length≤1000:=l5 (p7 ..) hH.len
  have cs:=lR (dX H q) (dX S q) (by omega)
  change HFun Tryz.prog 19 _ (fun h st=>h=.own 0∧st=[(0,Tr.rowE (dX H q))]) at s1
  change HFun Tryz.prog 19 _ (fun h st=>h=.own 0∧st=[(0,Tr.rowE (dX S q))]) at s2
  generalize dX H q=HH at *
  generalize dX S q=SS at *
  generalize aV H q=nh at *
  generalize aV S q=ns at *
  obtain ⟨kh,dh⟩:=nh;obtain ⟨ks,ds⟩:=ns;dsimp only;refine goA 7 ?_;push_cast;refine cVt qWo cp (.cons (.v _) .nil) ?_;push_cast[e0];(repeat ((with_reducible refine bJa ?_ ?_);focus first|omega|decide))
  cases o1:opn H S q with
 |false =>
   rw [o1] at co;refine goA 5 ?_;push_cast;refine cVt zMb co (.cons (aD (yT _)) (.cons (aD (yT _)) (.cons (.v _) .nil))) ?_;push_cast;exact aQ rfl
 |true =>
  rw [o1] at co
  cases o2:decide (kh=1) with
 |false =>
   refine goA 5 ?_;push_cast;refine cVt zMb co (.cons (aD (yT _)) (.cons (aD (yT _)) (.cons (.v _) .nil))) ?_;push_cast;refine cUt 160 qC0 g1 (.cons (aD (yT _)) (.cons (.v _) .nil)) ?_;push_cast[o2];exact aQ rfl
 |true =>
  have e2:=u7 o2
  subst e2
  cases o3:decide (ks=1) with
 |false =>
   refine goA 5 ?_;push_cast;refine cVt zMb co (.cons (aD (yT _)) (.cons (aD (yT _)) (.cons (.v _) .nil))) ?_;push_cast;refine cUt 160 qC0 g1 (.cons (aD (yT _)) (.cons (.v _) .nil)) ?_;push_cast;refine cUt 216 qC0 g2 (.cons (aD (yT _)) (.cons (.v _) .nil)) ?_;push_cast[o3];exact aQ rfl
 |true =>
  have e3:=u7 o3
  subst e3;refine goA 5 ?_;push_cast;refine cVt zMb co (.cons (aD (yT _)) (.cons (aD (yT _)) (.cons (.v _) .nil))) ?_;push_cast;refine cUt 160 qC0 g1 (.cons (aD (yT _)) (.cons (.v _) .nil)) ?_;push_cast;refine cUt 216 qC0 g2 (.cons (aD (yT _)) (.cons (.v _) .nil)) ?_;push_cast;refine cUt 264 qSe s1 (.cons (aD (yT _)) (.cons (.v _) .nil)) ?_;push_cast;refine cUt 288 qSe s2 (.cons (aD (yT _)) (.cons (.v _) .nil)) ?_;push_cast;refine cVt cl9 cs (.cons (eH (yT _) rfl) (.cons (eH (yT _) rfl) .nil)) ?_;push_cast;exact aQ rfl
def yA4 {A H S:List Ent} (hA:TB A) (hH:TB H) (hS:TB S) (p:Ba) (hp:p.size≤1048576):HFun Tryz.prog 37 [.lst false (aG A),.lst false (aG H),.lst false (aG S),.v (.string p)] (fun h st=>h=.v (.int .i64 (lF mgR A H S p))):=by
 refine bP (N:=66) Tryz.func37 rfl Tryz.ntmps37 Tryz.results37 (by simp) ?_
 have gA:=pU A p (by have:=hA.len;omega)
 have gH:=pU H p (by have:=hH.len;omega)
 have gS:=pU S p (by have:=hS.len;omega)
 have sA:=xD A p (by have:=hA.len;omega) hA.sz hp
 have sH:=xD H p (by have:=hH.len;omega) hH.sz hp
 have sS:=xD S p (by have:=hS.len;omega) hS.sz hp
 obtain ⟨nn,cm⟩:=yA6 (aV A p) (aV H p) (aV S p) (fP hA p) (fP hH p) (fP hS p)
 have fH:(dX H p).length≤1000:=l5 (p7 ..) hH.len
 have fS:(dX S p).length≤1000:=l5 (p7 ..) hS.len
 have c1:=lR (dX H p) (dX S p) (by omega)
 have c2:=lR (dX H p) (dX A p) (by omega)
 have c3:=lR (dX S p) (dX A p) (by omega)
 change HFun Tryz.prog 19 _ (fun h st=>h=.own 0∧st=[(0,Tr.rowE (dX A p))]) at sA
 change HFun Tryz.prog 19 _ (fun h st=>h=.own 0∧st=[(0,Tr.rowE (dX H p))]) at sH
 change HFun Tryz.prog 19 _ (fun h st=>h=.own 0∧st=[(0,Tr.rowE (dX S p))]) at sS
 unfold lF;generalize dX A p=AA at *
 generalize dX H p=HH at *
 generalize dX S p=SS at *
 generalize mgR (aV A p) (aV H p) (aV S p)=b at cm ⊢;generalize aV A p=na at *
 generalize aV H p=nh at *
 generalize aV S p=ns at *
 obtain ⟨ka,da⟩:=na;obtain ⟨kh,dh⟩:=nh;obtain ⟨ks,ds⟩:=ns;obtain ⟨kn,dn⟩:=nn;dsimp only at cm ⊢;refine goA 7 ?_;push_cast;refine cUt 152 qSe sA (.cons (aD (yT _)) (.cons (.v _) .nil)) ?_;push_cast;refine cUt 176 qSe sH (.cons (aD (yT _)) (.cons (.v _) .nil)) ?_;push_cast;refine cUt 200 qSe sS (.cons (aD (yT _)) (.cons (.v _) .nil)) ?_;push_cast;refine cUt 224 qC0 gA (.cons (aD (yT _)) (.cons (.v _) .nil)) ?_;push_cast;refine cUt 248 qC0 gH (.cons (aD (yT _)) (.cons (.v _) .nil)) ?_;push_cast;refine cUt 272 qC0 gS (.cons (aD (yT _)) (.cons (.v _) .nil)) ?_;push_cast;refine goP [8,9,10,11,12,13,14] [96,104,112,152,176,200] ?_
 by_cases d1:HH=SS
 ·rw [g8 d1];rw [i7 d1] at c1;subst d1;refine goA 3 ?_;push_cast;refine cVt cl9 c1 (.cons (eH (yT _) rfl) (.cons (eH (yT _) rfl) .nil)) ?_;push_cast
  by_cases d2:AA=HH
  ·rw [g8 d2];rw [i7 d2.symm] at c2;refine goA 5 ?_;push_cast;refine cVt cl9 c2 (.cons (eH (yT _) rfl) (.cons (eH (yT _) rfl) .nil)) ?_;push_cast;exact aQ rfl
  ·rw [b7 d2];rw [b9 (bE1 d2)] at c2;refine goA 5 ?_;push_cast;refine cVt cl9 c2 (.cons (eH (yT _) rfl) (.cons (eH (yT _) rfl) .nil)) ?_;push_cast;exact aQ rfl
 rw [b7 d1];rw [b9 d1] at c1;refine goA 3 ?_;push_cast;refine cVt cl9 c1 (.cons (eH (yT _) rfl) (.cons (eH (yT _) rfl) .nil)) ?_;push_cast
 by_cases k1:kh=1∧ks=1
 ·rw [g8 k1];obtain ⟨rfl,rfl⟩:=k1;refine goA 3 ?_;push_cast;(repeat ((with_reducible refine bJa ?_ ?_);focus first|omega|decide))
  by_cases k2:ka=1
  ·rw [g8 k2];subst k2;refine goA 5 ?_;push_cast;(repeat ((with_reducible refine bJa ?_ ?_);focus first|omega|decide))
   exact aQ rfl
  ·rw [b7 k2]
   have k3:decide (ka=1)=false:=b9 k2
   refine goA 5 ?_;push_cast[k3];(repeat ((with_reducible refine bJa ?_ ?_);focus first|omega|decide))
   exact aQ rfl
 rw [b7 k1]
 (repeat refine goQ ?_);refine goM (fun _:Unit=>⟨[(8,.v (.int .i64 0)),(9,.own 152),(10,.own 176),(11,.own 200),(12,.ptr 96 2 0 0),(13,.ptr 104 2 0 0),(14,.ptr 112 2 0 0),(48,.v (.bool false))],[(96,.bx true 42 [.v (.int .i64 ka),.v (.string da)]),(104,.bx true 42 [.v (.int .i64 kh),.v (.string dh)]),(112,.bx true 42 [.v (.int .i64 ks),.v (.string ds)]),(152,Tr.rowE AA),(176,Tr.rowE HH),(200,Tr.rowE SS)]⟩) (fun _=>True) [8,9,10,11,12,13,14,48] [96,104,112,152,176,200] ?_ ?_
 ·by_cases k2:kh=1
  ·subst k2
   have k3:decide (ks=1)=false:=b9 fun z=>k1 ⟨rfl,z⟩
   refine goA 3 ?_;push_cast[k3];(repeat ((with_reducible refine bJa ?_ ?_);focus first|omega|decide))
   exact ⟨(),trivial⟩
  ·have k3:decide (kh=1)=false:=b9 k2
   refine goA 3 ?_;push_cast[k3];(repeat ((with_reducible refine bJa ?_ ?_);focus first|omega|decide))
   exact ⟨(),trivial⟩
 intro S' _ hE2 _;refine yB [8,9,10,11,12,13,14,48] [96,104,112,152,176,200] hE2 ?_;clear hE2;refine goA 1 ?_;push_cast
 by_cases d2:HH=AA
 ·rw [g8 d2];rw [i7 d2] at c2;refine goA 5 ?_;push_cast;refine cVt cl9 c2 (.cons (eH (yT _) rfl) (.cons (eH (yT _) rfl) .nil)) ?_;push_cast;exact aQ rfl
 rw [b7 d2];rw [b9 d2] at c2;refine goA 3 ?_;push_cast;refine cVt cl9 c2 (.cons (eH (yT _) rfl) (.cons (eH (yT _) rfl) .nil)) ?_;push_cast
 by_cases d3:SS=AA
 ·rw [g8 d3];rw [i7 d3] at c3;refine goA 5 ?_;push_cast;refine cVt cl9 c3 (.cons (eH (yT _) rfl) (.cons (eH (yT _) rfl) .nil)) ?_;push_cast;exact aQ rfl
 rw [b7 d3];rw [b9 d3] at c3;refine goA 3 ?_;push_cast;refine cVt cl9 c3 (.cons (eH (yT _) rfl) (.cons (eH (yT _) rfl) .nil)) ?_;push_cast;refine goP [8,12,13,14] [96,104,112] ?_;refine goA 3 ?_;push_cast(disch:=omega);refine cUt 496 yG3 cm (.cons (bJ (ka,da)) (.cons (bJ (kh,dh)) (.cons (bJ (ks,ds)) .nil))) ?_;push_cast(disch:=omega)
 cases b with
|true =>
  refine goA 5 ?_;push_cast;exact aQ rfl
|false =>
  refine goA 5 ?_;push_cast;exact aQ rfl
def qYn {A H S:List Ent} (hA:TB A) (hH:TB H) (hS:TB S):HFun Tryz.prog 18 [.lst false (aG A),.lst false (aG H),.lst false (aG S)] (fun h st=>h=.own 0∧st=[(0,.sl true 53 2 (itl (zG1 mgR A H S)))]):=by
 refine bP (N:=65) Tryz.func18 rfl Tryz.ntmps18 Tryz.results18 (by simp) ?_
 have lA:=hA.len
 have lH:=hH.len
 have lS:=hS.len
 have cs:=zNi (A ++ H ++ S) (by rw [i8,i8];omega)
 have al:(iM (A ++ H ++ S)).length=A.length + H.length + S.length:=by rw [(jS (A ++ H ++ S)).length_eq,i8,i8]
 have asz:∀ e ∈ iM (A ++ H ++ S),e.1.size≤1048576:=fun e he=>by
  have he:=(jS (A ++ H ++ S)).mem_iff.1 he
  rcases m8.1 he with he|he
  ·rcases m8.1 he with he|he
   ·exact hA.sz e he
   ·exact hH.sz e he
  ·exact hS.sz e he
 unfold zG1;generalize iM (A ++ H ++ S)=X at *
 obtain ⟨f,hf⟩:∃ f,zVa mgR A H S=f:=⟨_,rfl⟩;rw [hf];obtain ⟨g,hg⟩:∃ g:Ba→Ba × Int,(fun p=>(p,lF mgR A H S p))=g:=⟨_,rfl⟩
 rw [hg];refine goA 11 ?_;push_cast(disch:=omega)[yV,yU,qFc];refine cUt 160 yG0 cs (.cons (eH (yT _) rfl) .nil) ?_;push_cast;refine goW 8 9000 53 2 rfl ?_;refine goL (fun x:Nat × LN=>⟨[(0,.lst false (aG A)),(1,.lst false (aG H)),(2,.lst false (aG S)),(7,.own 160),(8,.own 9000),(9,.v (.int .i64 (x.1:Int)))],[(9000,.sl true 53 2 (itl x.2)),(160,Tr.rowE X)]⟩) (fun x=>x.1≤X.length∧x.2.length≤x.1∧x.2 ++ (yZ f (vJ X x.1) (X.drop x.1)).map g=(yZ f none X).map g) (fun x=>X.length - x.1) [0,1,2,7,8,9] [9000,160] (0,[]) (by push_cast <;> rfl) ⟨g7 _,a7 _,rfl⟩ ?_
 rintro ⟨i,out⟩ ⟨hi,hol,ho⟩;dsimp only at hi hol ho ⊢
 by_cases hlt:i < X.length
 ·rw [l4 hlt,yZ] at ho
  have hnx:=qUg hlt
  have hxs:=asz _ (c7 hlt)
  have co:=yFv hH hS _ X[i].1 (a7 _) hxs
  have cd:=yA4 hA hH hS X[i].1 hxs
  have hsg:=zGm mgR A H S X[i].1
  have hfx:f X[i].1=(opn H S X[i].1 && !decide (lF mgR A H S X[i].1=0)):=by rw [← hf];rfl
  have hgx:g X[i].1=(X[i].1,lF mgR A H S X[i].1):=by rw [← hg]
  generalize opn H S X[i].1=o at co hfx;generalize lF mgR A H S X[i].1=n at cd hfx hgx hsg
  have hk0:∀ (m:Nat),(m:Int) + 1 - 1=m:=fun m=>by omega
  refine goA 4 ?_;push_cast(disch:=omega)[yV,yU,yW hlt]
  (repeat refine goQ ?_);refine goM (fun _:Unit=>⟨[(0,.lst false (aG A)),(1,.lst false (aG H)),(2,.lst false (aG S)),(7,.own 160),(8,.own 9000),(9,.v (.int .i64 (i:Int))),(10,.v (.string X[i].1)),(50,.v (.bool (!decide (vJ X i≠some X[i].1∧o=true))))],[(9000,.sl true 53 2 (itl out)),(160,Tr.rowE X)]⟩) (fun _=>True) [0,1,2,7,8,9,10,50] [9000,160] ?_ ?_
  ·rcases bAo i with rfl|hpos
   ·have hq:(!decide (vJ X 0≠some X[0].1∧o=true))=!o:=by cases o <;> simp [vJ]
    rw [hq];refine goA 3 ?_;push_cast[yV,yU,yW hlt,hk0];refine cVt zMb co (.cons (aD (yT _)) (.cons (aD (yT _)) (.cons (.v _) .nil))) ?_;push_cast;exact ⟨(),trivial⟩
   ·obtain ⟨m,rfl⟩:∃ m,i=m + 1:=⟨i - 1,by omega⟩
    have hm:m < X.length:=by omega
    have hpm:vJ X (m + 1)=some X[m].1:=qUg hm
    by_cases hq:X[m].1=X[m + 1].1
    ·have hqd:decide (X[m].1=X[m + 1].1)=true:=i7 hq
     have hq2:(!decide (vJ X (m + 1)≠some X[m + 1].1∧o=true))=true:=by rw [hpm,hq];simp
     rw [hq2];refine goA 3 ?_;push_cast(disch:=omega)[yV,yU,yW hlt,hk0,yW hm,hqd];exact ⟨(),trivial⟩
    ·have hqd:decide (X[m].1=X[m + 1].1)=false:=b9 hq
     have hq2:(!decide (vJ X (m + 1)≠some X[m + 1].1∧o=true))=!o:=by rw [hpm];cases o <;> simp [hq]
     rw [hq2];refine goA 3 ?_;push_cast(disch:=omega)[yV,yU,yW hlt,hk0,yW hm,hqd];refine cVt zMb co (.cons (aD (yT _)) (.cons (aD (yT _)) (.cons (.v _) .nil))) ?_;push_cast;exact ⟨(),trivial⟩
  intro S' _ hE2 _;refine yB [0,1,2,7,8,9,10,50] [9000,160] hE2 ?_;clear hE2
  by_cases hc:vJ X i≠some X[i].1∧o=true
  ·rw [i7 hc];refine goA 3 ?_;push_cast;refine cVt yK7 cd (.cons (aD (yT _)) (.cons (aD (yT _)) (.cons (aD (yT _)) (.cons (.v _) .nil)))) ?_;push_cast
   by_cases hn:n=0
   ·have hcc:¬ (vJ X i≠some X[i].1∧f X[i].1=true):=fun h=>by rw [hfx,hn] at h;simp at h
    rw [b7 hcc] at ho
    have dn:decide (0 < n)=false:=b9 (by omega)
    refine goA 5 ?_;push_cast(disch:=omega)[dn];(repeat ((with_reducible refine bJa ?_ ?_);focus first|omega|decide))
    refine ⟨(i + 1,out),by push_cast <;> rfl,⟨hlt,by dsimp only;omega,?_⟩,by dsimp only;omega⟩
    dsimp only;rw [hnx];exact ho
   ·have hcc:vJ X i≠some X[i].1∧f X[i].1=true:=⟨hc.1,by rw [hfx,hc.2,b9 hn];rfl⟩
    rw [g8 hcc,d8,hgx] at ho
    have dn:decide (0 < n)=true:=i7 (by omega)
    have e2:itl out ++ [[FV.v (.string X[i].1),.v (.int .i64 n)]]=itl (out ++ [(X[i].1,n)]):=qVb out _ _
    refine goA 7 ?_;push_cast(disch:=omega)[dn,xS,qEo,e2];(repeat ((with_reducible refine bJa ?_ ?_);focus first|omega|decide))
    refine ⟨(i + 1,out ++ [(X[i].1,n)]),by push_cast <;> rfl,⟨hlt,by dsimp only;simp;omega,?_⟩,by dsimp only;omega⟩
    dsimp only;rw [hnx,← ho];simp
  ·rw [b9 hc]
   have hcc:¬ (vJ X i≠some X[i].1∧f X[i].1=true):=fun h=>hc ⟨h.1,by have:=h.2;rw [hfx] at this;simp only [g9] at this;exact this.1⟩
   rw [b7 hcc] at ho;refine goA 3 ?_;push_cast(disch:=omega);refine ⟨(i + 1,out),by push_cast <;> rfl,⟨hlt,by dsimp only;omega,?_⟩,by dsimp only;omega⟩
   dsimp only;rw [hnx];exact ho
 ·rw [bA8 (by omega),yZ,m4,x4] at ho
  rw [ho];refine goA 5 ?_;push_cast(disch:=omega)[yV];exact iQ rfl (qPi _) ⟨rfl,rfl⟩
end Go.Proofs.Y
namespace Go.Eng
open Go Go.RowKit
def qPk {S:HS} {Q:HV→aC→Prop} {cs:List HV} (hf:∀ x ∈ cs,FreshH x) (hr:∀ m,cs.map (HV.ren m)=cs) (q:Q (.agg cs) []):qBf S (.agg cs) Q :=
 ⟨[],by simp,by simp [dup],.agg hf,fun i h=>by simp at h,by rw [HV.ren,hr];exact q⟩
def jC {S:HS} {Q:HV→aC→Prop} {f g k:Bool} {a b c els:List (List FV)} {id ty sz:Nat} {nw:Bool} {v:Value} (hr:rlk S.st id=some (.sl nw ty sz els)) (q:Q (.tup [.agg [.lst f a,.lst g b,.lst k c,.own 0],.v v]) [(0,.sl nw ty sz els)]):qXb S (.tup [.agg [.lst f a,.lst g b,.lst k c,.own id],.v v]) Q :=
 ⟨[id],by simp,by simp [dup],fun i h r hr'=>by
  simp at h;subst h;rw [hr] at hr';simp only [a6] at hr';subst hr';exact ⟨_,_,_,_,rfl⟩,by
  have:(HV.tup [.agg [.lst f a,.lst g b,.lst k c,.own id],.v v]).ren (pos [id])=.tup [.agg [.lst f a,.lst g b,.lst k c,.own 0],.v v]:=by simp [HV.ren,pos]
  rw [this];simp only [gD,hr,Row.ren];exact q⟩
end Go.Eng
namespace Go.Proofs.Y
open Go Go.Eng Go.RowKit Go.Tr Go.Rc Go.Dk Go.DiffM
def zU4 (a h s:Int × Ba) (ha:a.2.size≤4096) (hh:h.2.size≤4096) (hs:s.2.size≤4096):HFun Tryz.prog 39 [cY a,cY h,cY s] (fun r st=>r=.tup ([.string (jM a h s).1,.int .i64 (jM a h s).2.1,.int .i64 (jM a h s).2.2].map .v)) :=
 qNz a h s _ _ _ (qDf (kV a) h.2 s.2 (l5 (oS ha) (by decide)) (l5 hh (by decide)) (l5 hs (by decide)))
def yA5 (a h s:Int × Ba) (ha:a.2.size≤4096) (hh:h.2.size≤4096) (hs:s.2.size≤4096):HFun Tryz.prog 21 [cY a,cY h,cY s] (fun r st=>r=.tup [cY (qRk a h s),.v (.bool (okM (jM a h s)))]∧st=[]) :=
 qKq a h s _ _ _ (qDf (kV a) h.2 s.2 (l5 (oS ha) (by decide)) (l5 hh (by decide)) (l5 hs (by decide)))
def cfF (fr:Bool) (c:Cfl):List FV:=[.v (.string c.p),.lst fr (aG c.h),.lst fr (aG c.s),.v (.string c.t),.v (.bool c.f),.v (.int .i64 0),.v (.string ByteArray.empty)]
def cfs (fr:Bool) (C:List Cfl):List (List FV):=C.map (cfF fr)
def qFg (fr:Bool) (C:List Cfl):(cfs fr C).length=C.length:=by simp [cfs]
def zZc (fr:Bool) (C:List Cfl):Wid 7 (cfs fr C)=True:=bEe (qC C fun _=>rfl)
def zFc {fr:Bool} {C:List Cfl} {i:Nat} {d:List FV} (h:i < C.length):(cfs fr C).getD i d=cfF fr C[i]:=by unfold cfs;rw [fQ h]
def zS9 (fr:Bool) (C:List Cfl) (c:Cfl):cfs fr C ++ [cfF fr c]=cfs fr (C ++ [c]):=by simp [cfs]
def zVb {A H S:List Ent} (hA:TB A) (hH:TB H) (hS:TB S) (p:Ba) (sp:p.size≤1048576):HFun Tryz.prog 23 [.lst false (aG A),.lst false (aG H),.lst false (aG S),.v (.string p)] (fun h st=>h=.agg ((cfF true (qSi A H S p)).map FV.h)∧st=[]):=by
 refine bP (N:=41) Tryz.func23 rfl Tryz.ntmps23 Tryz.results23 (by simp) ?_
 have gA:=pU A p (by have:=hA.len;omega)
 have gH:=pU H p (by have:=hH.len;omega)
 have gS:=pU S p (by have:=hS.len;omega)
 have sH:=xD H p (by have:=hH.len;omega) hH.sz sp
 have sS:=xD S p (by have:=hS.len;omega) hS.sz sp
 have cm:=zU4 (aV A p) (aV H p) (aV S p) (fP hA p) (fP hH p) (fP hS p)
 have ec:qSi A H S p=⟨p,H.filter fun e=>bN e.1 p,S.filter fun e=>bN e.1 p,oP (jM (aV A p) (aV H p) (aV S p)),oQ (jM (aV A p) (aV H p) (aV S p))⟩:=rfl
 rw [ec];generalize jM (aV A p) (aV H p) (aV S p)=m at *
 obtain ⟨t,k,e⟩:=m;generalize (H.filter fun e=>bN e.1 p)=u at *
 generalize (S.filter fun e=>bN e.1 p)=us at *
 generalize aV A p=nA at *
 generalize aV H p=nH at *
 generalize aV S p=nS at *
 obtain ⟨a1,a2⟩:=nA;obtain ⟨b1,b2⟩:=nH;obtain ⟨d1,d2⟩:=nS;clear ec;refine goA 5 ?_;push_cast;refine cUt 128 qSe sH (.cons (aD (yT _)) (.cons (.v _) .nil)) ?_;push_cast;refine cUt 152 qSe sS (.cons (aD (yT _)) (.cons (.v _) .nil)) ?_;push_cast;refine goP [0,1,2,3,8,9] [64,72,128,152] ?_;refine goR 128 rfl ?_;refine goR 152 rfl ?_;refine goA 3 ?_;push_cast;refine cUt 192 qC0 gA (.cons (aD (yT _)) (.cons (.v _) .nil)) ?_;push_cast;refine cUt 216 qC0 gH (.cons (aD (yT _)) (.cons (.v _) .nil)) ?_;push_cast;refine cUt 240 qC0 gS (.cons (aD (yT _)) (.cons (.v _) .nil)) ?_;push_cast;refine qH8 yGz cm (.cons (bJ (n:=(a1,a2))) (.cons (bJ (n:=(b1,b2))) (.cons (bJ (n:=(d1,d2))) .nil))) ?_;simp only [d8,m4];with_reducible refine aS ?_;push_cast
 refine goP [8,9,10,12] [64,72] ?_
 by_cases he:e=0
 ·have et:oP (t,k,e)=t:=by simp [oP,he]
  have ef:oQ (t,k,e)=true:=by simp [oQ,he]
  rw [et,ef];refine goA 9 ?_;push_cast(disch:=omega);exact qPk (by intro x hx;simp at hx;rcases hx with rfl|rfl|rfl|rfl|rfl|rfl|rfl <;> first|exact .v _|exact .lst (.lst (dD _))) (fun m=>by simp [HV.ren]) ⟨rfl,rfl⟩
 ·have hz:decide (e=0)=false:=b9 he
  have et:oP (t,k,e)=ByteArray.empty:=by simp [oP,he]
  have ef:oQ (t,k,e)=false:=by simp [oQ,he]
  rw [et,ef];refine goA 5 ?_;push_cast[hz];exact qPk (by intro x hx;simp at hx;rcases hx with rfl|rfl|rfl|rfl|rfl|rfl|rfl <;> first|exact .v _|exact .lst (.lst (dD _))) (fun m=>by simp [HV.ren]) ⟨rfl,rfl⟩
def yDi:eV Tryz.prog 32 0=some 0:=by kernel_rfl
def yDh:eV Tryz.prog 32 1=some 1:=by kernel_rfl
def yDg:eV Tryz.prog 32 2=some 2:=by kernel_rfl
def yDf:eV Tryz.prog 32 3=some 3:=by kernel_rfl
def yJ9:bU Tryz.prog 32=some (some 4):=by kernel_rfl
def yBt:cP Tryz.prog 32 0=some (0,1):=by kernel_rfl
def yBs:cP Tryz.prog 32 1=some (1,1):=by kernel_rfl
def yBr:cP Tryz.prog 32 2=some (2,1):=by kernel_rfl
def yJh:eD Tryz.prog 32=some #[.slice none 0 0,.slice none 0 0,.slice none 0 0,.slice none 0 0]:=by kernel_rfl
attribute [push_cast] yDi yDh yDg yDf yJ9 yBt yBs yBr yJh
def zX6 {f:FV} {ρ ρ':Nat→Value} {w:World} {A:Nat→Prop} {n:Nat} {v:Value} (h:RepH w A n ρ v f.h):RepH w A n ρ' v f.h:=by
 cases f with
|v x=>cases h;exact .v _
|lst fr xs=>cases h with|lst h=>exact .lst h
def zTm {fs:List FV} {ρ ρ':Nat→Value} {w:World} {A:Nat→Prop} {n:Nat} {v:Value} (h:RepH w A n ρ v (.agg (fs.map FV.h))):RepH w A n ρ' v (.agg (fs.map FV.h)):=by
 cases h with
|agg hn h1 h =>
 refine .agg hn h1 fun j a b=>?_
 have:=h j a b
 rw [d9] at this ⊢;exact zX6 this
def zZf (c:Cfl):FreshH (.agg ((cfF true c).map FV.h)):=.agg fun x hx=>by
 simp only [cfF,d8,m4,l3,bBf,bDu] at hx
 rcases hx with rfl|rfl|rfl|rfl|rfl|rfl|rfl <;> first|exact .v _|exact .lst (.lst (dD _))
def zU5 {A H S:List Ent} (hA:TB A) (hH:TB H) (hS:TB S) (hk:∀ e ∈ A ++ H ++ S,pOk e.1 5=true) (hI:zG1 mgR A H S=fE mgR A H S) :
  HFunV Tryz.prog 8 [.lst false (aG A),.lst false (aG H),.lst false (aG S)] (fun h st=>∃ (f g k:Bool) (x:T3) (C:List Cfl) (e:Int),kU A H S (fE mgR A H S) (H,S,A) []=((x,C),e)∧h=.tup [.agg [.lst f (aG x.1),.lst g (aG x.2.1),.lst k (aG x.2.2),.own 0],.v (.int .i64 e)]∧st=[(0,.sl true 39 7 (cfs true C))]):=by
 refine yGi (N:=185) Tryz.func8 rfl Tryz.ntmps8 Tryz.results8 (by simp) ?_
 have ci:=qYn hA hH hS
 rw [hI] at ci
 have hb:(fE mgR A H S).length≤3000:=by
  have h1:=uE (mg:=mgR) A H S 1048577 { data:=#[] }
  have:=hA.len
  have:=hH.len
  have:=hS.len
  have e:fE mgR A H S=bQ mgR A H S 1048577 { data:=#[] }:=rfl
  rw [e];omega
 have hpk:∀ x ∈ fE mgR A H S,pOk x.1 5=true:=qJd rfl hk _ _
 clear hI;generalize fE mgR A H S=L at *
 have bx:BT (H,S,A):=fun k=>by
  match k with
 |0=>exact fG hH
 |1=>exact fG hS
 |k + 2=>exact fG hA
 change HW _ _ _ (kb _ 0) _;refine goA 4 ?_;push_cast;refine goP [0,1,2,6,8] [48,64] ?_;refine bR 64 3 9000 39 7 (by decide) rfl rfl (by push_cast[d8,m4,l8,l9,o7,p8];exact rfl) ?_
 refine goA 5 ?_;push_cast;refine cUt 216 yLa ci (.cons (aD (yT _)) (.cons (aD (yT _)) (.cons (aD (yT _)) .nil))) ?_;push_cast;refine goL (fun z:Nat × T3 × List Cfl × Bool × Bool × Bool=>⟨[(0,.lst false (aG A)),(1,.lst false (aG H)),(2,.lst false (aG S)),(6,.ptr 48 4 0 0),(8,.ptr 64 4 0 0),(9,.own 216),(10,.v (.int .i64 z.1))],[(48,.bx true 32 [.v (.slice none 0 0),.v (.slice none 0 0),.v (.slice none 0 0),.v (.slice none 0 0)]),(64,.bx true 32 [.lst z.2.2.2.1 (aG z.2.1.1),.lst z.2.2.2.2.1 (aG z.2.1.2.1),.lst z.2.2.2.2.2 (aG z.2.1.2.2),.own 9000]),(216,.sl true 53 2 (itl L)),(9000,.sl true 39 7 (cfs true z.2.2.1))]⟩)
  (fun z=>z.1≤L.length∧BT z.2.1∧z.2.2.1.length≤z.1∧kU A H S L (H,S,A) []=kU A H S (L.drop z.1) z.2.1 z.2.2.1) (fun z=>L.length - z.1) [0,1,2,6,8,9,10] [48,64,216,9000] (0,(H,S,A),[],false,false,false) (by push_cast <;> rfl) ⟨g7 _,bx,a7 _,rfl⟩ ?_
 rintro ⟨i,x,C,f0,f1,f2⟩ ⟨hi,hx,hC,hm⟩;dsimp only at hi hx hC hm ⊢;rw [hm]
 by_cases hlt:i < L.length
 ·rw [l4 hlt]
  have sp:=qRd (hpk _ (c7 hlt))
  have hg:=fun d=>@zEv L i d hlt
  generalize L[i]=it at *
  obtain ⟨p,w⟩:=it;dsimp only at sp hg
  have sp2:p.size≤1048576:=by omega
  have hu:=zM6 (A:=A) (p:=p) (w:=w) (fG hH) (fG hS) sp2
  have cr:∀ k,HFun Tryz.prog 20 [.lst false (aG (t3 x k)),.v (.string p),.lst false (aG (uW A H S p w))] (fun h st=>h=.tup [.own 0,.v (.int .i64 (dL (t3 x k) p (uW A H S p w)))]∧st=[(0,Tr.rowE (gR (t3 x k) p (uW A H S p w)))]):=fun k=>qYh (t3 x k) p (uW A H S p w) (hx k).len hu.len sp2 (hx k).sz hu.sz
  have c0:=cr 0
  have c1:=cr 1
  have c2:=cr 2
  clear cr;simp only [t3] at c0 c1 c2
  have sH:=xD H p (by have:=hH.len;omega) hH.sz sp2
  have sS:=xD S p (by have:=hS.len;omega) hS.sz sp2
  refine goA 7 ?_;push_cast(disch:=omega)[xS,qEo,hg];refine cUt 328 qSe sH (.cons (aD (yT _)) (.cons (.v _) .nil)) ?_;push_cast;refine cUt 352 qSe sS (.cons (aD (yT _)) (.cons (.v _) .nil)) ?_;push_cast;refine goP [0,1,2,6,8,9,10,11,12,13] [48,64,216,9000,328,352] ?_;refine goR 328 rfl ?_;refine goR 352 rfl ?_;clear sH sS;refine goA 9 ?_;push_cast(disch:=omega)[xS,qEo,hg];refine goP [0,1,2,6,8,9,10,11,12,13,14,15,16,49] [48,64,216,9000] ?_
  have xe:(x.1,x.2.1,x.2.2)=x:=rfl
  cases hw:qHm w with
 |true =>
   have hcs:w=1∨w=2∨w=3∨w=4:=by simpa [qHm,or_assoc] using hw
   rw [kU,g8 hw]
   rcases hcs with rfl|rfl|rfl|rfl
   ·have cs:=lR (H.filter fun e=>bN e.1 p) (S.filter fun e=>bN e.1 p) (by have:=p7 (fun e=>bN e.1 p) H;have:=hH.len;omega)
    refine goA 3 ?_;push_cast
    by_cases hq:(H.filter fun e=>bN e.1 p)=(S.filter fun e=>bN e.1 p)
    ·have eu:uW A H S p 1=(H.filter fun e=>bN e.1 p):=by show qMn p H S=_;unfold qMn;rw [g8 hq]
     rw [i7 hq] at cs;rw [← eu] at cs ⊢;refine goA 5 ?_;push_cast;refine cVt cl9 cs (.cons (aD (yT _)) (.cons (aD (yT _)) .nil)) ?_;push_cast;refine cUt 560 qSd c2 (.cons (aD (yT _)) (.cons (.v _) (.cons (aD (yT _)) .nil))) ?_;push_cast;refine goP [0,1,2,6,8,9,10,14,15,16] [48,64,216,9000,560] ?_;refine goR 560 rfl ?_
     by_cases h0:dL x.2.2 p (uW A H S p 1)=0
     ·rw [h0];refine goA 3 ?_;push_cast
      have hp:cR p (uW A H S p 1) (ksW 1) x=((x.1,x.2.1,gR x.2.2 p (uW A H S p 1)),0):=by simp only [ksW,cR,t3,kQ,h0,Int.reduceEq,reduceIte];try rfl
      rw [hp,g8 rfl];refine goA 7 ?_;push_cast(disch:=omega);refine ⟨(i + 1,(x.1,x.2.1,gR x.2.2 p (uW A H S p 1)),C,f0,f1,true),by push_cast <;> rfl,⟨hlt,?_,by dsimp only;omega,rfl⟩,by dsimp only;omega⟩
      have:=tE (p:=p) hu (ksW 1) hx
      rw [hp] at this;exact this
     ·have hz:decide (dL x.2.2 p (uW A H S p 1)=0)=false:=b9 h0
      have hp:(cR p (uW A H S p 1) (ksW 1) x).2=dL x.2.2 p (uW A H S p 1):=by simp only [ksW,cR,t3,kQ,b7 h0,Int.reduceEq,reduceIte]
      rw [b7 (by rw [hp];exact h0),hp]
      generalize dL x.2.2 p (uW A H S p 1)=er at *
      refine goA 4 ?_;push_cast[hz];refine goP [6,7] [48] ?_;refine bR 48 0 9001 44 3 (by decide) rfl rfl (by push_cast[d8,m4,l8,l9,o7,p8];exact rfl) ?_
      refine bR 48 1 9002 44 3 (by decide) rfl rfl (by push_cast[d8,m4,l8,l9,o7,p8];exact rfl) ?_
      refine bR 48 2 9003 44 3 (by decide) rfl rfl (by push_cast[d8,m4,l8,l9,o7,p8];exact rfl) ?_
      refine bR 48 3 9004 39 7 (by decide) rfl rfl (by push_cast[d8,m4,l8,l9,o7,p8];exact rfl) ?_
      refine goR 9001 rfl ?_;refine goR 9002 rfl ?_;refine goR 9003 rfl ?_;refine goA 1 ?_;push_cast;exact jC (id:=9004) rfl ⟨true,true,true,([],[],[]),[],_,rfl,rfl,rfl⟩
    ·have eu:uW A H S p 1=[(p,(1,ByteArray.empty))]:=by show qMn p H S=_;unfold qMn;rw [b7 hq]
     rw [b9 hq] at cs;refine goA 5 ?_;push_cast;refine cVt cl9 cs (.cons (aD (yT _)) (.cons (aD (yT _)) .nil)) ?_;push_cast;refine cUt 656 qSd c2 (.cons (aD (yT _)) (.cons (.v _) (.cons (eH (show mD [[FV.v (.string p),.v (.int .i64 1),.v (.string ByteArray.empty)]]=aG (uW A H S p 1) by rw [eu];exact yT [(p,(1,ByteArray.empty))]) rfl) .nil))) ?_
     push_cast;refine goP [0,1,2,6,8,9,10,14,15,16] [48,64,216,9000,656] ?_;refine goR 656 rfl ?_
     by_cases h0:dL x.2.2 p (uW A H S p 1)=0
     ·rw [h0];refine goA 3 ?_;push_cast
      have hp:cR p (uW A H S p 1) (ksW 1) x=((x.1,x.2.1,gR x.2.2 p (uW A H S p 1)),0):=by simp only [ksW,cR,t3,kQ,h0,Int.reduceEq,reduceIte];try rfl
      rw [hp,g8 rfl];refine goA 7 ?_;push_cast(disch:=omega);refine ⟨(i + 1,(x.1,x.2.1,gR x.2.2 p (uW A H S p 1)),C,f0,f1,true),by push_cast <;> rfl,⟨hlt,?_,by dsimp only;omega,rfl⟩,by dsimp only;omega⟩
      have:=tE (p:=p) hu (ksW 1) hx
      rw [hp] at this;exact this
     ·have hz:decide (dL x.2.2 p (uW A H S p 1)=0)=false:=b9 h0
      have hp:(cR p (uW A H S p 1) (ksW 1) x).2=dL x.2.2 p (uW A H S p 1):=by simp only [ksW,cR,t3,kQ,b7 h0,Int.reduceEq,reduceIte]
      rw [b7 (by rw [hp];exact h0),hp]
      generalize dL x.2.2 p (uW A H S p 1)=er at *
      refine goA 4 ?_;push_cast[hz];refine goP [6,7] [48] ?_;refine bR 48 0 9001 44 3 (by decide) rfl rfl (by push_cast[d8,m4,l8,l9,o7,p8];exact rfl) ?_
      refine bR 48 1 9002 44 3 (by decide) rfl rfl (by push_cast[d8,m4,l8,l9,o7,p8];exact rfl) ?_
      refine bR 48 2 9003 44 3 (by decide) rfl rfl (by push_cast[d8,m4,l8,l9,o7,p8];exact rfl) ?_
      refine bR 48 3 9004 39 7 (by decide) rfl rfl (by push_cast[d8,m4,l8,l9,o7,p8];exact rfl) ?_
      refine goR 9001 rfl ?_;refine goR 9002 rfl ?_;refine goR 9003 rfl ?_;refine goA 1 ?_;push_cast;exact jC (id:=9004) rfl ⟨true,true,true,([],[],[]),[],_,rfl,rfl,rfl⟩
   ·have eu:uW A H S p 2=(H.filter fun e=>bN e.1 p):=rfl
    rw [← eu];refine goA 9 ?_;push_cast;refine cUt 744 qSd c1 (.cons (aD (yT _)) (.cons (.v _) (.cons (aD (yT _)) .nil))) ?_;push_cast;refine cUt 816 qSd c2 (.cons (aD (yT _)) (.cons (.v _) (.cons (aD (yT _)) .nil))) ?_;push_cast;refine goP [0,1,2,6,8,9,10,14,15,16] [48,64,216,9000,744,816] ?_;refine goR 744 rfl ?_;refine goR 816 rfl ?_
    by_cases h0:dL x.2.1 p (uW A H S p 2)=0
    ·rw [h0];refine goA 3 ?_;push_cast
     by_cases h1:dL x.2.2 p (uW A H S p 2)=0
     ·rw [h1];refine goA 3 ?_;push_cast
      have hp:cR p (uW A H S p 2) (ksW 2) x=((x.1,gR x.2.1 p (uW A H S p 2),gR x.2.2 p (uW A H S p 2)),0):=by simp only [ksW,cR,t3,kQ,h0,h1,Int.reduceEq,reduceIte];try rfl
      rw [hp,g8 rfl];refine goA 5 ?_;push_cast(disch:=omega);refine ⟨(i + 1,(x.1,gR x.2.1 p (uW A H S p 2),gR x.2.2 p (uW A H S p 2)),C,f0,true,true),by push_cast <;> rfl,⟨hlt,?_,by dsimp only;omega,rfl⟩,by dsimp only;omega⟩
      have:=tE (p:=p) hu (ksW 2) hx
      rw [hp] at this;exact this
     ·have hz:decide (dL x.2.2 p (uW A H S p 2)=0)=false:=b9 h1
      have hp:(cR p (uW A H S p 2) (ksW 2) x).2=dL x.2.2 p (uW A H S p 2):=by simp only [ksW,cR,t3,kQ,h0,b7 h1,Int.reduceEq,reduceIte]
      rw [b7 (by rw [hp];exact h1),hp]
      generalize dL x.2.2 p (uW A H S p 2)=er at *
      refine goA 4 ?_;push_cast[hz];refine goP [6,7] [48] ?_;refine bR 48 0 9001 44 3 (by decide) rfl rfl (by push_cast[d8,m4,l8,l9,o7,p8];exact rfl) ?_
      refine bR 48 1 9002 44 3 (by decide) rfl rfl (by push_cast[d8,m4,l8,l9,o7,p8];exact rfl) ?_
      refine bR 48 2 9003 44 3 (by decide) rfl rfl (by push_cast[d8,m4,l8,l9,o7,p8];exact rfl) ?_
      refine bR 48 3 9004 39 7 (by decide) rfl rfl (by push_cast[d8,m4,l8,l9,o7,p8];exact rfl) ?_
      refine goR 9001 rfl ?_;refine goR 9002 rfl ?_;refine goR 9003 rfl ?_;refine goA 1 ?_;push_cast;exact jC (id:=9004) rfl ⟨true,true,true,([],[],[]),[],_,rfl,rfl,rfl⟩
    ·have hz:decide (dL x.2.1 p (uW A H S p 2)=0)=false:=b9 h0
     have hp:(cR p (uW A H S p 2) (ksW 2) x).2=dL x.2.1 p (uW A H S p 2):=by simp only [ksW,cR,t3,kQ,b7 h0,Int.reduceEq,reduceIte]
     rw [b7 (by rw [hp];exact h0),hp]
     generalize dL x.2.1 p (uW A H S p 2)=er at *
     refine goA 4 ?_;push_cast[hz];refine goP [6,7] [48] ?_;refine bR 48 0 9001 44 3 (by decide) rfl rfl (by push_cast[d8,m4,l8,l9,o7,p8];exact rfl) ?_
     refine bR 48 1 9002 44 3 (by decide) rfl rfl (by push_cast[d8,m4,l8,l9,o7,p8];exact rfl) ?_
     refine bR 48 2 9003 44 3 (by decide) rfl rfl (by push_cast[d8,m4,l8,l9,o7,p8];exact rfl) ?_
     refine bR 48 3 9004 39 7 (by decide) rfl rfl (by push_cast[d8,m4,l8,l9,o7,p8];exact rfl) ?_
     refine goR 9001 rfl ?_;refine goR 9002 rfl ?_;refine goR 9003 rfl ?_;refine goA 1 ?_;push_cast;exact jC (id:=9004) rfl ⟨true,true,true,([],[],[]),[],_,rfl,rfl,rfl⟩
   ·have eu:uW A H S p 3=(S.filter fun e=>bN e.1 p):=rfl
    rw [← eu];refine goA 11 ?_;push_cast;refine cUt 904 qSd c0 (.cons (aD (yT _)) (.cons (.v _) (.cons (aD (yT _)) .nil))) ?_;push_cast;refine cUt 976 qSd c2 (.cons (aD (yT _)) (.cons (.v _) (.cons (aD (yT _)) .nil))) ?_;push_cast;refine goP [0,1,2,6,8,9,10,14,15,16] [48,64,216,9000,904,976] ?_;refine goR 904 rfl ?_;refine goR 976 rfl ?_
    by_cases h0:dL x.1 p (uW A H S p 3)=0
    ·rw [h0];refine goA 3 ?_;push_cast
     by_cases h1:dL x.2.2 p (uW A H S p 3)=0
     ·rw [h1];refine goA 3 ?_;push_cast
      have hp:cR p (uW A H S p 3) (ksW 3) x=((gR x.1 p (uW A H S p 3),x.2.1,gR x.2.2 p (uW A H S p 3)),0):=by simp only [ksW,cR,t3,kQ,h0,h1,Int.reduceEq,reduceIte];try rfl
      rw [hp,g8 rfl];refine goA 5 ?_;push_cast(disch:=omega);refine ⟨(i + 1,(gR x.1 p (uW A H S p 3),x.2.1,gR x.2.2 p (uW A H S p 3)),C,true,f1,true),by push_cast <;> rfl,⟨hlt,?_,by dsimp only;omega,rfl⟩,by dsimp only;omega⟩
      have:=tE (p:=p) hu (ksW 3) hx
      rw [hp] at this;exact this
     ·have hz:decide (dL x.2.2 p (uW A H S p 3)=0)=false:=b9 h1
      have hp:(cR p (uW A H S p 3) (ksW 3) x).2=dL x.2.2 p (uW A H S p 3):=by simp only [ksW,cR,t3,kQ,h0,b7 h1,Int.reduceEq,reduceIte]
      rw [b7 (by rw [hp];exact h1),hp]
      generalize dL x.2.2 p (uW A H S p 3)=er at *
      refine goA 4 ?_;push_cast[hz];refine goP [6,7] [48] ?_;refine bR 48 0 9001 44 3 (by decide) rfl rfl (by push_cast[d8,m4,l8,l9,o7,p8];exact rfl) ?_
      refine bR 48 1 9002 44 3 (by decide) rfl rfl (by push_cast[d8,m4,l8,l9,o7,p8];exact rfl) ?_
      refine bR 48 2 9003 44 3 (by decide) rfl rfl (by push_cast[d8,m4,l8,l9,o7,p8];exact rfl) ?_
      refine bR 48 3 9004 39 7 (by decide) rfl rfl (by push_cast[d8,m4,l8,l9,o7,p8];exact rfl) ?_
      refine goR 9001 rfl ?_;refine goR 9002 rfl ?_;refine goR 9003 rfl ?_;refine goA 1 ?_;push_cast;exact jC (id:=9004) rfl ⟨true,true,true,([],[],[]),[],_,rfl,rfl,rfl⟩
    ·have hz:decide (dL x.1 p (uW A H S p 3)=0)=false:=b9 h0
     have hp:(cR p (uW A H S p 3) (ksW 3) x).2=dL x.1 p (uW A H S p 3):=by simp only [ksW,cR,t3,kQ,b7 h0,Int.reduceEq,reduceIte]
     rw [b7 (by rw [hp];exact h0),hp]
     generalize dL x.1 p (uW A H S p 3)=er at *
     refine goA 4 ?_;push_cast[hz];refine goP [6,7] [48] ?_;refine bR 48 0 9001 44 3 (by decide) rfl rfl (by push_cast[d8,m4,l8,l9,o7,p8];exact rfl) ?_
     refine bR 48 1 9002 44 3 (by decide) rfl rfl (by push_cast[d8,m4,l8,l9,o7,p8];exact rfl) ?_
     refine bR 48 2 9003 44 3 (by decide) rfl rfl (by push_cast[d8,m4,l8,l9,o7,p8];exact rfl) ?_
     refine bR 48 3 9004 39 7 (by decide) rfl rfl (by push_cast[d8,m4,l8,l9,o7,p8];exact rfl) ?_
     refine goR 9001 rfl ?_;refine goR 9002 rfl ?_;refine goR 9003 rfl ?_;refine goA 1 ?_;push_cast;exact jC (id:=9004) rfl ⟨true,true,true,([],[],[]),[],_,rfl,rfl,rfl⟩
   ·have eu:uW A H S p 4=[(p,qRk (aV A p) (aV H p) (aV S p))]:=rfl
    have gA:=pU A p (by have:=hA.len;omega)
    have gH:=pU H p (by have:=hH.len;omega)
    have gS:=pU S p (by have:=hS.len;omega)
    have cm:=yA5 (aV A p) (aV H p) (aV S p) (fP hA p) (fP hH p) (fP hS p)
    generalize qRk (aV A p) (aV H p) (aV S p)=m at *
    generalize okM (jM (aV A p) (aV H p) (aV S p))=ok at *
    generalize aV A p=nA at *
    generalize aV H p=nH at *
    generalize aV S p=nS at *
    obtain ⟨m1,m2⟩:=m;obtain ⟨a1,a2⟩:=nA;obtain ⟨b1,b2⟩:=nH;obtain ⟨d1,d2⟩:=nS;refine goA 11 ?_;push_cast;refine cUt 1048 qC0 gA (.cons (aD (yT _)) (.cons (.v _) .nil)) ?_;push_cast;refine cUt 1072 qC0 gH (.cons (aD (yT _)) (.cons (.v _) .nil)) ?_;push_cast;refine cUt 1096 qC0 gS (.cons (aD (yT _)) (.cons (.v _) .nil)) ?_;push_cast;refine cUt 1104 yG3 cm (.cons (bJ (n:=(a1,a2))) (.cons (bJ (n:=(b1,b2))) (.cons (bJ (n:=(d1,d2))) .nil))) ?_;push_cast;refine goP [0,1,2,6,8,9,10,11,14,15,16,17] [48,64,216,9000,136] ?_;refine goA 3 ?_;push_cast;refine goP [0,1,2,6,8,9,10,11,14,15,16,19] [48,64,216,9000,1152] ?_;refine goR 1152 rfl ?_;rw [show ([[FV.v (.string p),.v (.int .i64 m1),.v (.string m2)]]:List (List FV))=aG (uW A H S p 4) by rw [eu];rfl]
    refine goA 7 ?_;push_cast;refine cUt 1200 qSd c0 (.cons (aD (yT _)) (.cons (.v _) (.cons (aD (yT _)) .nil))) ?_;push_cast;refine cUt 1272 qSd c1 (.cons (aD (yT _)) (.cons (.v _) (.cons (aD (yT _)) .nil))) ?_;push_cast;refine cUt 1344 qSd c2 (.cons (aD (yT _)) (.cons (.v _) (.cons (aD (yT _)) .nil))) ?_;push_cast;refine goP [0,1,2,6,8,9,10,14,15,16] [48,64,216,9000,1200,1272,1344] ?_;refine goR 1200 rfl ?_;refine goR 1272 rfl ?_;refine goR 1344 rfl ?_
    by_cases h0:dL x.1 p (uW A H S p 4)=0
    ·rw [h0];refine goA 3 ?_;push_cast
     by_cases h1:dL x.2.1 p (uW A H S p 4)=0
     ·rw [h1];refine goA 3 ?_;push_cast
      by_cases h2:dL x.2.2 p (uW A H S p 4)=0
      ·rw [h2];refine goA 3 ?_;push_cast
       have hp:cR p (uW A H S p 4) (ksW 4) x=((gR x.1 p (uW A H S p 4),gR x.2.1 p (uW A H S p 4),gR x.2.2 p (uW A H S p 4)),0):=by simp only [ksW,cR,t3,kQ,h0,h1,h2,Int.reduceEq,reduceIte];try rfl
       rw [hp,g8 rfl];refine goA 3 ?_;push_cast(disch:=omega);refine ⟨(i + 1,(gR x.1 p (uW A H S p 4),gR x.2.1 p (uW A H S p 4),gR x.2.2 p (uW A H S p 4)),C,true,true,true),by push_cast <;> rfl,⟨hlt,?_,by dsimp only;omega,rfl⟩,by dsimp only;omega⟩
       have:=tE (p:=p) hu (ksW 4) hx
       rw [hp] at this;exact this
      ·have hz:decide (dL x.2.2 p (uW A H S p 4)=0)=false:=b9 h2
       have hp:(cR p (uW A H S p 4) (ksW 4) x).2=dL x.2.2 p (uW A H S p 4):=by simp only [ksW,cR,t3,kQ,h0,h1,b7 h2,Int.reduceEq,reduceIte]
       rw [b7 (by rw [hp];exact h2),hp]
       generalize dL x.2.2 p (uW A H S p 4)=er at *
       refine goA 4 ?_;push_cast[hz];refine goP [6,7] [48] ?_;refine bR 48 0 9001 44 3 (by decide) rfl rfl (by push_cast[d8,m4,l8,l9,o7,p8];exact rfl) ?_
       refine bR 48 1 9002 44 3 (by decide) rfl rfl (by push_cast[d8,m4,l8,l9,o7,p8];exact rfl) ?_
       refine bR 48 2 9003 44 3 (by decide) rfl rfl (by push_cast[d8,m4,l8,l9,o7,p8];exact rfl) ?_
       refine bR 48 3 9004 39 7 (by decide) rfl rfl (by push_cast[d8,m4,l8,l9,o7,p8];exact rfl) ?_
       refine goR 9001 rfl ?_;refine goR 9002 rfl ?_;refine goR 9003 rfl ?_;refine goA 1 ?_;push_cast;exact jC (id:=9004) rfl ⟨true,true,true,([],[],[]),[],_,rfl,rfl,rfl⟩
     ·have hz:decide (dL x.2.1 p (uW A H S p 4)=0)=false:=b9 h1
      have hp:(cR p (uW A H S p 4) (ksW 4) x).2=dL x.2.1 p (uW A H S p 4):=by simp only [ksW,cR,t3,kQ,h0,b7 h1,Int.reduceEq,reduceIte]
      rw [b7 (by rw [hp];exact h1),hp]
      generalize dL x.2.1 p (uW A H S p 4)=er at *
      refine goA 4 ?_;push_cast[hz];refine goP [6,7] [48] ?_;refine bR 48 0 9001 44 3 (by decide) rfl rfl (by push_cast[d8,m4,l8,l9,o7,p8];exact rfl) ?_
      refine bR 48 1 9002 44 3 (by decide) rfl rfl (by push_cast[d8,m4,l8,l9,o7,p8];exact rfl) ?_
      refine bR 48 2 9003 44 3 (by decide) rfl rfl (by push_cast[d8,m4,l8,l9,o7,p8];exact rfl) ?_
      refine bR 48 3 9004 39 7 (by decide) rfl rfl (by push_cast[d8,m4,l8,l9,o7,p8];exact rfl) ?_
      refine goR 9001 rfl ?_;refine goR 9002 rfl ?_;refine goR 9003 rfl ?_;refine goA 1 ?_;push_cast;exact jC (id:=9004) rfl ⟨true,true,true,([],[],[]),[],_,rfl,rfl,rfl⟩
    ·have hz:decide (dL x.1 p (uW A H S p 4)=0)=false:=b9 h0
     have hp:(cR p (uW A H S p 4) (ksW 4) x).2=dL x.1 p (uW A H S p 4):=by simp only [ksW,cR,t3,kQ,b7 h0,Int.reduceEq,reduceIte]
     rw [b7 (by rw [hp];exact h0),hp]
     generalize dL x.1 p (uW A H S p 4)=er at *
     refine goA 4 ?_;push_cast[hz];refine goP [6,7] [48] ?_;refine bR 48 0 9001 44 3 (by decide) rfl rfl (by push_cast[d8,m4,l8,l9,o7,p8];exact rfl) ?_
     refine bR 48 1 9002 44 3 (by decide) rfl rfl (by push_cast[d8,m4,l8,l9,o7,p8];exact rfl) ?_
     refine bR 48 2 9003 44 3 (by decide) rfl rfl (by push_cast[d8,m4,l8,l9,o7,p8];exact rfl) ?_
     refine bR 48 3 9004 39 7 (by decide) rfl rfl (by push_cast[d8,m4,l8,l9,o7,p8];exact rfl) ?_
     refine goR 9001 rfl ?_;refine goR 9002 rfl ?_;refine goR 9003 rfl ?_;refine goA 1 ?_;push_cast;exact jC (id:=9004) rfl ⟨true,true,true,([],[],[]),[],_,rfl,rfl,rfl⟩
 |false =>
   have hn:w≠1∧w≠2∧w≠3∧w≠4:=by simpa [qHm,and_assoc] using hw
   rw [kU,b7 (by rw [hw];decide)]
   have rc:=zVb hA hH hS p sp2
   have fr:=zZf (qSi A H S p)
   generalize qSi A H S p=cf at *
   obtain ⟨cp,ch,cs,ct,cg⟩:=cf
   have z1:decide (w=1)=false:=b9 hn.1
   have z2:decide (w=2)=false:=b9 hn.2.1
   have z3:decide (w=3)=false:=b9 hn.2.2.1
   have z4:decide (w=4)=false:=b9 hn.2.2.2
   refine goA 9 ?_;push_cast[z1,z2,z3,z4];refine goP [0,1,2,6,8,9,10,11,14,15,16] [48,64,216,9000] ?_;refine qBb 8 mixed (by kernel_rfl) (fun K hK K1 hK1=>?_);push_cast
   refine yGm yK9 rc fr (fun ρ ρ' w A n v h=>zTm h) (.cons (aD (yT _)) (.cons (aD (yT _)) (.cons (aD (yT _)) (.cons (.v _) .nil)))) ?_
   simp only [cfF,d8,m4,zSl,qL0];with_reducible refine aS ?_;push_cast
   refine hK1 _ ?_;(try clear hK1 K1);with_reducible refine aS ?_;push_cast(disch:=omega)[qFg]
   refine ⟨fun x hx=>by rw [q6.1 hx];rfl,?_⟩
   refine hK _ ?_;clear hK K;refine goK 9 ?_;push_cast(disch:=omega);exact ⟨(i + 1,x,C ++ [⟨cp,ch,cs,ct,cg⟩],f0,f1,f2),by push_cast[← zS9] <;> rfl,⟨hlt,hx,by simp;omega,rfl⟩,by dsimp only;omega⟩
 ·have hne:i=L.length:=by omega
  subst hne;rw [bD0,kU];refine goA 5 ?_;push_cast(disch:=omega)[xS];exact jC rfl ⟨f0,f1,f2,x,C,0,rfl,rfl,rfl⟩
end Go.Proofs.Y
