/-
  The reference's merge: Chunks, walked.
-/
import Derived.Test.YtdfjeokjmigkaaaGreatLns
import Derived.Test.YtdfjeokjmigkaaaGreatMgE
import Derived.Test.YtdfjeokjmigkaaaGreatLnt
set_option linter.unusedSimpArgs false
set_option linter.unusedVariables false
set_option maxRecDepth 20000
namespace Go.DiffM
section
variable {α:Type} {o a b:List α}
theorem zL9 (cs:List (Ck α)) (s:α):(rD cs s).length≤cs.length + 1:=by
 rcases qFc cs s with ⟨pre,c,rfl,-,e⟩|⟨-,e⟩ <;> (rw [e];simp)
theorem qV4 (u:Cu α) (i j k:Nat):(lM o a b u i j k).out.length≤u.out.length + 1:=by
 unfold lM;dsimp only;split <;> simp
theorem zH4 (f:Ck α→List α) {cs:List (Ck α)} {c:Ck α} (h:c ∈ cs):(f c).length≤(cs.flatMap f).length:=by
 induction cs with
|nil=>simp at h
|cons d r ih =>
  rw [List.flatMap_cons,List.length_append]
  rcases List.mem_cons.1 h with rfl|h
  ·omega
  ·have:=ih h;omega
variable [Inhabited α]
theorem qM1:∀ (l:List (Nat × Nat × Nat)) (p q r:Nat) (u:Cu α),chT o a b (l ++ [(p,q,r)]) u=qWv (o.getD p default) (lM o a b (chT o a b l u) p q r)
|[],_,_,_,_=>rfl
|(i,j,k) :: l,p,q,r,u=>by rw [List.cons_append,chT,chT,qM1 l]
structure RI (o a b:List α) (T:List (Nat × Nat × Nat)) (n:Nat) (u:Cu α):Prop where
 pt:Pt o a b u
 hl:HL u
 tk:TK o a b (T.drop n) u.i u.j u.k
 len:u.out.length≤2 * n
theorem zHs {T:List (Nat × Nat × Nat)} (hT:TK o a b T 0 0 0):∀ n,n≤T.length→RI o a b T n (chT o a b (T.take n) ⟨0,0,0,[]⟩)
|0,_=>⟨⟨Nat.zero_le _,Nat.zero_le _,Nat.zero_le _,rfl,rfl,rfl,fun c h=>by simp [chT] at h,fun n h=>by simp [chT] at h⟩,fun c h=>by simp [chT] at h,by simpa [chT] using hT,by simp [chT]⟩
|n + 1,h=>by
  obtain ⟨h1,h2,h3,h4⟩:=zHs hT n (by omega)
  obtain ⟨p,q,r,e⟩:∃ p q r,T[n]=(p,q,r):=⟨T[n].1,T[n].2.1,T[n].2.2,rfl⟩;rw [List.take_succ_eq_append_getElem (by omega),e,qM1]
  rw [List.drop_eq_getElem_cons (by omega),e] at h3
  obtain ⟨k1,k2,k3,⟨k4,k5,k6,k7,k8⟩,k9⟩:=h3;generalize chT o a b (T.take n) ⟨0,0,0,[]⟩=u at *
  have hb:=qKb h1 h2 (i:=p) (j:=q) (k:=r) ⟨k1,by omega⟩ ⟨k2,by omega⟩ ⟨k3,by omega⟩
  have hs:o.getD p default=o[p]:=by simp [List.getD_eq_getElem?_getD,k4]
  rw [hs];obtain ⟨s1,s2⟩:=zBh (u:=lM o a b u p q r) hb k4 k5 k6 k7 k8;refine ⟨s1,s2,k9,?_⟩
  have a1:=zL9 (lM o a b u p q r).out o[p]
  have a2:=qV4 (o:=o) (a:=a) (b:=b) u p q r
  show (rD (lM o a b u p q r).out o[p]).length≤_
  omega
end
end Go.DiffM
namespace Go.Proofs.YtdfjeokjmigkaaaGreat
open Go Go.Eng Go.RowKit Go.DiffM


def rfE (x y z:ByteArray) (i:Nat):HS:=⟨[(0,.v (.string x)),(1,.v (.string y)),(2,.v (.string z)),(8,.lst true (aK [x,y,z])),(9,.v (.int .i64 i))],[]⟩
def rcE (o a b:List ByteArray) (T L:List (Nat × Nat × Nat)) (n:Nat):HS:=⟨[(10,.lst true (aK o)),(11,.lst true (aK a)),(12,.lst true (aK b)),(13,.lst true (jH L)),(14,.own 9000),(15,.v (.int .i64 (chT o a b (T.take n) ⟨0,0,0,[]⟩).i)),(16,.v (.int .i64 (chT o a b (T.take n) ⟨0,0,0,[]⟩).j)),(17,.v (.int .i64 (chT o a b (T.take n) ⟨0,0,0,[]⟩).k)),(18,.v (.int .i64 n))],[(9000,.sl true 77 4 (cks (chT o a b (T.take n) ⟨0,0,0,[]⟩).out))]⟩
set_option maxHeartbeats 8000000 in
theorem qTp (x y z:ByteArray) (hx:x.size≤4294967296) (hy:y.size≤4294967296) (hz:z.size≤4294967296):HFun Tryz.prog 48 [.v (.string x),.v (.string y),.v (.string z)] (fun h st =>
  (lP x y z≠0∧h=.tup [.v (.slice none 0 0),.v (.int .i64 (lP x y z))]∧st=[]) ∨
  (eG x=0∧eG y=0∧eG z=0∧h=.tup [.own 0,.v (.int .i64 0)]∧st=[(0,.sl true 77 4 (cks (aS x y z)))])):=by
 refine eF (N:=189) Tryz.func48 rfl Tryz.ntmps48 Tryz.results48 (by simp) ?_
 refine zE ?_;refine zJ (fun K hK=>?_);simp (disch:=omega) only [push_cast,↓Int.cast_ofNat_Int,simprocAttr];refine hK _ ?_
 refine zE ?_;refine zJ (fun K hK=>?_);simp (disch:=omega) only [push_cast,↓Int.cast_ofNat_Int,simprocAttr];refine hK _ ?_
 refine yB [0,1,2,8] [192] (by simp only [zZ,zR,zP,zQ,zN,zS,zM,zX,zU,Nat.reduceEqDiff,reduceIte];exact rfl) ?_
 refine cU 192 rfl (by simp only [dP,cJ,bH,bZ,bF,fD,cF,cG,bG,cE,cD,dQ,cH,cC,dL,dM,dN,Nat.reduceEqDiff,reduceIte,List.map_cons,List.map_nil,List.map_append];exact rfl) ?_
 refine zE ?_;refine zE ?_;refine zJ (fun K hK=>?_);simp (disch:=omega) only [push_cast,↓Int.cast_ofNat_Int,simprocAttr];refine hK _ ?_
 refine zA ?_;refine zD ?_;refine bR (rfE x y z) (fun i=>i≤3∧(0 < i→eG x=0)∧(1 < i→eG y=0)∧(2 < i→eG z=0)) (fun i=>3 - i) [0,1,2,8,9] [] 0 (by simp only [zZ,zR,zP,zQ,zN,zS,zM,zX,zU,Nat.reduceEqDiff,reduceIte,rfE];try rfl) ⟨by omega,by omega,by omega,by omega⟩ ?_
 rintro i ⟨hi,h0,h1,h2⟩;simp only [rfE]
 have hsl:(aK [x,y,z]).length=3:=rfl
 by_cases hlt:i < 3
 ·obtain ⟨s,hg,hss,hm,hn⟩:∃ s,(∀ d,(aK [x,y,z]).getD i d=[.v (.string s)])∧s.size≤4294967296∧(eG s≠0→lP x y z=eG s)∧(eG s=0→(0 < i + 1→eG x=0)∧(1 < i + 1→eG y=0)∧(2 < i + 1→eG z=0)):=by
   have hcs:i=0∨i=1∨i=2:=by omega
   rcases hcs with rfl|rfl|rfl
   ·exact ⟨x,fun d=>rfl,hx,fun h=>by rw [lP,if_pos h],fun h=>⟨fun _=>h,by omega,by omega⟩⟩
   ·exact ⟨y,fun d=>rfl,hy,fun h=>by rw [lP,if_neg (by rw [h0 (by omega)];simp),if_pos h],fun h=>⟨fun _=>h0 (by omega),fun _=>h,by omega⟩⟩
   ·exact ⟨z,fun d=>rfl,hz,fun h=>by rw [lP,if_neg (by rw [h0 (by omega)];simp),if_neg (by rw [h1 (by omega)];simp)],fun h=>⟨fun _=>h0 (by omega),fun _=>h1 (by omega),fun _=>h⟩⟩
  refine zE ?_;refine zE ?_;refine zJ (fun K hK=>?_);simp (disch:=omega) only [push_cast,↓Int.cast_ofNat_Int,simprocAttr];refine hK _ ?_
  refine zA ?_;refine yD rfl ?_;refine zC ?_;refine zE ?_;refine zD ?_;refine zE ?_;refine zJ (fun K hK=>?_);simp (disch:=omega) only [push_cast,↓Int.cast_ofNat_Int,simprocAttr,hsl,hg,bJ]
  refine aW zVx (qPo s hss) (.cons (.v _) .nil) ?_
  by_cases he:eG s=0
  ·with_reducible refine aB ?_;simp (disch:=omega) only [push_cast,↓Int.cast_ofNat_Int,simprocAttr,he]
   refine hK _ ?_;refine yC rfl ?_;refine zC ?_;refine zB ?_;refine zA ?_;refine zJ (fun K hK=>?_);simp (disch:=omega) only [push_cast,↓Int.cast_ofNat_Int,simprocAttr];refine hK _ ?_
   refine zA ?_;exact ⟨i + 1,by simp only [zZ,zR,zP,zQ,zN,zS,zM,zX,zU,Nat.reduceEqDiff,reduceIte,rfE];try rfl,⟨by omega,hn he⟩,by omega⟩
  ·with_reducible refine aB ?_;simp (disch:=omega) only [push_cast,↓Int.cast_ofNat_Int,simprocAttr]
   refine hK _ ?_;refine yD rfl ?_;refine zE ?_;refine zJ (fun K hK=>?_);simp (disch:=omega) only [push_cast,↓Int.cast_ofNat_Int,simprocAttr,hsl,hg,bJ]
   refine aW zVx (qPo s hss) (.cons (.v _) .nil) ?_;with_reducible refine aB ?_;simp (disch:=omega) only [push_cast,↓Int.cast_ofNat_Int,simprocAttr]
   refine hK _ ?_;refine zA ?_;refine zW ?_;refine zL ?_;refine zK ?_;refine zK ?_;refine zL ?_;refine zK ?_;simp only [yA,yM,yH,yE,aA,aC,yK,yJ,zS,zM,Nat.reduceEqDiff,reduceIte,reduceCtorEq];exact mT (.inl ⟨by rw [hm he];exact he,by rw [hm he],rfl⟩)
 ·obtain rfl:i=3:=by omega
  refine zE ?_;refine zE ?_;refine zJ (fun K hK=>?_);simp (disch:=omega) only [push_cast,↓Int.cast_ofNat_Int,simprocAttr];refine hK _ ?_
  refine zA ?_;refine yC rfl ?_;refine zT ?_;refine zG ?_;refine zG ?_;refine zH ?_;refine zE ?_
  have t0:=h0 (by omega)
  have t1:=h1 (by omega)
  have t2:=h2 (by omega)
  have l0:=eU t0
  have l1:=eU t1
  have l2:=eU t2
  refine yB [0,1,2] [] (by simp only [zZ,zR,zP,zQ,zN,zS,zM,zX,zU,Nat.reduceEqDiff,reduceIte];exact rfl) ?_
  refine zJ (fun K hK=>?_);simp (disch:=omega) only [push_cast,↓Int.cast_ofNat_Int,simprocAttr]
  refine hat 328 zQi (qBa x hx) (.cons (.v _) .nil) ?_;rintro _ _ ⟨rfl,rfl⟩;with_reducible refine aB ?_;simp (disch:=omega) only [push_cast,↓Int.cast_ofNat_Int,simprocAttr]
  refine hat 344 zQi (qBa y hy) (.cons (.v _) .nil) ?_;rintro _ _ ⟨rfl,rfl⟩;with_reducible refine aB ?_;simp (disch:=omega) only [push_cast,↓Int.cast_ofNat_Int,simprocAttr]
  refine hat 360 zQi (qBa z hz) (.cons (.v _) .nil) ?_;rintro _ _ ⟨rfl,rfl⟩;with_reducible refine aB ?_;simp (disch:=omega) only [push_cast,↓Int.cast_ofNat_Int,simprocAttr]
  refine hK _ ?_;refine yB [10,11,12] [328,344,360] (by simp only [zZ,zR,zP,zQ,zN,zS,zM,zX,zU,Nat.reduceEqDiff,reduceIte];exact rfl) ?_
  refine cU 328 rfl (by simp only [dP,cJ,bH,bZ,bF,fD,cF,cG,bG,cE,cD,dQ,cH,cC,dL,dM,dN,Nat.reduceEqDiff,reduceIte,List.map_cons,List.map_nil,List.map_append];exact rfl) ?_
  refine cU 344 rfl (by simp only [dP,cJ,bH,bZ,bF,fD,cF,cG,bG,cE,cD,dQ,cH,cC,dL,dM,dN,Nat.reduceEqDiff,reduceIte,List.map_cons,List.map_nil,List.map_append];exact rfl) ?_
  refine cU 360 rfl (by simp only [dP,cJ,bH,bZ,bF,fD,cF,cG,bG,cE,cD,dQ,cH,cC,dL,dM,dN,Nat.reduceEqDiff,reduceIte,List.map_cons,List.map_nil,List.map_append];exact rfl) ?_
  have hch:aS x y z=lY (bW x) (bW y) (bW z):=rfl
  rw [hch];clear hch h0 h1 h2 hx hy hz;generalize hO:bW x=o at *
  generalize hA:bW y=a at *
  generalize hB:bW z=b at *
  refine zE ?_;refine zJ (fun K hK=>?_);simp (disch:=omega) only [push_cast,↓Int.cast_ofNat_Int,simprocAttr]
  refine hat 392 zX2 (qTo o a b l0 l1 l2) (.cons (aH (aN _)) (.cons (aH (aN _)) (.cons (aH (aN _)) .nil))) ?_;rintro _ _ ⟨rfl,rfl⟩
  have hTK:TK o a b (tri (kn o a) (kn o b)) 0 0 0:=qKp _ (kn o a) (kn o b) 0 0 0 (Nat.le_refl _) (qX o a) (qX o b)
  have hTl:(tri (kn o a) (kn o b)).length≤160000:=by
   have h1:=(qX o a).len
   have h2:=(qX o b).len
   exact Nat.le_trans (zBe _ _) (Nat.le_trans (Nat.mul_le_mul (show (kn o a).length≤400 by omega) (show (kn o b).length≤400 by omega)) (by decide))
  have hfinal:lY o a b=(lM o a b (chT o a b (tri (kn o a) (kn o b)) ⟨0,0,0,[]⟩) o.length a.length b.length).out:=rfl
  generalize tri (kn o a) (kn o b)=T at *
  have htl:(jH T).length=T.length:=qDg T
  have hsn:jH T ++ [[.v (.int .i64 (o.length:Nat)),.v (.int .i64 (a.length:Nat)),.v (.int .i64 (b.length:Nat))]]=jH (T ++ [(o.length,a.length,b.length)]):=qKo T (o.length,a.length,b.length)
  have hw3:Wid 3 [[FV.v (.int .i64 (o.length:Nat)),FV.v (.int .i64 (a.length:Nat)),FV.v (.int .i64 (b.length:Nat))]]=True:=jB [(o.length,a.length,b.length)]
  with_reducible refine aB ?_;simp (disch:=omega) only [push_cast,↓Int.cast_ofNat_Int,simprocAttr,aF,htl,hsn,hw3]
  (repeat refine ⟨by first|omega|decide|((repeat' apply And.intro) <;> first|omega|decide),?_⟩)
  refine hK _ ?_;refine yB [10,11,12,13] [392] (by simp only [zZ,zR,zP,zQ,zN,zS,zM,zX,zU,Nat.reduceEqDiff,reduceIte];exact rfl) ?_
  refine cU 392 rfl (by simp only [dP,cJ,bH,bZ,bF,fD,cF,cG,bG,cE,cD,dQ,cH,cC,dL,dM,dN,Nat.reduceEqDiff,reduceIte,List.map_cons,List.map_nil,List.map_append];exact rfl) ?_
  refine zE ?_;refine zJ (fun K hK=>?_);simp (disch:=omega) only [push_cast,↓Int.cast_ofNat_Int,simprocAttr];refine hK _ ?_
  refine qE 14 9000 77 4 rfl (by simp only [oK,tJ,tK,gQ,fN,gG,fF,kG,gN,jD,gM,gK,iQ,gP,gJ,fM,iL,iN,iM,kF,kP,jC,Nat.reduceBEq,Nat.reduceEqDiff,reduceIte,cond_true,cond_false,List.map_cons,List.map_nil];exact rfl) ?_
  refine zE ?_;refine zJ (fun K hK=>?_);simp (disch:=omega) only [push_cast,↓Int.cast_ofNat_Int,simprocAttr];refine hK _ ?_
  refine zE ?_;refine zE ?_;refine zJ (fun K hK=>?_);simp (disch:=omega) only [push_cast,↓Int.cast_ofNat_Int,simprocAttr];refine hK _ ?_
  refine zA ?_;refine zD ?_;obtain ⟨L,hLd⟩:∃ L,L=T ++ [(o.length,a.length,b.length)]:=⟨_,rfl⟩;rw [← hLd]
  have hLlen:L.length=T.length + 1:=by rw [hLd];simp
  have hLlt:∀ n (h:n < T.length) (h':n < L.length),L[n]=T[n]:=fun n h h'=>by subst hLd;exact List.getElem_append_left h
  have hLe:∀ (h:T.length < L.length),L[T.length]=(o.length,a.length,b.length):=fun h=>by subst hLd;simp
  clear hLd hsn
  have hll:(jH L).length=T.length + 1:=by rw [qDg,hLlen]
  refine bR (rcE o a b T L) (fun n=>n≤T.length) (fun n=>T.length - n) [10,11,12,13,14,15,16,17,18] [9000] 0 (by simp only [zZ,zR,zP,zQ,zN,zS,zM,zX,zU,Nat.reduceEqDiff,reduceIte,rcE,List.take_zero,chT];try rfl) (Nat.zero_le _) ?_
  intro n hn
  have R:=zHs hTK n hn
  simp only [rcE]
  by_cases hnt:n < T.length
  ·obtain ⟨p,q,r,e⟩:∃ p q r,T[n]=(p,q,r):=⟨T[n].1,T[n].2.1,T[n].2.2,rfl⟩
   have hLn:L[n]'(by omega)=(p,q,r):=by rw [hLlt n hnt (by omega),e]
   have gL:∀ d,(jH L).getD n d=[.v (.int .i64 (p:Nat)),.v (.int .i64 (q:Nat)),.v (.int .i64 (r:Nat))]:=fun d=>by rw [qG9 (by omega),hLn]
   have hnx:chT o a b (T.take (n + 1)) ⟨0,0,0,[]⟩=qWv (o.getD p default) (lM o a b (chT o a b (T.take n) ⟨0,0,0,[]⟩) p q r):=by
    rw [List.take_succ_eq_append_getElem hnt,e,qM1]
   obtain ⟨R1,R2,R3,R4⟩:=R;rw [List.drop_eq_getElem_cons hnt,e] at R3;obtain ⟨k1,k2,k3,⟨k4,k5,k6,k7,k8⟩,k9⟩:=R3;generalize chT o a b (T.take n) ⟨0,0,0,[]⟩=u at *
   obtain ⟨ui,uj,uk,out⟩:=u;simp only at k1 k2 k3 R4
   have hs:o.getD p default=o[p]:=by simp [List.getD_eq_getElem?_getD,k4]
   rw [hs] at hnx
   have hbp:=qKb R1 R2 (i:=p) (j:=q) (k:=r) ⟨k1,by omega⟩ ⟨k2,by omega⟩ ⟨k3,by omega⟩
   have hbl:=qV4 (o:=o) (a:=a) (b:=b) ⟨ui,uj,uk,out⟩ p q r
   simp only at hbl
   have go:∀ d,(aK o).getD p d=[.v (.string o[p])]:=fun d=>eY k4
   refine zE ?_;refine zE ?_;refine zJ (fun K hK=>?_);simp (disch:=omega) only [push_cast,↓Int.cast_ofNat_Int,simprocAttr,hll];refine hK _ ?_
   refine zA ?_;refine yD rfl ?_;refine zC ?_;refine zE ?_;refine yB [10,11,12,13,14,15,16,17,18] [9000] (by simp only [zZ,zR,zP,zQ,zN,zS,zM,zX,zU,Nat.reduceEqDiff,reduceIte];exact rfl) ?_
   refine zD ?_;refine zE ?_;refine zRe o a b L n ui uj uk p q r out _ l0 l1 l2 (by omega) hLn (by omega) ⟨k1,by omega⟩ ⟨k2,by omega⟩ ⟨k3,by omega⟩ (by omega) (fun S' hE=>?_)
   refine zE ?_;refine yB [10,11,12,13,14,18] [9000] hE ?_;clear hE S'
   have hok:∀ c ∈ btO o a b ui uj uk p q r out,(c.st=true→c.b=c.l∧c.b=c.r)∧c.b.length≤400:=fun c hc=>⟨(hbp.ok c hc).2,by
    have h1:=zH4 (·.b) hc
    have h2:((btO o a b ui uj uk p q r out).flatMap (·.b)).length=_:=congrArg List.length hbp.pb
    rw [List.length_take] at h2;omega⟩
   have hb2:(btO o a b ui uj uk p q r out).length≤2 * n + 1:=by show (lM o a b ⟨ui,uj,uk,out⟩ p q r).out.length≤_;omega
   have hnx2:chT o a b (T.take (n + 1)) ⟨0,0,0,[]⟩=⟨p + 1,q + 1,r + 1,rD (btO o a b ui uj uk p q r out) o[p]⟩:=hnx
   clear hnx hbp;generalize btO o a b ui uj uk p q r out=out2 at *
   refine mZ 18 [] [[(9000,.sl true 77 4 (cks out2))]] [(0,0,0),(1,0,0),(2,0,0),(3,0,0),(4,0,0),(5,0,0),(6,0,0),(7,0,0),(8,0,0),(9,0,0),(10,0,0),(11,0,0),(12,0,0),(13,0,0),(14,0,0),(15,0,0),(16,0,0),(17,0,0)] mixed (by kernel_rfl) (by kernel_rfl) rfl (fun K hK K1 hK1=>?_);simp (disch:=omega) only [push_cast,↓Int.cast_ofNat_Int,simprocAttr,dB,cM,eB,cZ,fQ,lQ,cY,cL,aT,aZ,bP,aU,aV,fR,dC,dK,eE,eD,cP,bC,bQ,fV,fU,fT,dD,dE,dJ,dG,fW,cW,dF,eC,List.tail_cons,List.take_nil,List.drop_nil,Nat.sub_self,Nat.le_refl,hll,gL,jB]
   refine hK1 _ ?_;(try clear hK1 K1);with_reducible refine aB ?_;simp (disch:=omega) only [push_cast,↓Int.cast_ofNat_Int,simprocAttr]
   refine hK _ ?_;refine yB [10,11,12,13,14,15,16,17,18] [9000] (by simp only [zZ,zR,zP,zQ,zN,zS,zM,zX,zU,Nat.reduceEqDiff,reduceIte];exact rfl) ?_
   refine zE ?_;refine zE ?_;refine zJ (fun K hK=>?_);simp (disch:=omega) only [push_cast,↓Int.cast_ofNat_Int,simprocAttr,hll];refine hK _ ?_
   refine zA ?_;refine yC rfl ?_;refine zC ?_;refine zE ?_;refine zJ (fun K hK=>?_);simp (disch:=omega) only [push_cast,↓Int.cast_ofNat_Int,simprocAttr,aF,bJ,go];refine hK _ ?_
   refine yB [10,11,12,13,14,15,16,17,18,19] [1136,9000] (by simp only [zZ,zR,zP,zQ,zN,zS,zM,zX,zU,Nat.reduceEqDiff,reduceIte];exact rfl) ?_
   refine cU 1136 rfl (by simp only [dP,cJ,bH,bZ,bF,fD,cF,cG,bG,cE,cD,dQ,cH,cC,dL,dM,dN,Nat.reduceEqDiff,reduceIte,List.map_cons,List.map_nil,List.map_append];exact rfl) ?_
   refine zE ?_;refine zJ (fun K hK=>?_);simp (disch:=omega) only [push_cast,↓Int.cast_ofNat_Int,simprocAttr,iE];refine hK _ ?_
   refine yB [10,11,12,13,14,15,16,17,18,19,20] [9000] (by simp only [zZ,zR,zP,zQ,zN,zS,zM,zX,zU,Nat.reduceEqDiff,reduceIte];exact rfl) ?_
   refine zE ?_;refine zU5 o a b L n p q r o[p] out2 _ l0 k4 rfl (by omega) hok (fun S' hE=>?_)
   refine zE ?_;refine yB [10,11,12,13,14,15,16,17,18] [9000] hE ?_;clear hE S';refine zJ (fun K hK=>?_);simp (disch:=omega) only [push_cast,↓Int.cast_ofNat_Int,simprocAttr];refine hK _ ?_
   refine zE ?_;refine zJ (fun K hK=>?_);simp (disch:=omega) only [push_cast,↓Int.cast_ofNat_Int,simprocAttr];refine hK _ ?_
   refine zA ?_;refine zJ (fun K hK=>?_);simp (disch:=omega) only [push_cast,↓Int.cast_ofNat_Int,simprocAttr];refine hK _ ?_
   refine zB ?_;refine zA ?_;refine zJ (fun K hK=>?_);simp (disch:=omega) only [push_cast,↓Int.cast_ofNat_Int,simprocAttr];refine hK _ ?_
   refine zA ?_;exact ⟨n + 1,by simp only [zZ,zR,zP,zQ,zN,zS,zM,zX,zU,Nat.reduceEqDiff,reduceIte,rcE];rw [hnx2];try rfl,hnt,by omega⟩
  ·obtain rfl:n=T.length:=by omega
   rw [List.take_length] at R ⊢
   have gL:∀ d,(jH L).getD T.length d=[.v (.int .i64 (o.length:Nat)),.v (.int .i64 (a.length:Nat)),.v (.int .i64 (b.length:Nat))]:=fun d=>by rw [qG9 (by omega),hLe (by omega)]
   obtain ⟨R1,R2,R3,R4⟩:=R;generalize chT o a b T ⟨0,0,0,[]⟩=u at *
   obtain ⟨ui,uj,uk,out⟩:=u
   have k1:=R1.i
   have k2:=R1.j
   have k3:=R1.k
   simp only at k1 k2 k3 R4;refine zE ?_;refine zE ?_;refine zJ (fun K hK=>?_);simp (disch:=omega) only [push_cast,↓Int.cast_ofNat_Int,simprocAttr,hll];refine hK _ ?_
   refine zA ?_;refine yD rfl ?_;refine zC ?_;refine zE ?_;refine yB [10,11,12,13,14,15,16,17,18] [9000] (by simp only [zZ,zR,zP,zQ,zN,zS,zM,zX,zU,Nat.reduceEqDiff,reduceIte];exact rfl) ?_
   refine zD ?_;refine zE ?_;refine zRe o a b L T.length ui uj uk o.length a.length b.length out _ l0 l1 l2 (by omega) (hLe (by omega)) (by omega) ⟨k1,by omega⟩ ⟨k2,by omega⟩ ⟨k3,by omega⟩ (by omega) (fun S' hE=>?_)
   refine zE ?_;refine yB [10,11,12,13,14,18] [9000] hE ?_;clear hE S';rw [show btO o a b ui uj uk o.length a.length b.length out=lY o a b from hfinal.symm]
   refine mZ 18 [] [[(9000,.sl true 77 4 (cks (lY o a b)))]] [(0,0,0),(1,0,0),(2,0,0),(3,0,0),(4,0,0),(5,0,0),(6,0,0),(7,0,0),(8,0,0),(9,0,0),(10,0,0),(11,0,0),(12,0,0),(13,0,0),(14,0,0),(15,0,0),(16,0,0),(17,0,0)] mixed (by kernel_rfl) (by kernel_rfl) rfl (fun K hK K1 hK1=>?_);simp (disch:=omega) only [push_cast,↓Int.cast_ofNat_Int,simprocAttr,dB,cM,eB,cZ,fQ,lQ,cY,cL,aT,aZ,bP,aU,aV,fR,dC,dK,eE,eD,cP,bC,bQ,fV,fU,fT,dD,dE,dJ,dG,fW,cW,dF,eC,List.tail_cons,List.take_nil,List.drop_nil,Nat.sub_self,Nat.le_refl,hll,gL,jB]
   refine hK1 _ ?_;(try clear hK1 K1);with_reducible refine aB ?_;simp (disch:=omega) only [push_cast,↓Int.cast_ofNat_Int,simprocAttr]
   refine hK _ ?_;refine yB [10,11,12,13,14,15,16,17,18] [9000] (by simp only [zZ,zR,zP,zQ,zN,zS,zM,zX,zU,Nat.reduceEqDiff,reduceIte];exact rfl) ?_
   refine zE ?_;refine zE ?_;refine zJ (fun K hK=>?_);simp (disch:=omega) only [push_cast,↓Int.cast_ofNat_Int,simprocAttr,hll];refine hK _ ?_
   refine zA ?_;refine yD rfl ?_;refine zT ?_;refine zG ?_;refine zF rfl ?_;refine zG ?_;refine zG ?_;refine zH ?_;refine zE ?_;refine yB [14] [9000] (by simp only [zZ,zR,zP,zQ,zN,zS,zM,zX,zU,Nat.reduceEqDiff,reduceIte];exact rfl) ?_
   refine zJ (fun K hK=>?_);simp (disch:=omega) only [push_cast,↓Int.cast_ofNat_Int,simprocAttr];refine hK _ ?_
   refine zA ?_;refine zW ?_;simp only [yA,yM,yH,yE,aA,aC,yK,yJ,zS,zM,Nat.reduceEqDiff,reduceIte,reduceCtorEq];exact qBk rfl (qD4 _) (.inr ⟨t0,t1,t2,rfl,rfl⟩)
end Go.Proofs.YtdfjeokjmigkaaaGreat
