/-
  The reference's merge: Chunks, walked.
-/
import Derived.Test.YtmgilahhnbopmaaMrB
import Derived.Test.YtmgilahhnbopmaaMgE
import Derived.Test.YtmgilahhnbopmaaLnt
set_option linter.unusedSimpArgs false
set_option linter.unusedVariables false
set_option maxRecDepth 20000
namespace Go.DiffM
section
variable {α:Type} {o a b:List α}
theorem zF1 (cs:List (Ck α)) (s:α):(mG cs s).length≤cs.length + 1:=by
 rcases qCw cs s with ⟨pre,c,rfl,-,e⟩|⟨-,e⟩ <;> (rw [e];simp)
theorem qWu (u:Cu α) (i j k:Nat):(gX o a b u i j k).out.length≤u.out.length + 1:=by
 unfold gX;dsimp only;split <;> simp
theorem zD1 (f:Ck α→List α) {cs:List (Ck α)} {c:Ck α} (h:c ∈ cs):(f c).length≤(cs.flatMap f).length:=by
 induction cs with
|nil=>simp at h
|cons d r ih =>
  rw [List.flatMap_cons,List.length_append]
  rcases List.mem_cons.1 h with rfl|h
  ·omega
  ·have:=ih h;omega
variable [Inhabited α]
theorem qM0:∀ (l:List (Nat × Nat × Nat)) (p q r:Nat) (u:Cu α),chT o a b (l ++ [(p,q,r)]) u=qXm (o.getD p default) (gX o a b (chT o a b l u) p q r)
|[],_,_,_,_=>rfl
|(i,j,k) :: l,p,q,r,u=>by rw [List.cons_append,chT,chT,qM0 l]
structure RI (o a b:List α) (T:List (Nat × Nat × Nat)) (n:Nat) (u:Cu α):Prop where
 pt:Pt o a b u
 hl:HL u
 tk:TK o a b (T.drop n) u.i u.j u.k
 len:u.out.length≤2 * n
theorem zDe {T:List (Nat × Nat × Nat)} (hT:TK o a b T 0 0 0):∀ n,n≤T.length→RI o a b T n (chT o a b (T.take n) ⟨0,0,0,[]⟩)
|0,_=>⟨⟨Nat.zero_le _,Nat.zero_le _,Nat.zero_le _,rfl,rfl,rfl,fun c h=>by simp [chT] at h,fun n h=>by simp [chT] at h⟩,fun c h=>by simp [chT] at h,by simpa [chT] using hT,by simp [chT]⟩
|n + 1,h=>by
  obtain ⟨h1,h2,h3,h4⟩:=zDe hT n (by omega)
  obtain ⟨p,q,r,e⟩:∃ p q r,T[n]=(p,q,r):=⟨T[n].1,T[n].2.1,T[n].2.2,rfl⟩;rw [List.take_succ_eq_append_getElem (by omega),e,qM0]
  rw [List.drop_eq_getElem_cons (by omega),e] at h3
  obtain ⟨k1,k2,k3,⟨k4,k5,k6,k7,k8⟩,k9⟩:=h3;generalize chT o a b (T.take n) ⟨0,0,0,[]⟩=u at *
  have hb:=qHh h1 h2 (i:=p) (j:=q) (k:=r) ⟨k1,by omega⟩ ⟨k2,by omega⟩ ⟨k3,by omega⟩
  have hs:o.getD p default=o[p]:=by simp [List.getD_eq_getElem?_getD,k4]
  rw [hs];obtain ⟨s1,s2⟩:=qY1 (u:=gX o a b u p q r) hb k4 k5 k6 k7 k8;refine ⟨s1,s2,k9,?_⟩
  have a1:=zF1 (gX o a b u p q r).out o[p]
  have a2:=qWu (o:=o) (a:=a) (b:=b) u p q r
  show (mG (gX o a b u p q r).out o[p]).length≤_
  omega
end
end Go.DiffM
namespace Go.Proofs.Ytmgilahhnbopmaa
open Go Go.Eng Go.RowKit Go.DiffM


def rfE (x y z:ByteArray) (i:Nat):HS:=⟨[(0,.v (.string x)),(1,.v (.string y)),(2,.v (.string z)),(8,.lst true (aD [x,y,z])),(9,.v (.int .i64 i))],[]⟩
def rcE (o a b:List ByteArray) (T L:List (Nat × Nat × Nat)) (n:Nat):HS:=⟨[(10,.lst true (aD o)),(11,.lst true (aD a)),(12,.lst true (aD b)),(13,.lst true (iZ L)),(14,.own 9000),(15,.v (.int .i64 (chT o a b (T.take n) ⟨0,0,0,[]⟩).i)),(16,.v (.int .i64 (chT o a b (T.take n) ⟨0,0,0,[]⟩).j)),(17,.v (.int .i64 (chT o a b (T.take n) ⟨0,0,0,[]⟩).k)),(18,.v (.int .i64 n))],[(9000,.sl true 33 4 (cks (chT o a b (T.take n) ⟨0,0,0,[]⟩).out))]⟩
set_option maxHeartbeats 8000000 in
theorem qTz (x y z:ByteArray) (hx:x.size≤4294967296) (hy:y.size≤4294967296) (hz:z.size≤4294967296):HFun Try.prog 5 [.v (.string x),.v (.string y),.v (.string z)] (fun h st =>
  (fK x y z≠0∧h=.tup [.v (.slice none 0 0),.v (.int .i64 (fK x y z))]∧st=[]) ∨
  (cH x=0∧cH y=0∧cH z=0∧h=.tup [.own 0,.v (.int .i64 0)]∧st=[(0,.sl true 33 4 (cks (cQ x y z)))])):=by
 refine rT (N:=189) Try.func5 rfl Try.ntmps5 Try.results5 (by simp) ?_
 refine zE ?_;refine zJ (fun K hK=>?_);simp (disch:=omega) only [push_cast,↓iC9,simprocAttr];refine hK _ ?_;clear hK K
 refine zE ?_;refine zJ (fun K hK=>?_);simp (disch:=omega) only [push_cast,↓iC9,simprocAttr];refine hK _ ?_;clear hK K
 refine yB [0,1,2,8] [192] (by simp only [zZ,zR,zP,zQ,zN,zS,zM,zX,zU,Nat.reduceEqDiff,reduceIte];exact rfl) ?_
 refine dE 192 rfl (by simp only [bJ,bC,aL,aT,aJ,cC,aX,aY,aK,aW,aV,bK,aZ,aU,bF,bG,bH,Nat.reduceEqDiff,reduceIte,List.map_cons,List.map_nil,List.map_append];exact rfl) ?_
 refine zE ?_;refine zE ?_;refine zJ (fun K hK=>?_);simp (disch:=omega) only [push_cast,↓iC9,simprocAttr];refine hK _ ?_;clear hK K
 refine zA ?_;refine zD ?_;refine fS (rfE x y z) (fun i=>i≤3∧(0 < i→cH x=0)∧(1 < i→cH y=0)∧(2 < i→cH z=0)) (fun i=>3 - i) [0,1,2,8,9] [] 0 (by simp only [zZ,zR,zP,zQ,zN,zS,zM,zX,zU,Nat.reduceEqDiff,reduceIte,rfE];try rfl) ⟨by omega,by omega,by omega,by omega⟩ ?_
 rintro i ⟨hi,h0,h1,h2⟩;simp only [rfE]
 have hsl:(aD [x,y,z]).length=3:=rfl
 by_cases hlt:i < 3
 ·obtain ⟨s,hg,hss,hm,hn⟩:∃ s,(∀ d,(aD [x,y,z]).getD i d=[.v (.string s)])∧s.size≤4294967296∧(cH s≠0→fK x y z=cH s)∧(cH s=0→(0 < i + 1→cH x=0)∧(1 < i + 1→cH y=0)∧(2 < i + 1→cH z=0)):=by
   have hcs:i=0∨i=1∨i=2:=by omega
   rcases hcs with rfl|rfl|rfl
   ·exact ⟨x,fun d=>rfl,hx,fun h=>by rw [fK,if_pos h],fun h=>⟨fun _=>h,by omega,by omega⟩⟩
   ·exact ⟨y,fun d=>rfl,hy,fun h=>by rw [fK,if_neg (by rw [h0 (by omega)];simp),if_pos h],fun h=>⟨fun _=>h0 (by omega),fun _=>h,by omega⟩⟩
   ·exact ⟨z,fun d=>rfl,hz,fun h=>by rw [fK,if_neg (by rw [h0 (by omega)];simp),if_neg (by rw [h1 (by omega)];simp)],fun h=>⟨fun _=>h0 (by omega),fun _=>h1 (by omega),fun _=>h⟩⟩
  refine zE ?_;refine zE ?_;refine zJ (fun K hK=>?_);simp (disch:=omega) only [push_cast,↓iC9,simprocAttr];refine hK _ ?_;clear hK K
  refine zA ?_;refine yD rfl ?_;refine zC ?_;refine zE ?_;refine zD ?_;refine zE ?_;refine zJ (fun K hK=>?_);simp (disch:=omega) only [push_cast,↓iC9,simprocAttr,hsl,hg,bE]
  refine tZ zK6 (qN4 s hss) (.cons (.v _) .nil) ?_
  by_cases he:cH s=0
  ·with_reducible refine aH ?_;simp (disch:=omega) only [push_cast,↓iC9,simprocAttr,he]
   refine hK _ ?_;clear hK K;refine yC rfl ?_;refine zC ?_;refine zB ?_;refine zA ?_;refine zJ (fun K hK=>?_);simp (disch:=omega) only [push_cast,↓iC9,simprocAttr];refine hK _ ?_;clear hK K
   refine zA ?_;exact ⟨i + 1,by simp only [zZ,zR,zP,zQ,zN,zS,zM,zX,zU,Nat.reduceEqDiff,reduceIte,rfE];try rfl,⟨by omega,hn he⟩,by omega⟩
  ·with_reducible refine aH ?_;simp (disch:=omega) only [push_cast,↓iC9,simprocAttr]
   refine hK _ ?_;clear hK K;refine yD rfl ?_;refine zE ?_;refine zJ (fun K hK=>?_);simp (disch:=omega) only [push_cast,↓iC9,simprocAttr,hsl,hg,bE]
   refine tZ zK6 (qN4 s hss) (.cons (.v _) .nil) ?_;with_reducible refine aH ?_;simp (disch:=omega) only [push_cast,↓iC9,simprocAttr]
   refine hK _ ?_;clear hK K;refine zA ?_;refine zW ?_;refine zL ?_;refine zK ?_;refine zK ?_;refine zL ?_;refine zK ?_;simp only [yA,yM,yH,yE,aR,bT,yK,yJ,zS,zM,Nat.reduceEqDiff,reduceIte,reduceCtorEq];exact tD (.inl ⟨by rw [hm he];exact he,by rw [hm he],rfl⟩)
 ·obtain rfl:i=3:=by omega
  refine zE ?_;refine zE ?_;refine zJ (fun K hK=>?_);simp (disch:=omega) only [push_cast,↓iC9,simprocAttr];refine hK _ ?_;clear hK K
  refine zA ?_;refine yC rfl ?_;refine zT ?_;refine zG ?_;refine zG ?_;refine zH ?_;refine zE ?_
  have t0:=h0 (by omega)
  have t1:=h1 (by omega)
  have t2:=h2 (by omega)
  have l0:=dX t0
  have l1:=dX t1
  have l2:=dX t2
  refine yB [0,1,2] [] (by simp only [zZ,zR,zP,zQ,zN,zS,zM,zX,zU,Nat.reduceEqDiff,reduceIte];exact rfl) ?_
  refine zJ (fun K hK=>?_);simp (disch:=omega) only [push_cast,↓iC9,simprocAttr]
  refine hat 328 zG7 (wW x hx) (.cons (.v _) .nil) ?_;rintro _ _ ⟨rfl,rfl⟩;with_reducible refine aH ?_;simp (disch:=omega) only [push_cast,↓iC9,simprocAttr]
  refine hat 344 zG7 (wW y hy) (.cons (.v _) .nil) ?_;rintro _ _ ⟨rfl,rfl⟩;with_reducible refine aH ?_;simp (disch:=omega) only [push_cast,↓iC9,simprocAttr]
  refine hat 360 zG7 (wW z hz) (.cons (.v _) .nil) ?_;rintro _ _ ⟨rfl,rfl⟩;with_reducible refine aH ?_;simp (disch:=omega) only [push_cast,↓iC9,simprocAttr]
  refine hK _ ?_;clear hK K;refine yB [10,11,12] [328,344,360] (by simp only [zZ,zR,zP,zQ,zN,zS,zM,zX,zU,Nat.reduceEqDiff,reduceIte];exact rfl) ?_
  refine dE 328 rfl (by simp only [bJ,bC,aL,aT,aJ,cC,aX,aY,aK,aW,aV,bK,aZ,aU,bF,bG,bH,Nat.reduceEqDiff,reduceIte,List.map_cons,List.map_nil,List.map_append];exact rfl) ?_
  refine dE 344 rfl (by simp only [bJ,bC,aL,aT,aJ,cC,aX,aY,aK,aW,aV,bK,aZ,aU,bF,bG,bH,Nat.reduceEqDiff,reduceIte,List.map_cons,List.map_nil,List.map_append];exact rfl) ?_
  refine dE 360 rfl (by simp only [bJ,bC,aL,aT,aJ,cC,aX,aY,aK,aW,aV,bK,aZ,aU,bF,bG,bH,Nat.reduceEqDiff,reduceIte,List.map_cons,List.map_nil,List.map_append];exact rfl) ?_
  have hch:cQ x y z=gJ (dA x) (dA y) (dA z):=rfl
  rw [hch];clear hch h0 h1 h2 hx hy hz;generalize hO:dA x=o at *
  generalize hA:dA y=a at *
  generalize hB:dA z=b at *
  refine zE ?_;refine zJ (fun K hK=>?_);simp (disch:=omega) only [push_cast,↓iC9,simprocAttr]
  refine hat 392 zLz (qTy o a b l0 l1 l2) (.cons (dF (aQ _)) (.cons (dF (aQ _)) (.cons (dF (aQ _)) .nil))) ?_;rintro _ _ ⟨rfl,rfl⟩
  have hTK:TK o a b (tri (kn o a) (kn o b)) 0 0 0:=qHo _ (kn o a) (kn o b) 0 0 0 (Nat.le_refl _) (oM o a) (oM o b)
  have hTl:(tri (kn o a) (kn o b)).length≤160000:=by
   have h1:=(oM o a).len
   have h2:=(oM o b).len
   exact Nat.le_trans (qYx _ _) (Nat.le_trans (Nat.mul_le_mul (show (kn o a).length≤400 by omega) (show (kn o b).length≤400 by omega)) (by decide))
  have hfinal:gJ o a b=(gX o a b (chT o a b (tri (kn o a) (kn o b)) ⟨0,0,0,[]⟩) o.length a.length b.length).out:=rfl
  generalize tri (kn o a) (kn o b)=T at *
  have htl:(iZ T).length=T.length:=qBf T
  have hsn:iZ T ++ [[.v (.int .i64 (o.length:Nat)),.v (.int .i64 (a.length:Nat)),.v (.int .i64 (b.length:Nat))]]=iZ (T ++ [(o.length,a.length,b.length)]):=qHn T (o.length,a.length,b.length)
  have hw3:Wid 3 [[FV.v (.int .i64 (o.length:Nat)),FV.v (.int .i64 (a.length:Nat)),FV.v (.int .i64 (b.length:Nat))]]=True:=iP [(o.length,a.length,b.length)]
  with_reducible refine aH ?_;simp (disch:=omega) only [push_cast,↓iC9,simprocAttr,aA,htl,hsn,hw3]
  (repeat refine ⟨by first|omega|decide|((repeat' apply And.intro) <;> first|omega|decide),?_⟩)
  refine hK _ ?_;clear hK K;refine yB [10,11,12,13] [392] (by simp only [zZ,zR,zP,zQ,zN,zS,zM,zX,zU,Nat.reduceEqDiff,reduceIte];exact rfl) ?_
  refine dE 392 rfl (by simp only [bJ,bC,aL,aT,aJ,cC,aX,aY,aK,aW,aV,bK,aZ,aU,bF,bG,bH,Nat.reduceEqDiff,reduceIte,List.map_cons,List.map_nil,List.map_append];exact rfl) ?_
  refine zE ?_;refine zJ (fun K hK=>?_);simp (disch:=omega) only [push_cast,↓iC9,simprocAttr];refine hK _ ?_;clear hK K
  refine qB0 14 9000 33 4 rfl (by simp only [sZ,yZ,qAb,mE,jZ,gK,fL,jN,gP,mA,gN,gM,oQ,mB,lZ,fR,iC,iE,iD,jM,oN,lX,Nat.reduceBEq,Nat.reduceEqDiff,reduceIte,cond_true,cond_false,List.map_cons,List.map_nil];exact rfl) ?_
  refine zE ?_;refine zJ (fun K hK=>?_);simp (disch:=omega) only [push_cast,↓iC9,simprocAttr];refine hK _ ?_;clear hK K
  refine zE ?_;refine zE ?_;refine zJ (fun K hK=>?_);simp (disch:=omega) only [push_cast,↓iC9,simprocAttr];refine hK _ ?_;clear hK K
  refine zA ?_;refine zD ?_;obtain ⟨L,hLd⟩:∃ L,L=T ++ [(o.length,a.length,b.length)]:=⟨_,rfl⟩;rw [← hLd]
  have hLlen:L.length=T.length + 1:=by rw [hLd];simp
  have hLlt:∀ n (h:n < T.length) (h':n < L.length),L[n]=T[n]:=fun n h h'=>by subst hLd;exact List.getElem_append_left h
  have hLe:∀ (h:T.length < L.length),L[T.length]=(o.length,a.length,b.length):=fun h=>by subst hLd;simp
  clear hLd hsn
  have hll:(iZ L).length=T.length + 1:=by rw [qBf,hLlen]
  refine fS (rcE o a b T L) (fun n=>n≤T.length) (fun n=>T.length - n) [10,11,12,13,14,15,16,17,18] [9000] 0 (by simp only [zZ,zR,zP,zQ,zN,zS,zM,zX,zU,Nat.reduceEqDiff,reduceIte,rcE,List.take_zero,chT];try rfl) (Nat.zero_le _) ?_
  intro n hn
  have R:=zDe hTK n hn
  simp only [rcE]
  by_cases hnt:n < T.length
  ·obtain ⟨p,q,r,e⟩:∃ p q r,T[n]=(p,q,r):=⟨T[n].1,T[n].2.1,T[n].2.2,rfl⟩
   have hLn:L[n]'(by omega)=(p,q,r):=by rw [hLlt n hnt (by omega),e]
   have gL:∀ d,(iZ L).getD n d=[.v (.int .i64 (p:Nat)),.v (.int .i64 (q:Nat)),.v (.int .i64 (r:Nat))]:=fun d=>by rw [qEp (by omega),hLn]
   have hnx:chT o a b (T.take (n + 1)) ⟨0,0,0,[]⟩=qXm (o.getD p default) (gX o a b (chT o a b (T.take n) ⟨0,0,0,[]⟩) p q r):=by
    rw [List.take_succ_eq_append_getElem hnt,e,qM0]
   obtain ⟨R1,R2,R3,R4⟩:=R;rw [List.drop_eq_getElem_cons hnt,e] at R3;obtain ⟨k1,k2,k3,⟨k4,k5,k6,k7,k8⟩,k9⟩:=R3;generalize chT o a b (T.take n) ⟨0,0,0,[]⟩=u at *
   obtain ⟨ui,uj,uk,out⟩:=u;simp only at k1 k2 k3 R4
   have hs:o.getD p default=o[p]:=by simp [List.getD_eq_getElem?_getD,k4]
   rw [hs] at hnx
   have hbp:=qHh R1 R2 (i:=p) (j:=q) (k:=r) ⟨k1,by omega⟩ ⟨k2,by omega⟩ ⟨k3,by omega⟩
   have hbl:=qWu (o:=o) (a:=a) (b:=b) ⟨ui,uj,uk,out⟩ p q r
   simp only at hbl
   have go:∀ d,(aD o).getD p d=[.v (.string o[p])]:=fun d=>fT k4
   refine zE ?_;refine zE ?_;refine zJ (fun K hK=>?_);simp (disch:=omega) only [push_cast,↓iC9,simprocAttr,hll];refine hK _ ?_;clear hK K
   refine zA ?_;refine yD rfl ?_;refine zC ?_;refine zE ?_;refine yB [10,11,12,13,14,15,16,17,18] [9000] (by simp only [zZ,zR,zP,zQ,zN,zS,zM,zX,zU,Nat.reduceEqDiff,reduceIte];exact rfl) ?_
   refine zD ?_;refine zE ?_;refine zHo o a b L n ui uj uk p q r out _ l0 l1 l2 (by omega) hLn (by omega) ⟨k1,by omega⟩ ⟨k2,by omega⟩ ⟨k3,by omega⟩ (by omega) (fun S' hE=>?_)
   refine zE ?_;refine yB [10,11,12,13,14,18] [9000] hE ?_;clear hE S'
   have hok:∀ c ∈ btO o a b ui uj uk p q r out,(c.st=true→c.b=c.l∧c.b=c.r)∧c.b.length≤400:=fun c hc=>⟨(hbp.ok c hc).2,by
    have h1:=zD1 (·.b) hc
    have h2:((btO o a b ui uj uk p q r out).flatMap (·.b)).length=_:=congrArg List.length hbp.pb
    rw [List.length_take] at h2;omega⟩
   have hb2:(btO o a b ui uj uk p q r out).length≤2 * n + 1:=by show (gX o a b ⟨ui,uj,uk,out⟩ p q r).out.length≤_;omega
   have hnx2:chT o a b (T.take (n + 1)) ⟨0,0,0,[]⟩=⟨p + 1,q + 1,r + 1,mG (btO o a b ui uj uk p q r out) o[p]⟩:=hnx
   clear hnx hbp;generalize btO o a b ui uj uk p q r out=out2 at *
   refine lL 18 [] [[(9000,.sl true 33 4 (cks out2))]] [(0,0,0),(1,0,0),(2,0,0),(3,0,0),(4,0,0),(5,0,0),(6,0,0),(7,0,0),(8,0,0),(9,0,0),(10,0,0),(11,0,0),(12,0,0),(13,0,0),(14,0,0),(15,0,0),(16,0,0),(17,0,0)] mixed (by kernel_rfl) (by kernel_rfl) rfl (fun K hK K1 hK1=>?_);simp (disch:=omega) only [push_cast,↓iC9,simprocAttr,dN,cX,eQ,dM,gA,kX,dK,cV,bN,bU,cJ,bP,bQ,gB,dP,dV,eX,eW,cY,bV,cK,gE,gD,gC,dQ,dR,dU,dT,gF,dH,dS,eV,List.tail_cons,List.take_nil,List.drop_nil,Nat.sub_self,Nat.le_refl,hll,gL,iP]
   refine hK1 _ ?_;(try clear hK1 K1);with_reducible refine aH ?_;simp (disch:=omega) only [push_cast,↓iC9,simprocAttr]
   refine hK _ ?_;clear hK K;refine yB [10,11,12,13,14,15,16,17,18] [9000] (by simp only [zZ,zR,zP,zQ,zN,zS,zM,zX,zU,Nat.reduceEqDiff,reduceIte];exact rfl) ?_
   refine zE ?_;refine zE ?_;refine zJ (fun K hK=>?_);simp (disch:=omega) only [push_cast,↓iC9,simprocAttr,hll];refine hK _ ?_;clear hK K
   refine zA ?_;refine yC rfl ?_;refine zC ?_;refine zE ?_;refine zJ (fun K hK=>?_);simp (disch:=omega) only [push_cast,↓iC9,simprocAttr,aA,bE,go];refine hK _ ?_;clear hK K
   refine yB [10,11,12,13,14,15,16,17,18,19] [1136,9000] (by simp only [zZ,zR,zP,zQ,zN,zS,zM,zX,zU,Nat.reduceEqDiff,reduceIte];exact rfl) ?_
   refine dE 1136 rfl (by simp only [bJ,bC,aL,aT,aJ,cC,aX,aY,aK,aW,aV,bK,aZ,aU,bF,bG,bH,Nat.reduceEqDiff,reduceIte,List.map_cons,List.map_nil,List.map_append];exact rfl) ?_
   refine zE ?_;refine zJ (fun K hK=>?_);simp (disch:=omega) only [push_cast,↓iC9,simprocAttr,jP];refine hK _ ?_;clear hK K
   refine yB [10,11,12,13,14,15,16,17,18,19,20] [9000] (by simp only [zZ,zR,zP,zQ,zN,zS,zM,zX,zU,Nat.reduceEqDiff,reduceIte];exact rfl) ?_
   refine zE ?_;refine zKh o a b L n p q r o[p] out2 _ l0 k4 rfl (by omega) hok (fun S' hE=>?_)
   refine zE ?_;refine yB [10,11,12,13,14,15,16,17,18] [9000] hE ?_;clear hE S';refine zJ (fun K hK=>?_);simp (disch:=omega) only [push_cast,↓iC9,simprocAttr];refine hK _ ?_;clear hK K
   refine zE ?_;refine zJ (fun K hK=>?_);simp (disch:=omega) only [push_cast,↓iC9,simprocAttr];refine hK _ ?_;clear hK K
   refine zA ?_;refine zJ (fun K hK=>?_);simp (disch:=omega) only [push_cast,↓iC9,simprocAttr];refine hK _ ?_;clear hK K
   refine zB ?_;refine zA ?_;refine zJ (fun K hK=>?_);simp (disch:=omega) only [push_cast,↓iC9,simprocAttr];refine hK _ ?_;clear hK K
   refine zA ?_;exact ⟨n + 1,by simp only [zZ,zR,zP,zQ,zN,zS,zM,zX,zU,Nat.reduceEqDiff,reduceIte,rcE];rw [hnx2];try rfl,hnt,by omega⟩
  ·obtain rfl:n=T.length:=by omega
   rw [List.take_length] at R ⊢
   have gL:∀ d,(iZ L).getD T.length d=[.v (.int .i64 (o.length:Nat)),.v (.int .i64 (a.length:Nat)),.v (.int .i64 (b.length:Nat))]:=fun d=>by rw [qEp (by omega),hLe (by omega)]
   obtain ⟨R1,R2,R3,R4⟩:=R;generalize chT o a b T ⟨0,0,0,[]⟩=u at *
   obtain ⟨ui,uj,uk,out⟩:=u
   have k1:=R1.i
   have k2:=R1.j
   have k3:=R1.k
   simp only at k1 k2 k3 R4;refine zE ?_;refine zE ?_;refine zJ (fun K hK=>?_);simp (disch:=omega) only [push_cast,↓iC9,simprocAttr,hll];refine hK _ ?_;clear hK K
   refine zA ?_;refine yD rfl ?_;refine zC ?_;refine zE ?_;refine yB [10,11,12,13,14,15,16,17,18] [9000] (by simp only [zZ,zR,zP,zQ,zN,zS,zM,zX,zU,Nat.reduceEqDiff,reduceIte];exact rfl) ?_
   refine zD ?_;refine zE ?_;refine zHo o a b L T.length ui uj uk o.length a.length b.length out _ l0 l1 l2 (by omega) (hLe (by omega)) (by omega) ⟨k1,by omega⟩ ⟨k2,by omega⟩ ⟨k3,by omega⟩ (by omega) (fun S' hE=>?_)
   refine zE ?_;refine yB [10,11,12,13,14,18] [9000] hE ?_;clear hE S';rw [show btO o a b ui uj uk o.length a.length b.length out=gJ o a b from hfinal.symm]
   refine lL 18 [] [[(9000,.sl true 33 4 (cks (gJ o a b)))]] [(0,0,0),(1,0,0),(2,0,0),(3,0,0),(4,0,0),(5,0,0),(6,0,0),(7,0,0),(8,0,0),(9,0,0),(10,0,0),(11,0,0),(12,0,0),(13,0,0),(14,0,0),(15,0,0),(16,0,0),(17,0,0)] mixed (by kernel_rfl) (by kernel_rfl) rfl (fun K hK K1 hK1=>?_);simp (disch:=omega) only [push_cast,↓iC9,simprocAttr,dN,cX,eQ,dM,gA,kX,dK,cV,bN,bU,cJ,bP,bQ,gB,dP,dV,eX,eW,cY,bV,cK,gE,gD,gC,dQ,dR,dU,dT,gF,dH,dS,eV,List.tail_cons,List.take_nil,List.drop_nil,Nat.sub_self,Nat.le_refl,hll,gL,iP]
   refine hK1 _ ?_;(try clear hK1 K1);with_reducible refine aH ?_;simp (disch:=omega) only [push_cast,↓iC9,simprocAttr]
   refine hK _ ?_;clear hK K;refine yB [10,11,12,13,14,15,16,17,18] [9000] (by simp only [zZ,zR,zP,zQ,zN,zS,zM,zX,zU,Nat.reduceEqDiff,reduceIte];exact rfl) ?_
   refine zE ?_;refine zE ?_;refine zJ (fun K hK=>?_);simp (disch:=omega) only [push_cast,↓iC9,simprocAttr,hll];refine hK _ ?_;clear hK K
   refine zA ?_;refine yD rfl ?_;refine zT ?_;refine zG ?_;refine zF rfl ?_;refine zG ?_;refine zG ?_;refine zH ?_;refine zE ?_;refine yB [14] [9000] (by simp only [zZ,zR,zP,zQ,zN,zS,zM,zX,zU,Nat.reduceEqDiff,reduceIte];exact rfl) ?_
   refine zJ (fun K hK=>?_);simp (disch:=omega) only [push_cast,↓iC9,simprocAttr];refine hK _ ?_;clear hK K
   refine zA ?_;refine zW ?_;simp only [yA,yM,yH,yE,aR,bT,yK,yJ,zS,zM,Nat.reduceEqDiff,reduceIte,reduceCtorEq];exact xJ rfl (qBs _) (.inr ⟨t0,t1,t2,rfl,rfl⟩)
end Go.Proofs.Ytmgilahhnbopmaa
