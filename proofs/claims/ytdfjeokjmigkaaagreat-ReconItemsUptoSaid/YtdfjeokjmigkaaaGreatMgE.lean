/-
  merge.Chunks, walked.
-/
import Derived.Test.YtdfjeokjmigkaaaGreatJoin
import Derived.Test.YtdfjeokjmigkaaaGreatLtx
set_option linter.unusedSimpArgs false
set_option linter.unusedVariables false
set_option maxRecDepth 20000
namespace Go.Proofs.YtdfjeokjmigkaaaGreat
open Go Go.Eng Go.RowKit Go.DiffM


def lP (x y z:ByteArray):Int:=if eG x≠0 then eG x else if eG y≠0 then eG y else eG z
theorem eU {s:ByteArray} (h:eG s=0):(bW s).length≤400:=by
 unfold eG at h;split at h
 ·omega
 ·split at h <;> omega
def mcE (x y z:ByteArray) (i:Nat):HS:=⟨[(0,.v (.string x)),(1,.v (.string y)),(2,.v (.string z)),(22,.agg [.v (.string x),.v (.string y),.v (.string z)]),(23,.v (.int .i64 i))],[]⟩
theorem qV2 {cs:List (Ck ByteArray)} (h:∀ c,cs.getLast?=some c→c.st=false) (s:ByteArray):rD cs s=cs ++ [⟨true,[s],[s],[s]⟩]:=by
 unfold rD
 cases e:cs.getLast? with
|none =>
  have:cs=[]:=by simpa using e
  subst this;rfl
|some c=>simp [h c e]
theorem zQm {pre:List (Ck ByteArray)} {c:Ck ByteArray} (h:c.st=true) (s:ByteArray):rD (pre ++ [c]) s=pre ++ [⟨true,c.b ++ [s],c.l ++ [s],c.r ++ [s]⟩]:=by
 unfold rD;simp [h]
structure CuT where
 i:Nat
 j:Nat
 k:Nat
 pre:List (Ck ByteArray)
 c:Ck ByteArray
def nF (o a b:List ByteArray):Option CuT→aD
|none=>[(136,.bx true 92 [.lst true (aK o),.lst true (aK a),.lst true (aK b),.v (.int .i64 (0:Nat)),.v (.int .i64 (0:Nat)),.v (.int .i64 (0:Nat)),.own 9000]),(328,zDl (bV o a)),(400,zDl (bV o b)),(9000,.sl true 77 4 (cks []))]
|some s=>[(136,.bx true 92 [.lst true (aK o),.lst true (aK a),.lst true (aK b),.v (.int .i64 s.i),.v (.int .i64 s.j),.v (.int .i64 s.k),.own 9000]),(328,zDl (bV o a)),(400,zDl (bV o b)),(9000,zM6 s.pre),(1000002,pE s.c.b),(1000003,pE s.c.l),(1000004,pE s.c.r)]
def cuE (o a b:List ByteArray) (p:Nat × Option CuT):HS:=⟨[(11,.lst true (aK o)),(12,.lst true (aK a)),(13,.lst true (aK b)),(14,.own 328),(16,.own 400),(17,.ptr 136 7 0 0),(61,.v (.int .i64 o.length)),(62,.v (.int .i64 p.1))],nF o a b p.2⟩
def cuU:Option CuT→Cu ByteArray
|none=>⟨0,0,0,[]⟩
|some s=>⟨s.i,s.j,s.k,s.pre ++ [s.c]⟩
structure CuI (o a b:List ByteArray) (n:Nat) (p:Option CuT):Prop where
 le:n≤o.length
 i:(cuU p).i≤n
 j:Nxt (kn o a) n (cuU p).j a.length
 k:Nxt (kn o b) n (cuU p).k b.length
 len:(cuU p).out.length≤2 * n
 st:∀ s,p=some s→s.c.st=true∧s.c.b.length≤n∧s.c.l.length≤n∧s.c.r.length≤n
 rest:chI o a b (kn o a) (kn o b) (o.length - n) n (cuU p)=chT o a b (tri (kn o a) (kn o b)) ⟨0,0,0,[]⟩
theorem zL3 (o a b:List ByteArray):CuI o a b 0 none :=
 ⟨Nat.zero_le _,Nat.le_refl _,Nxt.init (qX o a),Nxt.init (qX o b),Nat.zero_le _,fun _ h=>(by cases h),qGx (kn o a) (kn o b) _ 0 (kn o a) (kn o b) 0 0 ⟨0,0,0,[]⟩ (fun _ _=>rfl) (fun _ _=>rfl) (qX o a) (qX o b) (by omega)⟩
theorem CuI.skip {o a b:List ByteArray} {n:Nat} {p:Option CuT} (h:CuI o a b n p) (hn:n < o.length) (hl:DiffM.look (kn o a) n=none∨DiffM.look (kn o b) n=none):CuI o a b (n + 1) p :=
 ⟨hn,by have:=h.i;omega,h.j.one,h.k.one,by have:=h.len;omega,fun s hs=>by obtain ⟨a,b,c,d⟩:=h.st s hs;exact ⟨a,by omega,by omega,by omega⟩,by
  have:=h.rest
  rw [show o.length - n=(o.length - (n + 1)) + 1 by omega,chI] at this
  rcases hl with e|e
  ·rw [e] at this;exact this
  ·rw [e] at this
   cases e1:DiffM.look (kn o a) n <;> (rw [e1] at this;exact this)⟩
theorem CuI.step {o a b:List ByteArray} {n j k:Nat} {p:Option CuT} (h:CuI o a b n p) (hn:n < o.length) (h1:DiffM.look (kn o a) n=some j) (h2:DiffM.look (kn o b) n=some k) (s:CuT) (hi:s.i=n + 1) (hj:s.j=j + 1) (hk:s.k=k + 1) (hst:s.c.st=true)
  (hb:s.c.b.length≤n + 1) (hl:s.c.l.length≤n + 1) (hr:s.c.r.length≤n + 1) (hlen:s.pre.length≤2 * n + 1) (ho:s.pre ++ [s.c]=rD (lM o a b (cuU p) n j k).out o[n]):CuI o a b (n + 1) (some s) :=
 ⟨hn,by simp only [cuU];omega,by simp only [cuU];rw [hj];exact h.j.step (qX o a) h1,by simp only [cuU];rw [hk];exact h.k.step (qX o b) h2,by simp only [cuU,List.length_append,List.length_singleton];omega,fun s' hs=>(by cases hs;exact ⟨hst,hb,hl,hr⟩),by
  have:=h.rest
  rw [show o.length - n=(o.length - (n + 1)) + 1 by omega,chI,h1,h2] at this
  rw [← this]
  congr 1
  simp only [cuU,qWv,lM] at ho ⊢;rw [hi,hj,hk]
  congr 1
  rw [ho];simp [List.getD_eq_getElem?_getD,hn]⟩
abbrev aS (x y z:ByteArray):List (Ck ByteArray):=lY (bW x) (bW y) (bW z)
set_option maxHeartbeats 8000000 in
theorem zL7 (x y z:ByteArray) (hx:x.size≤4294967296) (hy:y.size≤4294967296) (hz:z.size≤4294967296):HFun Tryz.prog 44 [.v (.string x),.v (.string y),.v (.string z)] (fun h st =>
  (lP x y z≠0∧h=.tup [.v (.slice none 0 0),.v (.int .i64 (lP x y z))]∧st=[]) ∨
  (eG x=0∧eG y=0∧eG z=0∧h=.tup [.own 0,.v (.int .i64 0)]∧st=[(0,.sl true 77 4 (cks (aS x y z)))])):=by
 refine eF (N:=99) Tryz.func44 rfl Tryz.ntmps44 Tryz.results44 (by simp) ?_
 refine zE ?_;refine zJ (fun K hK=>?_);simp (disch:=omega) only [push_cast,↓Int.cast_ofNat_Int,simprocAttr];refine hK _ ?_
 refine zE ?_;refine zE ?_;refine zJ (fun K hK=>?_);simp (disch:=omega) only [push_cast,↓Int.cast_ofNat_Int,simprocAttr];refine hK _ ?_
 refine zA ?_;refine zD ?_;refine bR (mcE x y z) (fun i=>i≤3∧(0 < i→eG x=0)∧(1 < i→eG y=0)∧(2 < i→eG z=0)) (fun i=>3 - i) [0,1,2,22,23] [] 0 (by simp only [zZ,zR,zP,zQ,zN,zS,zM,zX,zU,Nat.reduceEqDiff,reduceIte,mcE];try rfl) ⟨by omega,by omega,by omega,by omega⟩ ?_
 rintro i ⟨hi,h0,h1,h2⟩;simp only [mcE]
 have hcs:i=0∨i=1∨i=2∨i=3:=by omega
 rcases hcs with rfl|rfl|rfl|rfl
 ·refine zE ?_;refine zJ (fun K hK=>?_);simp (disch:=omega) only [push_cast,↓Int.cast_ofNat_Int,simprocAttr];refine hK _ ?_
  refine zE ?_;refine yD rfl ?_;refine zC ?_;refine zE ?_;refine zD ?_;refine zE ?_;refine zJ (fun K hK=>?_);simp (disch:=omega) only [push_cast,↓Int.cast_ofNat_Int,simprocAttr];(repeat refine ⟨by first|omega|decide|((repeat' apply And.intro) <;> first|omega|decide),?_⟩);refine hK _ ?_
  refine zE ?_;refine zJ (fun K hK=>?_);simp (disch:=omega) only [push_cast,↓Int.cast_ofNat_Int,simprocAttr]
  refine aW zT3 (qWr x hx) (.cons (.v _) .nil) ?_;with_reducible refine aB ?_;simp (disch:=omega) only [push_cast,↓Int.cast_ofNat_Int,simprocAttr]
  refine hK _ ?_
  by_cases he:eG x=0
  ·refine zE ?_;refine zJ (fun K hK=>?_);simp (disch:=omega) only [push_cast,↓Int.cast_ofNat_Int,simprocAttr,he];refine hK _ ?_
   refine zA ?_;refine yC rfl ?_;refine zC ?_;refine zB ?_;refine zA ?_;refine zJ (fun K hK=>?_);simp (disch:=omega) only [push_cast,↓Int.cast_ofNat_Int,simprocAttr];refine hK _ ?_
   refine zA ?_;exact ⟨1,by simp only [zZ,zR,zP,zQ,zN,zS,zM,zX,zU,Nat.reduceEqDiff,reduceIte,mcE];rfl,⟨by omega,fun _=>he,by omega,by omega⟩,by omega⟩
  ·refine zE ?_;refine zJ (fun K hK=>?_);simp (disch:=omega) only [push_cast,↓Int.cast_ofNat_Int,simprocAttr];refine hK _ ?_
   refine zA ?_;refine yD rfl ?_;refine zE ?_;refine zJ (fun K hK=>?_);simp (disch:=omega) only [push_cast,↓Int.cast_ofNat_Int,simprocAttr];refine hK _ ?_
   refine zA ?_;refine zW ?_;refine zL ?_;refine zK ?_;refine zK ?_;refine zL ?_;refine zK ?_;simp only [yA,yM,yH,yE,aA,aC,yK,yJ,zS,zM,Nat.reduceEqDiff,reduceIte,reduceCtorEq]
   have er:lP x y z=eG x:=by rw [lP,if_pos he]
   exact mT (.inl ⟨by rw [er];exact he,by rw [er],rfl⟩)
 ·refine zE ?_;refine zJ (fun K hK=>?_);simp (disch:=omega) only [push_cast,↓Int.cast_ofNat_Int,simprocAttr];refine hK _ ?_
  refine zE ?_;refine yD rfl ?_;refine zC ?_;refine zE ?_;refine zD ?_;refine zE ?_;refine zJ (fun K hK=>?_);simp (disch:=omega) only [push_cast,↓Int.cast_ofNat_Int,simprocAttr];(repeat refine ⟨by first|omega|decide|((repeat' apply And.intro) <;> first|omega|decide),?_⟩);refine hK _ ?_
  refine zE ?_;refine zJ (fun K hK=>?_);simp (disch:=omega) only [push_cast,↓Int.cast_ofNat_Int,simprocAttr]
  refine aW zT3 (qWr y hy) (.cons (.v _) .nil) ?_;with_reducible refine aB ?_;simp (disch:=omega) only [push_cast,↓Int.cast_ofNat_Int,simprocAttr]
  refine hK _ ?_
  by_cases he:eG y=0
  ·refine zE ?_;refine zJ (fun K hK=>?_);simp (disch:=omega) only [push_cast,↓Int.cast_ofNat_Int,simprocAttr,he];refine hK _ ?_
   refine zA ?_;refine yC rfl ?_;refine zC ?_;refine zB ?_;refine zA ?_;refine zJ (fun K hK=>?_);simp (disch:=omega) only [push_cast,↓Int.cast_ofNat_Int,simprocAttr];refine hK _ ?_
   refine zA ?_;exact ⟨2,by simp only [zZ,zR,zP,zQ,zN,zS,zM,zX,zU,Nat.reduceEqDiff,reduceIte,mcE];rfl,⟨by omega,fun _=>h0 (by omega),fun _=>he,by omega⟩,by omega⟩
  ·refine zE ?_;refine zJ (fun K hK=>?_);simp (disch:=omega) only [push_cast,↓Int.cast_ofNat_Int,simprocAttr];refine hK _ ?_
   refine zA ?_;refine yD rfl ?_;refine zE ?_;refine zJ (fun K hK=>?_);simp (disch:=omega) only [push_cast,↓Int.cast_ofNat_Int,simprocAttr];refine hK _ ?_
   refine zA ?_;refine zW ?_;refine zL ?_;refine zK ?_;refine zK ?_;refine zL ?_;refine zK ?_;simp only [yA,yM,yH,yE,aA,aC,yK,yJ,zS,zM,Nat.reduceEqDiff,reduceIte,reduceCtorEq]
   have er:lP x y z=eG y:=by rw [lP,if_neg (by rw [h0 (by omega)];simp),if_pos he]
   exact mT (.inl ⟨by rw [er];exact he,by rw [er],rfl⟩)
 ·refine zE ?_;refine zJ (fun K hK=>?_);simp (disch:=omega) only [push_cast,↓Int.cast_ofNat_Int,simprocAttr];refine hK _ ?_
  refine zE ?_;refine yD rfl ?_;refine zC ?_;refine zE ?_;refine zD ?_;refine zE ?_;refine zJ (fun K hK=>?_);simp (disch:=omega) only [push_cast,↓Int.cast_ofNat_Int,simprocAttr];(repeat refine ⟨by first|omega|decide|((repeat' apply And.intro) <;> first|omega|decide),?_⟩);refine hK _ ?_
  refine zE ?_;refine zJ (fun K hK=>?_);simp (disch:=omega) only [push_cast,↓Int.cast_ofNat_Int,simprocAttr]
  refine aW zT3 (qWr z hz) (.cons (.v _) .nil) ?_;with_reducible refine aB ?_;simp (disch:=omega) only [push_cast,↓Int.cast_ofNat_Int,simprocAttr]
  refine hK _ ?_
  by_cases he:eG z=0
  ·refine zE ?_;refine zJ (fun K hK=>?_);simp (disch:=omega) only [push_cast,↓Int.cast_ofNat_Int,simprocAttr,he];refine hK _ ?_
   refine zA ?_;refine yC rfl ?_;refine zC ?_;refine zB ?_;refine zA ?_;refine zJ (fun K hK=>?_);simp (disch:=omega) only [push_cast,↓Int.cast_ofNat_Int,simprocAttr];refine hK _ ?_
   refine zA ?_;exact ⟨3,by simp only [zZ,zR,zP,zQ,zN,zS,zM,zX,zU,Nat.reduceEqDiff,reduceIte,mcE];rfl,⟨by omega,fun _=>h0 (by omega),fun _=>h1 (by omega),fun _=>he⟩,by omega⟩
  ·refine zE ?_;refine zJ (fun K hK=>?_);simp (disch:=omega) only [push_cast,↓Int.cast_ofNat_Int,simprocAttr];refine hK _ ?_
   refine zA ?_;refine yD rfl ?_;refine zE ?_;refine zJ (fun K hK=>?_);simp (disch:=omega) only [push_cast,↓Int.cast_ofNat_Int,simprocAttr];refine hK _ ?_
   refine zA ?_;refine zW ?_;refine zL ?_;refine zK ?_;refine zK ?_;refine zL ?_;refine zK ?_;simp only [yA,yM,yH,yE,aA,aC,yK,yJ,zS,zM,Nat.reduceEqDiff,reduceIte,reduceCtorEq]
   have er:lP x y z=eG z:=by rw [lP,if_neg (by rw [h0 (by omega)];simp),if_neg (by rw [h1 (by omega)];simp)]
   exact mT (.inl ⟨by rw [er];exact he,by rw [er],rfl⟩)
 ·refine zE ?_;refine zJ (fun K hK=>?_);simp (disch:=omega) only [push_cast,↓Int.cast_ofNat_Int,simprocAttr];refine hK _ ?_
  refine zE ?_;refine yC rfl ?_;refine zT ?_;refine zG ?_;refine zG ?_;refine zH ?_;refine zE ?_
  have t0:=h0 (by omega)
  have t1:=h1 (by omega)
  have t2:=h2 (by omega)
  have l0:=eU t0
  have l1:=eU t1
  have l2:=eU t2
  refine yB [0,1,2] [] (by simp only [zZ,zR,zP,zQ,zN,zS,zM,zX,zU,Nat.reduceEqDiff,reduceIte];exact rfl) ?_
  refine zJ (fun K hK=>?_);simp (disch:=omega) only [push_cast,↓Int.cast_ofNat_Int,simprocAttr]
  refine hat 264 zT2 (qQy x hx) (.cons (.v _) .nil) ?_;rintro _ _ ⟨rfl,rfl⟩;with_reducible refine aB ?_;simp (disch:=omega) only [push_cast,↓Int.cast_ofNat_Int,simprocAttr]
  refine hat 280 zT2 (qQy y hy) (.cons (.v _) .nil) ?_;rintro _ _ ⟨rfl,rfl⟩;with_reducible refine aB ?_;simp (disch:=omega) only [push_cast,↓Int.cast_ofNat_Int,simprocAttr]
  refine hat 296 zT2 (qQy z hz) (.cons (.v _) .nil) ?_;rintro _ _ ⟨rfl,rfl⟩;with_reducible refine aB ?_;simp (disch:=omega) only [push_cast,↓Int.cast_ofNat_Int,simprocAttr]
  refine hK _ ?_;refine yB [11,12,13] [264,280,296] (by simp only [zZ,zR,zP,zQ,zN,zS,zM,zX,zU,Nat.reduceEqDiff,reduceIte];exact rfl) ?_
  refine cU 264 rfl (by simp only [dP,cJ,bH,bZ,bF,fD,cF,cG,bG,cE,cD,dQ,cH,cC,dL,dM,dN,Nat.reduceEqDiff,reduceIte,List.map_cons,List.map_nil,List.map_append];exact rfl) ?_
  refine cU 280 rfl (by simp only [dP,cJ,bH,bZ,bF,fD,cF,cG,bG,cE,cD,dQ,cH,cC,dL,dM,dN,Nat.reduceEqDiff,reduceIte,List.map_cons,List.map_nil,List.map_append];exact rfl) ?_
  refine cU 296 rfl (by simp only [dP,cJ,bH,bZ,bF,fD,cF,cG,bG,cE,cD,dQ,cH,cC,dL,dM,dN,Nat.reduceEqDiff,reduceIte,List.map_cons,List.map_nil,List.map_append];exact rfl) ?_
  have hch:aS x y z=lY (bW x) (bW y) (bW z):=rfl
  rw [hch];clear hch h0 h1 h2 hx hy hz;generalize hO:bW x=o at *
  generalize hA:bW y=a at *
  generalize hB:bW z=b at *
  refine zE ?_;refine zJ (fun K hK=>?_);simp (disch:=omega) only [push_cast,↓Int.cast_ofNat_Int,simprocAttr]
  refine hat 328 zVy (qTz o a l0 l1) (.cons (aH (aN _)) (.cons (aH (aN _)) .nil)) ?_;rintro _ _ ⟨rfl,rfl⟩;with_reducible refine aB ?_;simp (disch:=omega) only [push_cast,↓Int.cast_ofNat_Int,simprocAttr]
  refine hK _ ?_;refine zE ?_;refine zE ?_;refine zJ (fun K hK=>?_);simp (disch:=omega) only [push_cast,↓Int.cast_ofNat_Int,simprocAttr];refine hK _ ?_
  refine zA ?_;refine yC rfl ?_;refine zC ?_;refine zE ?_;refine yB [11,12,13,14] [328] (by simp only [zZ,zR,zP,zQ,zN,zS,zM,zX,zU,Nat.reduceEqDiff,reduceIte];exact rfl) ?_
  refine zJ (fun K hK=>?_);simp (disch:=omega) only [push_cast,↓Int.cast_ofNat_Int,simprocAttr]
  refine hat 400 zVy (qTz o b l0 l2) (.cons (aH (aN _)) (.cons (aH (aN _)) .nil)) ?_;rintro _ _ ⟨rfl,rfl⟩;with_reducible refine aB ?_;simp (disch:=omega) only [push_cast,↓Int.cast_ofNat_Int,simprocAttr]
  refine hK _ ?_;refine zE ?_;refine zE ?_;refine zJ (fun K hK=>?_);simp (disch:=omega) only [push_cast,↓Int.cast_ofNat_Int,simprocAttr];refine hK _ ?_
  refine zA ?_;refine yC rfl ?_;refine zC ?_;refine zE ?_;refine yB [11,12,13,14,16] [328,400] (by simp only [zZ,zR,zP,zQ,zN,zS,zM,zX,zU,Nat.reduceEqDiff,reduceIte];exact rfl) ?_
  refine zJ (fun K hK=>?_);simp (disch:=omega) only [push_cast,↓Int.cast_ofNat_Int,simprocAttr];refine hK _ ?_
  refine yB [11,12,13,14,16,17] [136,328,400] (by simp only [zZ,zR,zP,zQ,zN,zS,zM,zX,zU,Nat.reduceEqDiff,reduceIte];exact rfl) ?_
  refine zCk 136 6 9000 77 4 (by decide) rfl rfl (by simp only [push_cast,List.set_cons_succ,List.set_cons_zero,Nat.reduceEqDiff,reduceIte,Nat.reduceBEq,cond_false,cond_true];exact rfl) ?_
  refine zE ?_;refine zE ?_;refine zJ (fun K hK=>?_);simp (disch:=omega) only [push_cast,↓Int.cast_ofNat_Int,simprocAttr,aF];refine hK _ ?_
  refine zA ?_;refine zD ?_;refine bR (cuE o a b) (fun p=>CuI o a b p.1 p.2) (fun p=>o.length - p.1) [11,12,13,14,16,17,61,62] [136,328,400,9000,1000002,1000003,1000004] (0,none) (by simp only [zZ,zR,zP,zQ,zN,zS,zM,zX,zU,Nat.reduceEqDiff,reduceIte,cuE,nF];try rfl) (zL3 o a b) ?_
  have px:∀ n,n < o.length→∀ d,(iD (bV o a)).getD n d=[.v (.int .i64 (qBy (kn o a) n))]:=fun n hn d=>by rw [gC (by rw [qDl];exact hn)];unfold bV;rw [zH0 o a n hn]
  have py:∀ n,n < o.length→∀ d,(iD (bV o b)).getD n d=[.v (.int .i64 (qBy (kn o b) n))]:=fun n hn d=>by rw [gC (by rw [qDl];exact hn)];unfold bV;rw [zH0 o b n hn]
  have lx:(iD (bV o a)).length=o.length:=by rw [dW,qDl]
  have ly:(iD (bV o b)).length=o.length:=by rw [dW,qDl]
  rintro ⟨n,p⟩ I;simp only at I
  by_cases hn:n < o.length
  ·cases e1:DiffM.look (kn o a) n with
  |none =>
    have v1:qBy (kn o a) n=-1:=by rw [qBy,e1]
    have I':=I.skip hn (.inl e1)
    rcases p with _|s
    all_goals
     simp only [cuE,nF]
     (repeat first|refine zE ?_|refine zA ?_|refine zC ?_|refine zB ?_|refine zD ?_);refine zJ (fun K hK=>?_);simp (disch:=omega) only [push_cast,↓Int.cast_ofNat_Int,simprocAttr];refine hK _ ?_
     (repeat first|refine zE ?_|refine zA ?_|refine zC ?_|refine zB ?_|refine zD ?_)
     refine yD rfl ?_
     (repeat first|refine zK ?_|refine zG ?_|refine zH ?_|refine zF rfl ?_|refine zL ?_|refine zB ?_|refine zE ?_|refine zA ?_|refine zC ?_|refine zT ?_|refine zW ?_)
     (repeat first|refine zE ?_|refine zA ?_|refine zC ?_|refine zB ?_|refine zD ?_);refine zJ (fun K hK=>?_);simp (disch:=omega) only [push_cast,↓Int.cast_ofNat_Int,simprocAttr];refine hK _ ?_
     (repeat first|refine zE ?_|refine zA ?_|refine zC ?_|refine zB ?_|refine zD ?_);refine zJ (fun K hK=>?_);simp (disch:=omega) only [push_cast,↓Int.cast_ofNat_Int,simprocAttr,lx,px n hn,v1];refine hK _ ?_
     (repeat first|refine zE ?_|refine zA ?_|refine zC ?_|refine zB ?_|refine zD ?_)
     refine yC rfl ?_
     (repeat first|refine zK ?_|refine zG ?_|refine zH ?_|refine zF rfl ?_|refine zL ?_|refine zB ?_|refine zE ?_|refine zA ?_|refine zC ?_|refine zT ?_|refine zW ?_)
     (repeat first|refine zE ?_|refine zA ?_|refine zC ?_|refine zB ?_|refine zD ?_);refine zJ (fun K hK=>?_);simp (disch:=omega) only [push_cast,↓Int.cast_ofNat_Int,simprocAttr];refine hK _ ?_
     (repeat first|refine zK ?_|refine zG ?_|refine zH ?_|refine zF rfl ?_|refine zL ?_|refine zB ?_|refine zE ?_|refine zA ?_|refine zC ?_|refine zT ?_|refine zW ?_)
    ·exact ⟨(n + 1,none),by simp only [zZ,zR,zP,zQ,zN,zS,zM,zX,zU,Nat.reduceEqDiff,reduceIte,cuE,nF];try rfl,I',by dsimp only;omega⟩
    ·exact ⟨(n + 1,some s),by simp only [zZ,zR,zP,zQ,zN,zS,zM,zX,zU,Nat.reduceEqDiff,reduceIte,cuE,nF];try rfl,I',by dsimp only;omega⟩
  |some q =>
    have v1:qBy (kn o a) n=(q:Int):=by rw [qBy,e1]
    cases e2:DiffM.look (kn o b) n with
   |none =>
     have v2:qBy (kn o b) n=-1:=by rw [qBy,e2]
     have I':=I.skip hn (.inr e2)
     rcases p with _|s
     all_goals
      simp only [cuE,nF]
      (repeat first|refine zE ?_|refine zA ?_|refine zC ?_|refine zB ?_|refine zD ?_);refine zJ (fun K hK=>?_);simp (disch:=omega) only [push_cast,↓Int.cast_ofNat_Int,simprocAttr];refine hK _ ?_
      (repeat first|refine zE ?_|refine zA ?_|refine zC ?_|refine zB ?_|refine zD ?_)
      refine yD rfl ?_
      (repeat first|refine zK ?_|refine zG ?_|refine zH ?_|refine zF rfl ?_|refine zL ?_|refine zB ?_|refine zE ?_|refine zA ?_|refine zC ?_|refine zT ?_|refine zW ?_)
      (repeat first|refine zE ?_|refine zA ?_|refine zC ?_|refine zB ?_|refine zD ?_);refine zJ (fun K hK=>?_);simp (disch:=omega) only [push_cast,↓Int.cast_ofNat_Int,simprocAttr];refine hK _ ?_
      (repeat first|refine zE ?_|refine zA ?_|refine zC ?_|refine zB ?_|refine zD ?_);refine zJ (fun K hK=>?_);simp (disch:=omega) only [push_cast,↓Int.cast_ofNat_Int,simprocAttr,lx,px n hn,v1,ly,py n hn,v2];refine hK _ ?_
      (repeat first|refine zE ?_|refine zA ?_|refine zC ?_|refine zB ?_|refine zD ?_)
      refine yC rfl ?_
      (repeat first|refine zK ?_|refine zG ?_|refine zH ?_|refine zF rfl ?_|refine zL ?_|refine zB ?_|refine zE ?_|refine zA ?_|refine zC ?_|refine zT ?_|refine zW ?_)
      (repeat first|refine zE ?_|refine zA ?_|refine zC ?_|refine zB ?_|refine zD ?_);refine zJ (fun K hK=>?_);simp (disch:=omega) only [push_cast,↓Int.cast_ofNat_Int,simprocAttr];refine hK _ ?_
      (repeat first|refine zK ?_|refine zG ?_|refine zH ?_|refine zF rfl ?_|refine zL ?_|refine zB ?_|refine zE ?_|refine zA ?_|refine zC ?_|refine zT ?_|refine zW ?_)
     ·exact ⟨(n + 1,none),by simp only [zZ,zR,zP,zQ,zN,zS,zM,zX,zU,Nat.reduceEqDiff,reduceIte,cuE,nF];try rfl,I',by dsimp only;omega⟩
     ·exact ⟨(n + 1,some s),by simp only [zZ,zR,zP,zQ,zN,zS,zM,zX,zU,Nat.reduceEqDiff,reduceIte,cuE,nF];try rfl,I',by dsimp only;omega⟩
   |some r =>
     have v2:qBy (kn o b) n=(r:Int):=by rw [qBy,e2]
     have hq:=I.j.lt n q e1
     have hr:=I.k.lt n r e2
     have hqj:=I.j.low n q (Nat.le_refl _) e1
     have hrk:=I.k.low n r (Nat.le_refl _) e2
     have hIi:=I.i
     have hIl:=I.len
     have hsg:o.getD n default=o[n]:=by simp [List.getD_eq_getElem?_getD,hn]
     rcases p with _|s
     ·simp only [cuE,nF];simp only [cuU] at hqj hrk hIi hIl
      have hout:(btO o a b 0 0 0 n q r []).length≤1∧∀ c,(btO o a b 0 0 0 n q r []).getLast?=some c→c.st=false:=by
       unfold btO lM;dsimp only;split
       ·exact ⟨by simp,fun c hc=>by simp at hc;subst hc;rfl⟩
       ·exact ⟨by simp,fun c hc=>by simp at hc⟩
      have C:=qQh o a b 0 0 0 n q r [] (by omega) (by omega) (by omega) (by omega) (by omega) (by omega) (by simp)
      have C2:=qSy o a b n q r n (btO o a b 0 0 0 n q r []) hout.2 hn (by omega) (by omega) (by omega) (by omega) (by have:=hout.1;omega)
      refine zE ?_;refine zJ (fun K hK=>?_);simp (disch:=omega) only [push_cast,↓Int.cast_ofNat_Int,simprocAttr];refine hK _ ?_
      refine zE ?_;refine yD rfl ?_;refine zC ?_;refine zE ?_;refine zD ?_;refine zE ?_;refine zJ (fun K hK=>?_);simp (disch:=omega) only [push_cast,↓Int.cast_ofNat_Int,simprocAttr];refine hK _ ?_
      refine zE ?_;refine zJ (fun K hK=>?_);simp (disch:=omega) only [push_cast,↓Int.cast_ofNat_Int,simprocAttr,lx,px n hn,v1,ly,py n hn,v2];refine hK _ ?_
      refine zA ?_;refine yD rfl ?_;refine yB [11,12,13,14,16,17,18,61,62] [136,328,400,9000] (by simp only [zZ,zR,zP,zQ,zN,zS,zM,zX,zU,Nat.reduceEqDiff,reduceIte];exact rfl) ?_
      refine zE ?_;refine HW_drw 9 mixed (by kernel_rfl) (fun K hK=>?_);simp (disch:=omega) only [push_cast,↓Int.cast_ofNat_Int,simprocAttr,lx,px n hn,v1,ly,py n hn,v2,fL]
      with_reducible refine aB ?_;simp (disch:=omega) only [push_cast,↓Int.cast_ofNat_Int,simprocAttr]
      refine qCu 688 [136,9000] zQj (C) rfl (by decide) (by decide) (by simp only [push_cast,simprocAttr];try rfl) (by simp only [push_cast,simprocAttr];try rfl) ?_
      rintro _ _ ⟨rfl,rfl⟩;refine aB ?_;simp (disch:=omega) only [push_cast,↓Int.cast_ofNat_Int,simprocAttr];refine hK _ ?_;refine yB [11,12,13,14,16,17,18,61,62] [136,328,400,9000] (by simp only [zZ,zR,zP,zQ,zN,zS,zM,zX,zU,Nat.reduceEqDiff,reduceIte];exact rfl) ?_
      refine zJ (fun K hK=>?_);simp (disch:=omega) only [push_cast,↓Int.cast_ofNat_Int,simprocAttr]
      refine qCu 704 [136,9000] zT1 (C2) rfl (by decide) (by decide) (by simp only [push_cast,simprocAttr];try rfl) (by simp only [push_cast,simprocAttr];try rfl) ?_
      rintro _ _ ⟨rfl,rfl⟩;refine aB ?_;simp (disch:=omega) only [push_cast,↓Int.cast_ofNat_Int,simprocAttr,cK,List.map_append];refine hK _ ?_;refine zB ?_;refine zA ?_;refine yB [11,12,13,14,16,17,61,62] [136,328,400,9000,706,707,708] (by simp only [zZ,zR,zP,zQ,zN,zS,zM,zX,zU,Nat.reduceEqDiff,reduceIte];exact rfl) ?_
      refine qEc 706 1000002 (by decide) rfl rfl (by simp only [rR,qF0,oR,lJ,nY,lD,uS,kU,kR,mH,lF,kV,kQ,jY,oA,oC,oB,Nat.reduceMul,Nat.reduceAdd,Nat.reduceEqDiff,reduceIte,List.map_cons,List.map_nil,List.map_append,cK];exact rfl) ?_
      refine qEc 707 1000003 (by decide) rfl rfl (by simp only [rR,qF0,oR,lJ,nY,lD,uS,kU,kR,mH,lF,kV,kQ,jY,oA,oC,oB,Nat.reduceMul,Nat.reduceAdd,Nat.reduceEqDiff,reduceIte,List.map_cons,List.map_nil,List.map_append,cK];exact rfl) ?_
      refine qEc 708 1000004 (by decide) rfl rfl (by simp only [rR,qF0,oR,lJ,nY,lD,uS,kU,kR,mH,lF,kV,kQ,jY,oA,oC,oB,Nat.reduceMul,Nat.reduceAdd,Nat.reduceEqDiff,reduceIte,List.map_cons,List.map_nil,List.map_append,cK];exact rfl) ?_
      refine zJ (fun K hK=>?_);simp (disch:=omega) only [push_cast,↓Int.cast_ofNat_Int,simprocAttr];refine hK _ ?_
      refine zA ?_;refine ⟨(n + 1,some ⟨n + 1,q + 1,r + 1,btO o a b 0 0 0 n q r [],⟨true,[o[n]],[o[n]],[o[n]]⟩⟩),by simp only [zZ,zR,zP,zQ,zN,zS,zM,zX,zU,Nat.reduceEqDiff,reduceIte,cuE,nF];try rfl,I.step hn e1 e2 _ rfl rfl rfl rfl (by simp) (by simp) (by simp) ?_ ?_,by dsimp only;omega⟩
      ·have:=hout.1;dsimp only;omega
      ·show btO o a b 0 0 0 n q r [] ++ [_]=rD (btO o a b 0 0 0 n q r []) o[n]
       exact (qV2 hout.2 _).symm
     ·obtain ⟨i,j,k,pre,c⟩:=s;simp only [cuE,nF];simp only [cuU] at hqj hrk hIi hIl;obtain ⟨hc,cb,cl,cr⟩:=I.st _ rfl;dsimp only at hc cb cl cr
      have hpl:pre.length + 1≤2 * n:=by simpa using hIl
      have C:=qQg o a b i j k n q r pre c hc (by omega) (by omega) (by omega) (by omega) (by omega) (by omega) (by simp;omega)
      refine zE ?_;refine zJ (fun K hK=>?_);simp (disch:=omega) only [push_cast,↓Int.cast_ofNat_Int,simprocAttr];refine hK _ ?_
      refine zE ?_;refine yD rfl ?_;refine zC ?_;refine zE ?_;refine zD ?_;refine zE ?_;refine zJ (fun K hK=>?_);simp (disch:=omega) only [push_cast,↓Int.cast_ofNat_Int,simprocAttr];refine hK _ ?_
      refine zE ?_;refine zJ (fun K hK=>?_);simp (disch:=omega) only [push_cast,↓Int.cast_ofNat_Int,simprocAttr,lx,px n hn,v1,ly,py n hn,v2];refine hK _ ?_
      refine zA ?_;refine yD rfl ?_;refine yB [11,12,13,14,16,17,18,61,62] [136,328,400,9000,1000002,1000003,1000004] (by simp only [zZ,zR,zP,zQ,zN,zS,zM,zX,zU,Nat.reduceEqDiff,reduceIte];exact rfl) ?_
      refine zE ?_;refine HW_drw 9 mixed (by kernel_rfl) (fun K hK=>?_);simp (disch:=omega) only [push_cast,↓Int.cast_ofNat_Int,simprocAttr,lx,px n hn,v1,ly,py n hn,v2,fL]
      with_reducible refine aB ?_;simp (disch:=omega) only [push_cast,↓Int.cast_ofNat_Int,simprocAttr]
      refine qCu 688 [136,9000,1000002,1000003,1000004] zQj (C) rfl (by decide) (by decide) (by simp only [push_cast,List.map_append,cK,simprocAttr];try rfl) (by simp only [push_cast,List.map_append,cK,simprocAttr];try rfl) ?_
      rintro _ _ ⟨rfl,⟨hps,rfl⟩|⟨hst,rfl⟩⟩
      ·have hbo:btO o a b i j k n q r (pre ++ [c])=(pre ++ [c]) ++ [⟨false,(o.take n).drop i,(a.take q).drop j,(b.take r).drop k⟩]:=by rw [btO,lM,if_pos hps]
       have hlast:∀ c',(btO o a b i j k n q r (pre ++ [c])).getLast?=some c'→c'.st=false:=fun c' hc'=>by rw [hbo] at hc';simp at hc';subst hc';rfl
       have hol:(btO o a b i j k n q r (pre ++ [c])).length≤2 * n + 1:=by rw [hbo];simp;omega
       have C2:=qSy o a b n q r n (btO o a b i j k n q r (pre ++ [c])) hlast hn (by omega) (by omega) (by omega) (by omega) (by omega)
       refine aB ?_;simp (disch:=omega) only [push_cast,↓Int.cast_ofNat_Int,simprocAttr,cK,vD,List.map_append];refine hK _ ?_;refine yB [11,12,13,14,16,17,18,61,62] [136,328,400,9000] (by simp only [zZ,zR,zP,zQ,zN,zS,zM,zX,zU,Nat.reduceEqDiff,reduceIte];exact rfl) ?_
       refine zJ (fun K hK=>?_);simp (disch:=omega) only [push_cast,↓Int.cast_ofNat_Int,simprocAttr]
       refine qCu 704 [136,9000] zT1 (C2) rfl (by decide) (by decide) (by simp only [push_cast,simprocAttr];try rfl) (by simp only [push_cast,simprocAttr];try rfl) ?_
       rintro _ _ ⟨rfl,rfl⟩;refine aB ?_;simp (disch:=omega) only [push_cast,↓Int.cast_ofNat_Int,simprocAttr,cK,List.map_append];refine hK _ ?_;refine zB ?_;refine zA ?_;refine yB [11,12,13,14,16,17,61,62] [136,328,400,9000,706,707,708] (by simp only [zZ,zR,zP,zQ,zN,zS,zM,zX,zU,Nat.reduceEqDiff,reduceIte];exact rfl) ?_
       refine qEc 706 1000002 (by decide) rfl rfl (by simp only [rR,qF0,oR,lJ,nY,lD,uS,kU,kR,mH,lF,kV,kQ,jY,oA,oC,oB,Nat.reduceMul,Nat.reduceAdd,Nat.reduceEqDiff,reduceIte,List.map_cons,List.map_nil,List.map_append,cK];exact rfl) ?_
       refine qEc 707 1000003 (by decide) rfl rfl (by simp only [rR,qF0,oR,lJ,nY,lD,uS,kU,kR,mH,lF,kV,kQ,jY,oA,oC,oB,Nat.reduceMul,Nat.reduceAdd,Nat.reduceEqDiff,reduceIte,List.map_cons,List.map_nil,List.map_append,cK];exact rfl) ?_
       refine qEc 708 1000004 (by decide) rfl rfl (by simp only [rR,qF0,oR,lJ,nY,lD,uS,kU,kR,mH,lF,kV,kQ,jY,oA,oC,oB,Nat.reduceMul,Nat.reduceAdd,Nat.reduceEqDiff,reduceIte,List.map_cons,List.map_nil,List.map_append,cK];exact rfl) ?_
       refine zJ (fun K hK=>?_);simp (disch:=omega) only [push_cast,↓Int.cast_ofNat_Int,simprocAttr];refine hK _ ?_
       refine zA ?_;refine ⟨(n + 1,some ⟨n + 1,q + 1,r + 1,btO o a b i j k n q r (pre ++ [c]),⟨true,[o[n]],[o[n]],[o[n]]⟩⟩),by simp only [zZ,zR,zP,zQ,zN,zS,zM,zX,zU,Nat.reduceEqDiff,reduceIte,cuE,nF];try rfl,I.step hn e1 e2 _ rfl rfl rfl rfl (by simp) (by simp) (by simp) ?_ ?_,by dsimp only;omega⟩
       ·dsimp only;omega
       ·show btO o a b i j k n q r (pre ++ [c]) ++ [_]=rD (btO o a b i j k n q r (pre ++ [c])) o[n]
        exact (qV2 hlast _).symm
      ·have C2:=zHh o a b n q r n pre c hn (by omega) (by omega) (by omega) (by omega) (by omega) (by omega) (by omega) (by omega)
       refine aB ?_;simp (disch:=omega) only [push_cast,↓Int.cast_ofNat_Int,simprocAttr,cK,vD,List.map_append];refine hK _ ?_;refine yB [11,12,13,14,16,17,18,61,62] [136,328,400,9000,1000002,1000003,1000004] (by simp only [zZ,zR,zP,zQ,zN,zS,zM,zX,zU,Nat.reduceEqDiff,reduceIte];exact rfl) ?_
       refine zJ (fun K hK=>?_);simp (disch:=omega) only [push_cast,↓Int.cast_ofNat_Int,simprocAttr]
       refine qCu 704 [136,9000,1000002,1000003,1000004] zT1 (C2) rfl (by decide) (by decide) (by simp only [push_cast,List.map_append,cK,simprocAttr];try rfl) (by simp only [push_cast,List.map_append,cK,simprocAttr];try rfl) ?_
       rintro _ _ ⟨rfl,rfl⟩;refine aB ?_;simp (disch:=omega) only [push_cast,↓Int.cast_ofNat_Int,simprocAttr,cK,vD,List.map_append];refine hK _ ?_;refine zB ?_;refine zA ?_;refine zJ (fun K hK=>?_);simp (disch:=omega) only [push_cast,↓Int.cast_ofNat_Int,simprocAttr];refine hK _ ?_
       refine zA ?_;refine ⟨(n + 1,some ⟨n + 1,q + 1,r + 1,pre,⟨true,c.b ++ [o[n]],c.l ++ [o[n]],c.r ++ [o[n]]⟩⟩),by simp only [zZ,zR,zP,zQ,zN,zS,zM,zX,zU,Nat.reduceEqDiff,reduceIte,cuE,nF];try rfl,I.step hn e1 e2 _ rfl rfl rfl rfl (by simp;omega) (by simp;omega) (by simp;omega) (by dsimp only;omega) ?_,by dsimp only;omega⟩
       show pre ++ [_]=rD (lM o a b ⟨i,j,k,pre ++ [c]⟩ n q r).out o[n]
       rw [lM,if_neg hst];exact (zQm hc _).symm
  ·have hne:n=o.length:=by have:=I.le;omega
   subst hne
   have hF:lY o a b=(lM o a b (cuU p) o.length a.length b.length).out:=by
    have:=I.rest
    rw [Nat.sub_self,chI] at this;rw [lY,← this]
   have hIi:=I.i
   have hIj:=I.j.le
   have hIk:=I.k.le
   have hIl:=I.len
   rcases p with _|s
   ·simp only [cuE,nF]
    have C:=qQh o a b 0 0 0 o.length a.length b.length [] (by omega) (by omega) (by omega) (by omega) (by omega) (by omega) (by simp)
    refine zE ?_;refine zJ (fun K hK=>?_);simp (disch:=omega) only [push_cast,↓Int.cast_ofNat_Int,simprocAttr];refine hK _ ?_
    refine zE ?_;refine yC rfl ?_;refine zT ?_;refine zG ?_;refine zG ?_;refine zH ?_;refine zE ?_;refine yB [11,12,13,17] [136,9000] (by simp only [zZ,zR,zP,zQ,zN,zS,zM,zX,zU,Nat.reduceEqDiff,reduceIte];exact rfl) ?_
    refine zJ (fun K hK=>?_);simp (disch:=omega) only [push_cast,↓Int.cast_ofNat_Int,simprocAttr,aF]
    refine qCu 768 [136,9000] zQj (C) rfl (by decide) (by decide) (by simp only [push_cast,simprocAttr];try rfl) (by simp only [push_cast,simprocAttr];try rfl) ?_
    rintro _ _ ⟨rfl,rfl⟩;refine aB ?_;simp (disch:=omega) only [push_cast,↓Int.cast_ofNat_Int,simprocAttr];refine hK _ ?_;refine yB [17] [136,9000] (by simp only [zZ,zR,zP,zQ,zN,zS,zM,zX,zU,Nat.reduceEqDiff,reduceIte];exact rfl) ?_
    refine zE ?_;refine zJ (fun K hK=>?_);simp (disch:=omega) only [push_cast,↓Int.cast_ofNat_Int,simprocAttr];refine hK _ ?_
    refine zA ?_;refine zW ?_;simp only [yA,yM,yH,yE,aA,aC,yK,yJ,zS,zM,Nat.reduceEqDiff,reduceIte,reduceCtorEq];exact qBk rfl (qD4 _) (.inr ⟨t0,t1,t2,rfl,by rw [hF];rfl⟩)
   ·obtain ⟨i,j,k,pre,c⟩:=s;simp only [cuU] at hIi hIj hIk hIl;obtain ⟨hc,-,-,-⟩:=I.st _ rfl;dsimp only at hc
    have hpl:pre.length + 1≤2 * o.length:=by simpa using hIl
    have C:=qQg o a b i j k o.length a.length b.length pre c hc (by omega) (by omega) (by omega) (by omega) (by omega) (by omega) (by simp;omega)
    simp only [cuE,nF];refine zE ?_;refine zJ (fun K hK=>?_);simp (disch:=omega) only [push_cast,↓Int.cast_ofNat_Int,simprocAttr];refine hK _ ?_
    refine zE ?_;refine yC rfl ?_;refine zT ?_;refine zG ?_;refine zG ?_;refine zH ?_;refine zE ?_;refine yB [11,12,13,17] [136,9000,1000002,1000003,1000004] (by simp only [zZ,zR,zP,zQ,zN,zS,zM,zX,zU,Nat.reduceEqDiff,reduceIte];exact rfl) ?_
    refine zJ (fun K hK=>?_);simp (disch:=omega) only [push_cast,↓Int.cast_ofNat_Int,simprocAttr,aF]
    refine qCu 768 [136,9000,1000002,1000003,1000004] zQj (C) rfl (by decide) (by decide) (by simp only [push_cast,List.map_append,cK,simprocAttr];try rfl) (by simp only [push_cast,List.map_append,cK,simprocAttr];try rfl) ?_
    rintro _ _ ⟨rfl,⟨hps,rfl⟩|⟨hst,rfl⟩⟩
    ·refine aB ?_;simp (disch:=omega) only [push_cast,↓Int.cast_ofNat_Int,simprocAttr,cK,vD,List.map_append];refine hK _ ?_;refine yB [17] [136,9000] (by simp only [zZ,zR,zP,zQ,zN,zS,zM,zX,zU,Nat.reduceEqDiff,reduceIte];exact rfl) ?_
     refine zE ?_;refine zJ (fun K hK=>?_);simp (disch:=omega) only [push_cast,↓Int.cast_ofNat_Int,simprocAttr];refine hK _ ?_
     refine zA ?_;refine zW ?_;simp only [yA,yM,yH,yE,aA,aC,yK,yJ,zS,zM,Nat.reduceEqDiff,reduceIte,reduceCtorEq];exact qBk rfl (qD4 _) (.inr ⟨t0,t1,t2,rfl,by rw [hF];rfl⟩)
    ·refine aB ?_;simp (disch:=omega) only [push_cast,↓Int.cast_ofNat_Int,simprocAttr,cK,vD,List.map_append];refine hK _ ?_;refine yB [17] [136,9000,1000002,1000003,1000004] (by simp only [zZ,zR,zP,zQ,zN,zS,zM,zX,zU,Nat.reduceEqDiff,reduceIte];exact rfl) ?_
     have e1:ckH pre ++ [[.v (.bool true),.lst true (aK c.b),.lst true (aK c.l),.lst true (aK c.r)]]=(cks (pre ++ [c])).map (List.map FV.h):=by
      rw [qVz];cases c;simp only at hc;subst hc;rfl
     refine cU 1000002 rfl (by simp only [dP,cJ,bH,bZ,bF,fD,cF,cG,bG,cE,cD,dQ,cH,cC,dL,dM,dN,Nat.reduceEqDiff,reduceIte,List.map_cons,List.map_nil,List.map_append,mW];exact rfl) ?_
     refine cU 1000003 rfl (by simp only [dP,cJ,bH,bZ,bF,fD,cF,cG,bG,cE,cD,dQ,cH,cC,dL,dM,dN,Nat.reduceEqDiff,reduceIte,List.map_cons,List.map_nil,List.map_append,mW];exact rfl) ?_
     refine cU 1000004 rfl (by simp only [dP,cJ,bH,bZ,bF,fD,cF,cG,bG,cE,cD,dQ,cH,cC,dL,dM,dN,Nat.reduceEqDiff,reduceIte,List.map_cons,List.map_nil,List.map_append,mW];exact rfl) ?_
     refine zCj 9000 (cks (pre ++ [c])) e1 rfl (by simp only [xF,sD,Nat.reduceEqDiff,reduceIte];exact rfl) ?_
     refine zE ?_;refine zJ (fun K hK=>?_);simp (disch:=omega) only [push_cast,↓Int.cast_ofNat_Int,simprocAttr];refine hK _ ?_
     refine zA ?_;refine zW ?_;simp only [yA,yM,yH,yE,aA,aC,yK,yJ,zS,zM,Nat.reduceEqDiff,reduceIte,reduceCtorEq];refine qBk rfl (qD4 _) (.inr ⟨t0,t1,t2,rfl,?_⟩);rw [hF];show [(0,Row.sl true 77 4 (cks (pre ++ [c])))]=[(0,Row.sl true 77 4 (cks (lM o a b ⟨i,j,k,pre ++ [c]⟩ o.length a.length b.length).out))]
     rw [lM,if_neg hst]
end Go.Proofs.YtdfjeokjmigkaaaGreat
