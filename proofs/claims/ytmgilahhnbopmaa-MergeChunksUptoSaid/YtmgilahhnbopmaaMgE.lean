/-
  merge.Chunks, walked.
-/
import Derived.Test.YtmgilahhnbopmaaMgD
import Derived.Test.YtmgilahhnbopmaaLtx
set_option linter.unusedSimpArgs false
set_option linter.unusedVariables false
set_option maxRecDepth 20000
namespace Go.Proofs.Ytmgilahhnbopmaa
open Go Go.Eng Go.RowKit Go.DiffM


def fK (x y z:ByteArray):Int:=if cH x≠0 then cH x else if cH y≠0 then cH y else cH z
theorem dX {s:ByteArray} (h:cH s=0):(dA s).length≤400:=by
 unfold cH at h;split at h
 ·omega
 ·split at h <;> omega
def mcE (x y z:ByteArray) (i:Nat):HS:=⟨[(0,.v (.string x)),(1,.v (.string y)),(2,.v (.string z)),(22,.agg [.v (.string x),.v (.string y),.v (.string z)]),(23,.v (.int .i64 i))],[]⟩
theorem qA8 {cs:List (Ck ByteArray)} (h:∀ c,cs.getLast?=some c→c.st=false) (s:ByteArray):mG cs s=cs ++ [⟨true,[s],[s],[s]⟩]:=by
 unfold mG
 cases e:cs.getLast? with
|none =>
  have:cs=[]:=by simpa using e
  subst this;rfl
|some c=>simp [h c e]
theorem zAw {pre:List (Ck ByteArray)} {c:Ck ByteArray} (h:c.st=true) (s:ByteArray):mG (pre ++ [c]) s=pre ++ [⟨true,c.b ++ [s],c.l ++ [s],c.r ++ [s]⟩]:=by
 unfold mG;simp [h]
structure CuT where
 i:Nat
 j:Nat
 k:Nat
 pre:List (Ck ByteArray)
 c:Ck ByteArray
def lQ (o a b:List ByteArray):Option CuT→aB
|none=>[(136,.bx true 43 [.lst true (aD o),.lst true (aD a),.lst true (aD b),.v (.int .i64 (0:Nat)),.v (.int .i64 (0:Nat)),.v (.int .i64 (0:Nat)),.own 9000]),(328,qB3 (eE o a)),(400,qB3 (eE o b)),(9000,.sl true 33 4 (cks []))]
|some s=>[(136,.bx true 43 [.lst true (aD o),.lst true (aD a),.lst true (aD b),.v (.int .i64 s.i),.v (.int .i64 s.j),.v (.int .i64 s.k),.own 9000]),(328,qB3 (eE o a)),(400,qB3 (eE o b)),(9000,zGu s.pre),(1000002,nF s.c.b),(1000003,nF s.c.l),(1000004,nF s.c.r)]
def cuE (o a b:List ByteArray) (p:Nat × Option CuT):HS:=⟨[(11,.lst true (aD o)),(12,.lst true (aD a)),(13,.lst true (aD b)),(14,.own 328),(16,.own 400),(17,.ptr 136 7 0 0),(61,.v (.int .i64 o.length)),(62,.v (.int .i64 p.1))],lQ o a b p.2⟩
def cuU:Option CuT→Cu ByteArray
|none=>⟨0,0,0,[]⟩
|some s=>⟨s.i,s.j,s.k,s.pre ++ [s.c]⟩
structure CuI (o a b:List ByteArray) (n:Nat) (p:Option CuT):Prop where
 le:n≤o.length
 i:(cuU p).i≤n
 j:Nxt (kn o a) n (cuU p).j a.length
 k:Nxt (kn o b) n (cuU p).k b.length
 len:(cuU p).out.length≤2 * n
 st:∀ s,p=some s→s.c.st=true∧s.c.b.length≤n∧s.c.l.length≤n∧s.c.r.length≤n
 rest:chI o a b (kn o a) (kn o b) (o.length - n) n (cuU p)=chT o a b (tri (kn o a) (kn o b)) ⟨0,0,0,[]⟩
theorem qWk (o a b:List ByteArray):CuI o a b 0 none :=
 ⟨Nat.zero_le _,Nat.le_refl _,Nxt.init (oM o a),Nxt.init (oM o b),Nat.zero_le _,fun _ h=>(by cases h),qEk (kn o a) (kn o b) _ 0 (kn o a) (kn o b) 0 0 ⟨0,0,0,[]⟩ (fun _ _=>rfl) (fun _ _=>rfl) (oM o a) (oM o b) (by omega)⟩
theorem CuI.skip {o a b:List ByteArray} {n:Nat} {p:Option CuT} (h:CuI o a b n p) (hn:n < o.length) (hl:DiffM.look (kn o a) n=none∨DiffM.look (kn o b) n=none):CuI o a b (n + 1) p :=
 ⟨hn,by have:=h.i;omega,h.j.one,h.k.one,by have:=h.len;omega,fun s hs=>by obtain ⟨a,b,c,d⟩:=h.st s hs;exact ⟨a,by omega,by omega,by omega⟩,by
  have:=h.rest
  rw [show o.length - n=(o.length - (n + 1)) + 1 by omega,chI] at this
  rcases hl with e|e
  ·rw [e] at this;exact this
  ·rw [e] at this
   cases e1:DiffM.look (kn o a) n <;> (rw [e1] at this;exact this)⟩
theorem CuI.step {o a b:List ByteArray} {n j k:Nat} {p:Option CuT} (h:CuI o a b n p) (hn:n < o.length) (h1:DiffM.look (kn o a) n=some j) (h2:DiffM.look (kn o b) n=some k) (s:CuT) (hi:s.i=n + 1) (hj:s.j=j + 1) (hk:s.k=k + 1) (hst:s.c.st=true)
  (hb:s.c.b.length≤n + 1) (hl:s.c.l.length≤n + 1) (hr:s.c.r.length≤n + 1) (hlen:s.pre.length≤2 * n + 1) (ho:s.pre ++ [s.c]=mG (gX o a b (cuU p) n j k).out o[n]):CuI o a b (n + 1) (some s) :=
 ⟨hn,by simp only [cuU];omega,by simp only [cuU];rw [hj];exact h.j.step (oM o a) h1,by simp only [cuU];rw [hk];exact h.k.step (oM o b) h2,by simp only [cuU,List.length_append,List.length_singleton];omega,fun s' hs=>(by cases hs;exact ⟨hst,hb,hl,hr⟩),by
  have:=h.rest
  rw [show o.length - n=(o.length - (n + 1)) + 1 by omega,chI,h1,h2] at this
  rw [← this]
  congr 1
  simp only [cuU,qXm,gX] at ho ⊢;rw [hi,hj,hk]
  congr 1
  rw [ho];simp [List.getD_eq_getElem?_getD,hn]⟩
abbrev cQ (x y z:ByteArray):List (Ck ByteArray):=gJ (dA x) (dA y) (dA z)
set_option maxHeartbeats 8000000 in
theorem zFx (x y z:ByteArray) (hx:x.size≤4294967296) (hy:y.size≤4294967296) (hz:z.size≤4294967296):HFun Try.prog 4 [.v (.string x),.v (.string y),.v (.string z)] (fun h st =>
  (fK x y z≠0∧h=.tup [.v (.slice none 0 0),.v (.int .i64 (fK x y z))]∧st=[]) ∨
  (cH x=0∧cH y=0∧cH z=0∧h=.tup [.own 0,.v (.int .i64 0)]∧st=[(0,.sl true 33 4 (cks (cQ x y z)))])):=by
 refine rT (N:=99) Try.func4 rfl Try.ntmps4 Try.results4 (by simp) ?_
 refine zE ?_;refine zJ (fun K hK=>?_);simp (disch:=omega) only [push_cast,↓iC9,simprocAttr];refine hK _ ?_;clear hK K
 refine zE ?_;refine zE ?_;refine zJ (fun K hK=>?_);simp (disch:=omega) only [push_cast,↓iC9,simprocAttr];refine hK _ ?_;clear hK K
 refine zA ?_;refine zD ?_;refine fS (mcE x y z) (fun i=>i≤3∧(0 < i→cH x=0)∧(1 < i→cH y=0)∧(2 < i→cH z=0)) (fun i=>3 - i) [0,1,2,22,23] [] 0 (by simp only [zZ,zR,zP,zQ,zN,zS,zM,zX,zU,Nat.reduceEqDiff,reduceIte,mcE];try rfl) ⟨by omega,by omega,by omega,by omega⟩ ?_
 rintro i ⟨hi,h0,h1,h2⟩;simp only [mcE]
 have hcs:i=0∨i=1∨i=2∨i=3:=by omega
 rcases hcs with rfl|rfl|rfl|rfl
 ·refine zE ?_;refine zJ (fun K hK=>?_);simp (disch:=omega) only [push_cast,↓iC9,simprocAttr];refine hK _ ?_;clear hK K
  refine zE ?_;refine yD rfl ?_;refine zC ?_;refine zE ?_;refine zD ?_;refine zE ?_;refine zJ (fun K hK=>?_);simp (disch:=omega) only [push_cast,↓iC9,simprocAttr];(repeat refine ⟨by first|omega|decide|((repeat' apply And.intro) <;> first|omega|decide),?_⟩);refine hK _ ?_;clear hK K
  refine zE ?_;refine zJ (fun K hK=>?_);simp (disch:=omega) only [push_cast,↓iC9,simprocAttr]
  refine tZ cl9 (qEq x hx) (.cons (.v _) .nil) ?_;with_reducible refine aH ?_;simp (disch:=omega) only [push_cast,↓iC9,simprocAttr]
  refine hK _ ?_;clear hK K
  by_cases he:cH x=0
  ·refine zE ?_;refine zJ (fun K hK=>?_);simp (disch:=omega) only [push_cast,↓iC9,simprocAttr,he];refine hK _ ?_;clear hK K
   refine zA ?_;refine yC rfl ?_;refine zC ?_;refine zB ?_;refine zA ?_;refine zJ (fun K hK=>?_);simp (disch:=omega) only [push_cast,↓iC9,simprocAttr];refine hK _ ?_;clear hK K
   refine zA ?_;exact ⟨1,by simp only [zZ,zR,zP,zQ,zN,zS,zM,zX,zU,Nat.reduceEqDiff,reduceIte,mcE];rfl,⟨by omega,fun _=>he,by omega,by omega⟩,by omega⟩
  ·refine zE ?_;refine zJ (fun K hK=>?_);simp (disch:=omega) only [push_cast,↓iC9,simprocAttr];refine hK _ ?_;clear hK K
   refine zA ?_;refine yD rfl ?_;refine zE ?_;refine zJ (fun K hK=>?_);simp (disch:=omega) only [push_cast,↓iC9,simprocAttr];refine hK _ ?_;clear hK K
   refine zA ?_;refine zW ?_;refine zL ?_;refine zK ?_;refine zK ?_;refine zL ?_;refine zK ?_;simp only [yA,yM,yH,yE,aR,bT,yK,yJ,zS,zM,Nat.reduceEqDiff,reduceIte,reduceCtorEq]
   have er:fK x y z=cH x:=by rw [fK,if_pos he]
   exact tD (.inl ⟨by rw [er];exact he,by rw [er],rfl⟩)
 ·refine zE ?_;refine zJ (fun K hK=>?_);simp (disch:=omega) only [push_cast,↓iC9,simprocAttr];refine hK _ ?_;clear hK K
  refine zE ?_;refine yD rfl ?_;refine zC ?_;refine zE ?_;refine zD ?_;refine zE ?_;refine zJ (fun K hK=>?_);simp (disch:=omega) only [push_cast,↓iC9,simprocAttr];(repeat refine ⟨by first|omega|decide|((repeat' apply And.intro) <;> first|omega|decide),?_⟩);refine hK _ ?_;clear hK K
  refine zE ?_;refine zJ (fun K hK=>?_);simp (disch:=omega) only [push_cast,↓iC9,simprocAttr]
  refine tZ cl9 (qEq y hy) (.cons (.v _) .nil) ?_;with_reducible refine aH ?_;simp (disch:=omega) only [push_cast,↓iC9,simprocAttr]
  refine hK _ ?_;clear hK K
  by_cases he:cH y=0
  ·refine zE ?_;refine zJ (fun K hK=>?_);simp (disch:=omega) only [push_cast,↓iC9,simprocAttr,he];refine hK _ ?_;clear hK K
   refine zA ?_;refine yC rfl ?_;refine zC ?_;refine zB ?_;refine zA ?_;refine zJ (fun K hK=>?_);simp (disch:=omega) only [push_cast,↓iC9,simprocAttr];refine hK _ ?_;clear hK K
   refine zA ?_;exact ⟨2,by simp only [zZ,zR,zP,zQ,zN,zS,zM,zX,zU,Nat.reduceEqDiff,reduceIte,mcE];rfl,⟨by omega,fun _=>h0 (by omega),fun _=>he,by omega⟩,by omega⟩
  ·refine zE ?_;refine zJ (fun K hK=>?_);simp (disch:=omega) only [push_cast,↓iC9,simprocAttr];refine hK _ ?_;clear hK K
   refine zA ?_;refine yD rfl ?_;refine zE ?_;refine zJ (fun K hK=>?_);simp (disch:=omega) only [push_cast,↓iC9,simprocAttr];refine hK _ ?_;clear hK K
   refine zA ?_;refine zW ?_;refine zL ?_;refine zK ?_;refine zK ?_;refine zL ?_;refine zK ?_;simp only [yA,yM,yH,yE,aR,bT,yK,yJ,zS,zM,Nat.reduceEqDiff,reduceIte,reduceCtorEq]
   have er:fK x y z=cH y:=by rw [fK,if_neg (by rw [h0 (by omega)];simp),if_pos he]
   exact tD (.inl ⟨by rw [er];exact he,by rw [er],rfl⟩)
 ·refine zE ?_;refine zJ (fun K hK=>?_);simp (disch:=omega) only [push_cast,↓iC9,simprocAttr];refine hK _ ?_;clear hK K
  refine zE ?_;refine yD rfl ?_;refine zC ?_;refine zE ?_;refine zD ?_;refine zE ?_;refine zJ (fun K hK=>?_);simp (disch:=omega) only [push_cast,↓iC9,simprocAttr];(repeat refine ⟨by first|omega|decide|((repeat' apply And.intro) <;> first|omega|decide),?_⟩);refine hK _ ?_;clear hK K
  refine zE ?_;refine zJ (fun K hK=>?_);simp (disch:=omega) only [push_cast,↓iC9,simprocAttr]
  refine tZ cl9 (qEq z hz) (.cons (.v _) .nil) ?_;with_reducible refine aH ?_;simp (disch:=omega) only [push_cast,↓iC9,simprocAttr]
  refine hK _ ?_;clear hK K
  by_cases he:cH z=0
  ·refine zE ?_;refine zJ (fun K hK=>?_);simp (disch:=omega) only [push_cast,↓iC9,simprocAttr,he];refine hK _ ?_;clear hK K
   refine zA ?_;refine yC rfl ?_;refine zC ?_;refine zB ?_;refine zA ?_;refine zJ (fun K hK=>?_);simp (disch:=omega) only [push_cast,↓iC9,simprocAttr];refine hK _ ?_;clear hK K
   refine zA ?_;exact ⟨3,by simp only [zZ,zR,zP,zQ,zN,zS,zM,zX,zU,Nat.reduceEqDiff,reduceIte,mcE];rfl,⟨by omega,fun _=>h0 (by omega),fun _=>h1 (by omega),fun _=>he⟩,by omega⟩
  ·refine zE ?_;refine zJ (fun K hK=>?_);simp (disch:=omega) only [push_cast,↓iC9,simprocAttr];refine hK _ ?_;clear hK K
   refine zA ?_;refine yD rfl ?_;refine zE ?_;refine zJ (fun K hK=>?_);simp (disch:=omega) only [push_cast,↓iC9,simprocAttr];refine hK _ ?_;clear hK K
   refine zA ?_;refine zW ?_;refine zL ?_;refine zK ?_;refine zK ?_;refine zL ?_;refine zK ?_;simp only [yA,yM,yH,yE,aR,bT,yK,yJ,zS,zM,Nat.reduceEqDiff,reduceIte,reduceCtorEq]
   have er:fK x y z=cH z:=by rw [fK,if_neg (by rw [h0 (by omega)];simp),if_neg (by rw [h1 (by omega)];simp)]
   exact tD (.inl ⟨by rw [er];exact he,by rw [er],rfl⟩)
 ·refine zE ?_;refine zJ (fun K hK=>?_);simp (disch:=omega) only [push_cast,↓iC9,simprocAttr];refine hK _ ?_;clear hK K
  refine zE ?_;refine yC rfl ?_;refine zT ?_;refine zG ?_;refine zG ?_;refine zH ?_;refine zE ?_
  have t0:=h0 (by omega)
  have t1:=h1 (by omega)
  have t2:=h2 (by omega)
  have l0:=dX t0
  have l1:=dX t1
  have l2:=dX t2
  refine yB [0,1,2] [] (by simp only [zZ,zR,zP,zQ,zN,zS,zM,zX,zU,Nat.reduceEqDiff,reduceIte];exact rfl) ?_
  refine zJ (fun K hK=>?_);simp (disch:=omega) only [push_cast,↓iC9,simprocAttr]
  refine hat 264 zCk (qBh x hx) (.cons (.v _) .nil) ?_;rintro _ _ ⟨rfl,rfl⟩;with_reducible refine aH ?_;simp (disch:=omega) only [push_cast,↓iC9,simprocAttr]
  refine hat 280 zCk (qBh y hy) (.cons (.v _) .nil) ?_;rintro _ _ ⟨rfl,rfl⟩;with_reducible refine aH ?_;simp (disch:=omega) only [push_cast,↓iC9,simprocAttr]
  refine hat 296 zCk (qBh z hz) (.cons (.v _) .nil) ?_;rintro _ _ ⟨rfl,rfl⟩;with_reducible refine aH ?_;simp (disch:=omega) only [push_cast,↓iC9,simprocAttr]
  refine hK _ ?_;clear hK K;refine yB [11,12,13] [264,280,296] (by simp only [zZ,zR,zP,zQ,zN,zS,zM,zX,zU,Nat.reduceEqDiff,reduceIte];exact rfl) ?_
  refine dE 264 rfl (by simp only [bJ,bC,aL,aT,aJ,cC,aX,aY,aK,aW,aV,bK,aZ,aU,bF,bG,bH,Nat.reduceEqDiff,reduceIte,List.map_cons,List.map_nil,List.map_append];exact rfl) ?_
  refine dE 280 rfl (by simp only [bJ,bC,aL,aT,aJ,cC,aX,aY,aK,aW,aV,bK,aZ,aU,bF,bG,bH,Nat.reduceEqDiff,reduceIte,List.map_cons,List.map_nil,List.map_append];exact rfl) ?_
  refine dE 296 rfl (by simp only [bJ,bC,aL,aT,aJ,cC,aX,aY,aK,aW,aV,bK,aZ,aU,bF,bG,bH,Nat.reduceEqDiff,reduceIte,List.map_cons,List.map_nil,List.map_append];exact rfl) ?_
  have hch:cQ x y z=gJ (dA x) (dA y) (dA z):=rfl
  rw [hch];clear hch h0 h1 h2 hx hy hz;generalize hO:dA x=o at *
  generalize hA:dA y=a at *
  generalize hB:dA z=b at *
  refine zE ?_;refine zJ (fun K hK=>?_);simp (disch:=omega) only [push_cast,↓iC9,simprocAttr]
  refine hat 328 zG8 (qDn o a l0 l1) (.cons (dF (aQ _)) (.cons (dF (aQ _)) .nil)) ?_;rintro _ _ ⟨rfl,rfl⟩;with_reducible refine aH ?_;simp (disch:=omega) only [push_cast,↓iC9,simprocAttr]
  refine hK _ ?_;clear hK K;refine zE ?_;refine zE ?_;refine zJ (fun K hK=>?_);simp (disch:=omega) only [push_cast,↓iC9,simprocAttr];refine hK _ ?_;clear hK K
  refine zA ?_;refine yC rfl ?_;refine zC ?_;refine zE ?_;refine yB [11,12,13,14] [328] (by simp only [zZ,zR,zP,zQ,zN,zS,zM,zX,zU,Nat.reduceEqDiff,reduceIte];exact rfl) ?_
  refine zJ (fun K hK=>?_);simp (disch:=omega) only [push_cast,↓iC9,simprocAttr]
  refine hat 400 zG8 (qDn o b l0 l2) (.cons (dF (aQ _)) (.cons (dF (aQ _)) .nil)) ?_;rintro _ _ ⟨rfl,rfl⟩;with_reducible refine aH ?_;simp (disch:=omega) only [push_cast,↓iC9,simprocAttr]
  refine hK _ ?_;clear hK K;refine zE ?_;refine zE ?_;refine zJ (fun K hK=>?_);simp (disch:=omega) only [push_cast,↓iC9,simprocAttr];refine hK _ ?_;clear hK K
  refine zA ?_;refine yC rfl ?_;refine zC ?_;refine zE ?_;refine yB [11,12,13,14,16] [328,400] (by simp only [zZ,zR,zP,zQ,zN,zS,zM,zX,zU,Nat.reduceEqDiff,reduceIte];exact rfl) ?_
  refine zJ (fun K hK=>?_);simp (disch:=omega) only [push_cast,↓iC9,simprocAttr];refine hK _ ?_;clear hK K
  refine yB [11,12,13,14,16,17] [136,328,400] (by simp only [zZ,zR,zP,zQ,zN,zS,zM,zX,zU,Nat.reduceEqDiff,reduceIte];exact rfl) ?_
  refine zA3 136 6 9000 33 4 (by decide) rfl rfl (by simp only [push_cast,List.set_cons_succ,List.set_cons_zero,Nat.reduceEqDiff,reduceIte,Nat.reduceBEq,cond_false,cond_true];exact rfl) ?_
  refine zE ?_;refine zE ?_;refine zJ (fun K hK=>?_);simp (disch:=omega) only [push_cast,↓iC9,simprocAttr,aA];refine hK _ ?_;clear hK K
  refine zA ?_;refine zD ?_;refine fS (cuE o a b) (fun p=>CuI o a b p.1 p.2) (fun p=>o.length - p.1) [11,12,13,14,16,17,61,62] [136,328,400,9000,1000002,1000003,1000004] (0,none) (by simp only [zZ,zR,zP,zQ,zN,zS,zM,zX,zU,Nat.reduceEqDiff,reduceIte,cuE,lQ];try rfl) (qWk o a b) ?_
  have px:∀ n,n < o.length→∀ d,(gR (eE o a)).getD n d=[.v (.int .i64 (kJ (kn o a) n))]:=fun n hn d=>by rw [fP (by rw [lU];exact hn)];unfold eE;rw [qSc o a n hn]
  have py:∀ n,n < o.length→∀ d,(gR (eE o b)).getD n d=[.v (.int .i64 (kJ (kn o b) n))]:=fun n hn d=>by rw [fP (by rw [lU];exact hn)];unfold eE;rw [qSc o b n hn]
  have lx:(gR (eE o a)).length=o.length:=by rw [dJ,lU]
  have ly:(gR (eE o b)).length=o.length:=by rw [dJ,lU]
  rintro ⟨n,p⟩ I;simp only at I
  by_cases hn:n < o.length
  ·cases e1:DiffM.look (kn o a) n with
  |none =>
    have v1:kJ (kn o a) n=-1:=by rw [kJ,e1]
    have I':=I.skip hn (.inl e1)
    rcases p with _|s
    all_goals
     simp only [cuE,lQ]
     (repeat first|refine zE ?_|refine zA ?_|refine zC ?_|refine zB ?_|refine zD ?_);refine zJ (fun K hK=>?_);simp (disch:=omega) only [push_cast,↓iC9,simprocAttr];refine hK _ ?_;clear hK K
     (repeat first|refine zE ?_|refine zA ?_|refine zC ?_|refine zB ?_|refine zD ?_)
     refine yD rfl ?_
     (repeat first|refine zK ?_|refine zG ?_|refine zH ?_|refine zF rfl ?_|refine zL ?_|refine zB ?_|refine zE ?_|refine zA ?_|refine zC ?_|refine zT ?_|refine zW ?_)
     (repeat first|refine zE ?_|refine zA ?_|refine zC ?_|refine zB ?_|refine zD ?_);refine zJ (fun K hK=>?_);simp (disch:=omega) only [push_cast,↓iC9,simprocAttr];refine hK _ ?_;clear hK K
     (repeat first|refine zE ?_|refine zA ?_|refine zC ?_|refine zB ?_|refine zD ?_);refine zJ (fun K hK=>?_);simp (disch:=omega) only [push_cast,↓iC9,simprocAttr,lx,px n hn,v1];refine hK _ ?_;clear hK K
     (repeat first|refine zE ?_|refine zA ?_|refine zC ?_|refine zB ?_|refine zD ?_)
     refine yC rfl ?_
     (repeat first|refine zK ?_|refine zG ?_|refine zH ?_|refine zF rfl ?_|refine zL ?_|refine zB ?_|refine zE ?_|refine zA ?_|refine zC ?_|refine zT ?_|refine zW ?_)
     (repeat first|refine zE ?_|refine zA ?_|refine zC ?_|refine zB ?_|refine zD ?_);refine zJ (fun K hK=>?_);simp (disch:=omega) only [push_cast,↓iC9,simprocAttr];refine hK _ ?_;clear hK K
     (repeat first|refine zK ?_|refine zG ?_|refine zH ?_|refine zF rfl ?_|refine zL ?_|refine zB ?_|refine zE ?_|refine zA ?_|refine zC ?_|refine zT ?_|refine zW ?_)
    ·exact ⟨(n + 1,none),by simp only [zZ,zR,zP,zQ,zN,zS,zM,zX,zU,Nat.reduceEqDiff,reduceIte,cuE,lQ];try rfl,I',by dsimp only;omega⟩
    ·exact ⟨(n + 1,some s),by simp only [zZ,zR,zP,zQ,zN,zS,zM,zX,zU,Nat.reduceEqDiff,reduceIte,cuE,lQ];try rfl,I',by dsimp only;omega⟩
  |some q =>
    have v1:kJ (kn o a) n=(q:Int):=by rw [kJ,e1]
    cases e2:DiffM.look (kn o b) n with
   |none =>
     have v2:kJ (kn o b) n=-1:=by rw [kJ,e2]
     have I':=I.skip hn (.inr e2)
     rcases p with _|s
     all_goals
      simp only [cuE,lQ]
      (repeat first|refine zE ?_|refine zA ?_|refine zC ?_|refine zB ?_|refine zD ?_);refine zJ (fun K hK=>?_);simp (disch:=omega) only [push_cast,↓iC9,simprocAttr];refine hK _ ?_;clear hK K
      (repeat first|refine zE ?_|refine zA ?_|refine zC ?_|refine zB ?_|refine zD ?_)
      refine yD rfl ?_
      (repeat first|refine zK ?_|refine zG ?_|refine zH ?_|refine zF rfl ?_|refine zL ?_|refine zB ?_|refine zE ?_|refine zA ?_|refine zC ?_|refine zT ?_|refine zW ?_)
      (repeat first|refine zE ?_|refine zA ?_|refine zC ?_|refine zB ?_|refine zD ?_);refine zJ (fun K hK=>?_);simp (disch:=omega) only [push_cast,↓iC9,simprocAttr];refine hK _ ?_;clear hK K
      (repeat first|refine zE ?_|refine zA ?_|refine zC ?_|refine zB ?_|refine zD ?_);refine zJ (fun K hK=>?_);simp (disch:=omega) only [push_cast,↓iC9,simprocAttr,lx,px n hn,v1,ly,py n hn,v2];refine hK _ ?_;clear hK K
      (repeat first|refine zE ?_|refine zA ?_|refine zC ?_|refine zB ?_|refine zD ?_)
      refine yC rfl ?_
      (repeat first|refine zK ?_|refine zG ?_|refine zH ?_|refine zF rfl ?_|refine zL ?_|refine zB ?_|refine zE ?_|refine zA ?_|refine zC ?_|refine zT ?_|refine zW ?_)
      (repeat first|refine zE ?_|refine zA ?_|refine zC ?_|refine zB ?_|refine zD ?_);refine zJ (fun K hK=>?_);simp (disch:=omega) only [push_cast,↓iC9,simprocAttr];refine hK _ ?_;clear hK K
      (repeat first|refine zK ?_|refine zG ?_|refine zH ?_|refine zF rfl ?_|refine zL ?_|refine zB ?_|refine zE ?_|refine zA ?_|refine zC ?_|refine zT ?_|refine zW ?_)
     ·exact ⟨(n + 1,none),by simp only [zZ,zR,zP,zQ,zN,zS,zM,zX,zU,Nat.reduceEqDiff,reduceIte,cuE,lQ];try rfl,I',by dsimp only;omega⟩
     ·exact ⟨(n + 1,some s),by simp only [zZ,zR,zP,zQ,zN,zS,zM,zX,zU,Nat.reduceEqDiff,reduceIte,cuE,lQ];try rfl,I',by dsimp only;omega⟩
   |some r =>
     have v2:kJ (kn o b) n=(r:Int):=by rw [kJ,e2]
     have hq:=I.j.lt n q e1
     have hr:=I.k.lt n r e2
     have hqj:=I.j.low n q (Nat.le_refl _) e1
     have hrk:=I.k.low n r (Nat.le_refl _) e2
     have hIi:=I.i
     have hIl:=I.len
     have hsg:o.getD n default=o[n]:=by simp [List.getD_eq_getElem?_getD,hn]
     rcases p with _|s
     ·simp only [cuE,lQ];simp only [cuU] at hqj hrk hIi hIl
      have hout:(btO o a b 0 0 0 n q r []).length≤1∧∀ c,(btO o a b 0 0 0 n q r []).getLast?=some c→c.st=false:=by
       unfold btO gX;dsimp only;split
       ·exact ⟨by simp,fun c hc=>by simp at hc;subst hc;rfl⟩
       ·exact ⟨by simp,fun c hc=>by simp at hc⟩
      have C:=qRi o a b 0 0 0 n q r [] (by omega) (by omega) (by omega) (by omega) (by omega) (by omega) (by simp)
      have C2:=qTi o a b n q r n (btO o a b 0 0 0 n q r []) hout.2 hn (by omega) (by omega) (by omega) (by omega) (by have:=hout.1;omega)
      refine zE ?_;refine zJ (fun K hK=>?_);simp (disch:=omega) only [push_cast,↓iC9,simprocAttr];refine hK _ ?_;clear hK K
      refine zE ?_;refine yD rfl ?_;refine zC ?_;refine zE ?_;refine zD ?_;refine zE ?_;refine zJ (fun K hK=>?_);simp (disch:=omega) only [push_cast,↓iC9,simprocAttr];refine hK _ ?_;clear hK K
      refine zE ?_;refine zJ (fun K hK=>?_);simp (disch:=omega) only [push_cast,↓iC9,simprocAttr,lx,px n hn,v1,ly,py n hn,v2];refine hK _ ?_;clear hK K
      refine zA ?_;refine yD rfl ?_;refine yB [11,12,13,14,16,17,18,61,62] [136,328,400,9000] (by simp only [zZ,zR,zP,zQ,zN,zS,zM,zX,zU,Nat.reduceEqDiff,reduceIte];exact rfl) ?_
      refine zE ?_;refine HW_drw 9 mixed (by kernel_rfl) (fun K hK=>?_);simp (disch:=omega) only [push_cast,↓iC9,simprocAttr,lx,px n hn,v1,ly,py n hn,v2,eU]
      with_reducible refine aH ?_;simp (disch:=omega) only [push_cast,↓iC9,simprocAttr]
      refine qCp 688 [136,9000] qWn (C) rfl (by decide) (by decide) (by simp only [push_cast,simprocAttr];try rfl) (by simp only [push_cast,simprocAttr];try rfl) ?_
      rintro _ _ ⟨rfl,rfl⟩;refine aH ?_;simp (disch:=omega) only [push_cast,↓iC9,simprocAttr];refine hK _ ?_;clear hK K;refine yB [11,12,13,14,16,17,18,61,62] [136,328,400,9000] (by simp only [zZ,zR,zP,zQ,zN,zS,zM,zX,zU,Nat.reduceEqDiff,reduceIte];exact rfl) ?_
      refine zJ (fun K hK=>?_);simp (disch:=omega) only [push_cast,↓iC9,simprocAttr]
      refine qCp 704 [136,9000] qYk (C2) rfl (by decide) (by decide) (by simp only [push_cast,simprocAttr];try rfl) (by simp only [push_cast,simprocAttr];try rfl) ?_
      rintro _ _ ⟨rfl,rfl⟩;refine aH ?_;simp (disch:=omega) only [push_cast,↓iC9,simprocAttr,cP,List.map_append];refine hK _ ?_;clear hK K;refine zB ?_;refine zA ?_;refine yB [11,12,13,14,16,17,61,62] [136,328,400,9000,706,707,708] (by simp only [zZ,zR,zP,zQ,zN,zS,zM,zX,zU,Nat.reduceEqDiff,reduceIte];exact rfl) ?_
      refine jB 706 1000002 (by decide) rfl rfl (by simp only [fZ,kW,eY,dW,eP,dL,gS,eC,eB,eF,fQ,eD,dZ,dD,fG,fJ,fH,Nat.reduceMul,Nat.reduceAdd,Nat.reduceEqDiff,reduceIte,List.map_cons,List.map_nil,List.map_append,cP];exact rfl) ?_
      refine jB 707 1000003 (by decide) rfl rfl (by simp only [fZ,kW,eY,dW,eP,dL,gS,eC,eB,eF,fQ,eD,dZ,dD,fG,fJ,fH,Nat.reduceMul,Nat.reduceAdd,Nat.reduceEqDiff,reduceIte,List.map_cons,List.map_nil,List.map_append,cP];exact rfl) ?_
      refine jB 708 1000004 (by decide) rfl rfl (by simp only [fZ,kW,eY,dW,eP,dL,gS,eC,eB,eF,fQ,eD,dZ,dD,fG,fJ,fH,Nat.reduceMul,Nat.reduceAdd,Nat.reduceEqDiff,reduceIte,List.map_cons,List.map_nil,List.map_append,cP];exact rfl) ?_
      refine zJ (fun K hK=>?_);simp (disch:=omega) only [push_cast,↓iC9,simprocAttr];refine hK _ ?_;clear hK K
      refine zA ?_;refine ⟨(n + 1,some ⟨n + 1,q + 1,r + 1,btO o a b 0 0 0 n q r [],⟨true,[o[n]],[o[n]],[o[n]]⟩⟩),by simp only [zZ,zR,zP,zQ,zN,zS,zM,zX,zU,Nat.reduceEqDiff,reduceIte,cuE,lQ];try rfl,I.step hn e1 e2 _ rfl rfl rfl rfl (by simp) (by simp) (by simp) ?_ ?_,by dsimp only;omega⟩
      ·have:=hout.1;dsimp only;omega
      ·show btO o a b 0 0 0 n q r [] ++ [_]=mG (btO o a b 0 0 0 n q r []) o[n]
       exact (qA8 hout.2 _).symm
     ·obtain ⟨i,j,k,pre,c⟩:=s;simp only [cuE,lQ];simp only [cuU] at hqj hrk hIi hIl;obtain ⟨hc,cb,cl,cr⟩:=I.st _ rfl;dsimp only at hc cb cl cr
      have hpl:pre.length + 1≤2 * n:=by simpa using hIl
      have C:=qRh o a b i j k n q r pre c hc (by omega) (by omega) (by omega) (by omega) (by omega) (by omega) (by simp;omega)
      refine zE ?_;refine zJ (fun K hK=>?_);simp (disch:=omega) only [push_cast,↓iC9,simprocAttr];refine hK _ ?_;clear hK K
      refine zE ?_;refine yD rfl ?_;refine zC ?_;refine zE ?_;refine zD ?_;refine zE ?_;refine zJ (fun K hK=>?_);simp (disch:=omega) only [push_cast,↓iC9,simprocAttr];refine hK _ ?_;clear hK K
      refine zE ?_;refine zJ (fun K hK=>?_);simp (disch:=omega) only [push_cast,↓iC9,simprocAttr,lx,px n hn,v1,ly,py n hn,v2];refine hK _ ?_;clear hK K
      refine zA ?_;refine yD rfl ?_;refine yB [11,12,13,14,16,17,18,61,62] [136,328,400,9000,1000002,1000003,1000004] (by simp only [zZ,zR,zP,zQ,zN,zS,zM,zX,zU,Nat.reduceEqDiff,reduceIte];exact rfl) ?_
      refine zE ?_;refine HW_drw 9 mixed (by kernel_rfl) (fun K hK=>?_);simp (disch:=omega) only [push_cast,↓iC9,simprocAttr,lx,px n hn,v1,ly,py n hn,v2,eU]
      with_reducible refine aH ?_;simp (disch:=omega) only [push_cast,↓iC9,simprocAttr]
      refine qCp 688 [136,9000,1000002,1000003,1000004] qWn (C) rfl (by decide) (by decide) (by simp only [push_cast,List.map_append,cP,simprocAttr];try rfl) (by simp only [push_cast,List.map_append,cP,simprocAttr];try rfl) ?_
      rintro _ _ ⟨rfl,⟨hps,rfl⟩|⟨hst,rfl⟩⟩
      ·have hbo:btO o a b i j k n q r (pre ++ [c])=(pre ++ [c]) ++ [⟨false,(o.take n).drop i,(a.take q).drop j,(b.take r).drop k⟩]:=by rw [btO,gX,if_pos hps]
       have hlast:∀ c',(btO o a b i j k n q r (pre ++ [c])).getLast?=some c'→c'.st=false:=fun c' hc'=>by rw [hbo] at hc';simp at hc';subst hc';rfl
       have hol:(btO o a b i j k n q r (pre ++ [c])).length≤2 * n + 1:=by rw [hbo];simp;omega
       have C2:=qTi o a b n q r n (btO o a b i j k n q r (pre ++ [c])) hlast hn (by omega) (by omega) (by omega) (by omega) (by omega)
       refine aH ?_;simp (disch:=omega) only [push_cast,↓iC9,simprocAttr,cP,sF,List.map_append];refine hK _ ?_;clear hK K;refine yB [11,12,13,14,16,17,18,61,62] [136,328,400,9000] (by simp only [zZ,zR,zP,zQ,zN,zS,zM,zX,zU,Nat.reduceEqDiff,reduceIte];exact rfl) ?_
       refine zJ (fun K hK=>?_);simp (disch:=omega) only [push_cast,↓iC9,simprocAttr]
       refine qCp 704 [136,9000] qYk (C2) rfl (by decide) (by decide) (by simp only [push_cast,simprocAttr];try rfl) (by simp only [push_cast,simprocAttr];try rfl) ?_
       rintro _ _ ⟨rfl,rfl⟩;refine aH ?_;simp (disch:=omega) only [push_cast,↓iC9,simprocAttr,cP,List.map_append];refine hK _ ?_;clear hK K;refine zB ?_;refine zA ?_;refine yB [11,12,13,14,16,17,61,62] [136,328,400,9000,706,707,708] (by simp only [zZ,zR,zP,zQ,zN,zS,zM,zX,zU,Nat.reduceEqDiff,reduceIte];exact rfl) ?_
       refine jB 706 1000002 (by decide) rfl rfl (by simp only [fZ,kW,eY,dW,eP,dL,gS,eC,eB,eF,fQ,eD,dZ,dD,fG,fJ,fH,Nat.reduceMul,Nat.reduceAdd,Nat.reduceEqDiff,reduceIte,List.map_cons,List.map_nil,List.map_append,cP];exact rfl) ?_
       refine jB 707 1000003 (by decide) rfl rfl (by simp only [fZ,kW,eY,dW,eP,dL,gS,eC,eB,eF,fQ,eD,dZ,dD,fG,fJ,fH,Nat.reduceMul,Nat.reduceAdd,Nat.reduceEqDiff,reduceIte,List.map_cons,List.map_nil,List.map_append,cP];exact rfl) ?_
       refine jB 708 1000004 (by decide) rfl rfl (by simp only [fZ,kW,eY,dW,eP,dL,gS,eC,eB,eF,fQ,eD,dZ,dD,fG,fJ,fH,Nat.reduceMul,Nat.reduceAdd,Nat.reduceEqDiff,reduceIte,List.map_cons,List.map_nil,List.map_append,cP];exact rfl) ?_
       refine zJ (fun K hK=>?_);simp (disch:=omega) only [push_cast,↓iC9,simprocAttr];refine hK _ ?_;clear hK K
       refine zA ?_;refine ⟨(n + 1,some ⟨n + 1,q + 1,r + 1,btO o a b i j k n q r (pre ++ [c]),⟨true,[o[n]],[o[n]],[o[n]]⟩⟩),by simp only [zZ,zR,zP,zQ,zN,zS,zM,zX,zU,Nat.reduceEqDiff,reduceIte,cuE,lQ];try rfl,I.step hn e1 e2 _ rfl rfl rfl rfl (by simp) (by simp) (by simp) ?_ ?_,by dsimp only;omega⟩
       ·dsimp only;omega
       ·show btO o a b i j k n q r (pre ++ [c]) ++ [_]=mG (btO o a b i j k n q r (pre ++ [c])) o[n]
        exact (qA8 hlast _).symm
      ·have C2:=zC8 o a b n q r n pre c hn (by omega) (by omega) (by omega) (by omega) (by omega) (by omega) (by omega) (by omega)
       refine aH ?_;simp (disch:=omega) only [push_cast,↓iC9,simprocAttr,cP,sF,List.map_append];refine hK _ ?_;clear hK K;refine yB [11,12,13,14,16,17,18,61,62] [136,328,400,9000,1000002,1000003,1000004] (by simp only [zZ,zR,zP,zQ,zN,zS,zM,zX,zU,Nat.reduceEqDiff,reduceIte];exact rfl) ?_
       refine zJ (fun K hK=>?_);simp (disch:=omega) only [push_cast,↓iC9,simprocAttr]
       refine qCp 704 [136,9000,1000002,1000003,1000004] qYk (C2) rfl (by decide) (by decide) (by simp only [push_cast,List.map_append,cP,simprocAttr];try rfl) (by simp only [push_cast,List.map_append,cP,simprocAttr];try rfl) ?_
       rintro _ _ ⟨rfl,rfl⟩;refine aH ?_;simp (disch:=omega) only [push_cast,↓iC9,simprocAttr,cP,sF,List.map_append];refine hK _ ?_;clear hK K;refine zB ?_;refine zA ?_;refine zJ (fun K hK=>?_);simp (disch:=omega) only [push_cast,↓iC9,simprocAttr];refine hK _ ?_;clear hK K
       refine zA ?_;refine ⟨(n + 1,some ⟨n + 1,q + 1,r + 1,pre,⟨true,c.b ++ [o[n]],c.l ++ [o[n]],c.r ++ [o[n]]⟩⟩),by simp only [zZ,zR,zP,zQ,zN,zS,zM,zX,zU,Nat.reduceEqDiff,reduceIte,cuE,lQ];try rfl,I.step hn e1 e2 _ rfl rfl rfl rfl (by simp;omega) (by simp;omega) (by simp;omega) (by dsimp only;omega) ?_,by dsimp only;omega⟩
       show pre ++ [_]=mG (gX o a b ⟨i,j,k,pre ++ [c]⟩ n q r).out o[n]
       rw [gX,if_neg hst];exact (zAw hc _).symm
  ·have hne:n=o.length:=by have:=I.le;omega
   subst hne
   have hF:gJ o a b=(gX o a b (cuU p) o.length a.length b.length).out:=by
    have:=I.rest
    rw [Nat.sub_self,chI] at this;rw [gJ,← this]
   have hIi:=I.i
   have hIj:=I.j.le
   have hIk:=I.k.le
   have hIl:=I.len
   rcases p with _|s
   ·simp only [cuE,lQ]
    have C:=qRi o a b 0 0 0 o.length a.length b.length [] (by omega) (by omega) (by omega) (by omega) (by omega) (by omega) (by simp)
    refine zE ?_;refine zJ (fun K hK=>?_);simp (disch:=omega) only [push_cast,↓iC9,simprocAttr];refine hK _ ?_;clear hK K
    refine zE ?_;refine yC rfl ?_;refine zT ?_;refine zG ?_;refine zG ?_;refine zH ?_;refine zE ?_;refine yB [11,12,13,17] [136,9000] (by simp only [zZ,zR,zP,zQ,zN,zS,zM,zX,zU,Nat.reduceEqDiff,reduceIte];exact rfl) ?_
    refine zJ (fun K hK=>?_);simp (disch:=omega) only [push_cast,↓iC9,simprocAttr,aA]
    refine qCp 768 [136,9000] qWn (C) rfl (by decide) (by decide) (by simp only [push_cast,simprocAttr];try rfl) (by simp only [push_cast,simprocAttr];try rfl) ?_
    rintro _ _ ⟨rfl,rfl⟩;refine aH ?_;simp (disch:=omega) only [push_cast,↓iC9,simprocAttr];refine hK _ ?_;clear hK K;refine yB [17] [136,9000] (by simp only [zZ,zR,zP,zQ,zN,zS,zM,zX,zU,Nat.reduceEqDiff,reduceIte];exact rfl) ?_
    refine zE ?_;refine zJ (fun K hK=>?_);simp (disch:=omega) only [push_cast,↓iC9,simprocAttr];refine hK _ ?_;clear hK K
    refine zA ?_;refine zW ?_;simp only [yA,yM,yH,yE,aR,bT,yK,yJ,zS,zM,Nat.reduceEqDiff,reduceIte,reduceCtorEq];exact xJ rfl (qBs _) (.inr ⟨t0,t1,t2,rfl,by rw [hF];rfl⟩)
   ·obtain ⟨i,j,k,pre,c⟩:=s;simp only [cuU] at hIi hIj hIk hIl;obtain ⟨hc,-,-,-⟩:=I.st _ rfl;dsimp only at hc
    have hpl:pre.length + 1≤2 * o.length:=by simpa using hIl
    have C:=qRh o a b i j k o.length a.length b.length pre c hc (by omega) (by omega) (by omega) (by omega) (by omega) (by omega) (by simp;omega)
    simp only [cuE,lQ];refine zE ?_;refine zJ (fun K hK=>?_);simp (disch:=omega) only [push_cast,↓iC9,simprocAttr];refine hK _ ?_;clear hK K
    refine zE ?_;refine yC rfl ?_;refine zT ?_;refine zG ?_;refine zG ?_;refine zH ?_;refine zE ?_;refine yB [11,12,13,17] [136,9000,1000002,1000003,1000004] (by simp only [zZ,zR,zP,zQ,zN,zS,zM,zX,zU,Nat.reduceEqDiff,reduceIte];exact rfl) ?_
    refine zJ (fun K hK=>?_);simp (disch:=omega) only [push_cast,↓iC9,simprocAttr,aA]
    refine qCp 768 [136,9000,1000002,1000003,1000004] qWn (C) rfl (by decide) (by decide) (by simp only [push_cast,List.map_append,cP,simprocAttr];try rfl) (by simp only [push_cast,List.map_append,cP,simprocAttr];try rfl) ?_
    rintro _ _ ⟨rfl,⟨hps,rfl⟩|⟨hst,rfl⟩⟩
    ·refine aH ?_;simp (disch:=omega) only [push_cast,↓iC9,simprocAttr,cP,sF,List.map_append];refine hK _ ?_;clear hK K;refine yB [17] [136,9000] (by simp only [zZ,zR,zP,zQ,zN,zS,zM,zX,zU,Nat.reduceEqDiff,reduceIte];exact rfl) ?_
     refine zE ?_;refine zJ (fun K hK=>?_);simp (disch:=omega) only [push_cast,↓iC9,simprocAttr];refine hK _ ?_;clear hK K
     refine zA ?_;refine zW ?_;simp only [yA,yM,yH,yE,aR,bT,yK,yJ,zS,zM,Nat.reduceEqDiff,reduceIte,reduceCtorEq];exact xJ rfl (qBs _) (.inr ⟨t0,t1,t2,rfl,by rw [hF];rfl⟩)
    ·refine aH ?_;simp (disch:=omega) only [push_cast,↓iC9,simprocAttr,cP,sF,List.map_append];refine hK _ ?_;clear hK K;refine yB [17] [136,9000,1000002,1000003,1000004] (by simp only [zZ,zR,zP,zQ,zN,zS,zM,zX,zU,Nat.reduceEqDiff,reduceIte];exact rfl) ?_
     have e1:ckH pre ++ [[.v (.bool true),.lst true (aD c.b),.lst true (aD c.l),.lst true (aD c.r)]]=(cks (pre ++ [c])).map (List.map FV.h):=by
      rw [qWr];cases c;simp only at hc;subst hc;rfl
     refine dE 1000002 rfl (by simp only [bJ,bC,aL,aT,aJ,cC,aX,aY,aK,aW,aV,bK,aZ,aU,bF,bG,bH,Nat.reduceEqDiff,reduceIte,List.map_cons,List.map_nil,List.map_append,lJ];exact rfl) ?_
     refine dE 1000003 rfl (by simp only [bJ,bC,aL,aT,aJ,cC,aX,aY,aK,aW,aV,bK,aZ,aU,bF,bG,bH,Nat.reduceEqDiff,reduceIte,List.map_cons,List.map_nil,List.map_append,lJ];exact rfl) ?_
     refine dE 1000004 rfl (by simp only [bJ,bC,aL,aT,aJ,cC,aX,aY,aK,aW,aV,bK,aZ,aU,bF,bG,bH,Nat.reduceEqDiff,reduceIte,List.map_cons,List.map_nil,List.map_append,lJ];exact rfl) ?_
     refine zA1 9000 (cks (pre ++ [c])) e1 rfl (by simp only [mK,kC,Nat.reduceEqDiff,reduceIte];exact rfl) ?_
     refine zE ?_;refine zJ (fun K hK=>?_);simp (disch:=omega) only [push_cast,↓iC9,simprocAttr];refine hK _ ?_;clear hK K
     refine zA ?_;refine zW ?_;simp only [yA,yM,yH,yE,aR,bT,yK,yJ,zS,zM,Nat.reduceEqDiff,reduceIte,reduceCtorEq];refine xJ rfl (qBs _) (.inr ⟨t0,t1,t2,rfl,?_⟩);rw [hF];show [(0,Row.sl true 33 4 (cks (pre ++ [c])))]=[(0,Row.sl true 33 4 (cks (gX o a b ⟨i,j,k,pre ++ [c]⟩ o.length a.length b.length).out))]
     rw [gX,if_neg hst]
end Go.Proofs.Ytmgilahhnbopmaa
