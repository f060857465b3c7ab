/- What the walk of the law stands on. -/
import Derived.Test.YtjljkgeeimploaaGreatDoorQk
set_option linter.defProp false
set_option maxRecDepth 20000
set_option maxHeartbeats 16000000
namespace Go.Proofs.Y
open Go Go.Eng Go.RowKit Go.DiffM
def kR (x y z:Ba):Int:=if dT x≠0 then dT x else if dT y≠0 then dT y else dT z
def dW {s:Ba} (h:dT s=0):(cG s).length≤400:=by
 unfold dT at h;split at h
 ·omega
 ·split at h <;> omega
def mcE (x y z:Ba) (i:Nat):HS:=⟨[(0,.v (.string x)),(1,.v (.string y)),(2,.v (.string z)),(22,.agg [.v (.string x),.v (.string y),.v (.string z)]),(23,.v (.int .i64 i))],[]⟩
def qWv {cs:List (Ck Ba)} (h:∀ c,cs.getLast?=some c→c.st=false) (s:Ba):pS cs s=cs ++ [⟨true,[s],[s],[s]⟩]:=by
 unfold pS
 cases e:cs.getLast? with
|none =>
  have:cs=[]:=by simpa using e
  subst this;rfl
|some c=>simp [h c e]
def zZi {pre:List (Ck Ba)} {c:Ck Ba} (h:c.st=true) (s:Ba):pS (pre ++ [c]) s=pre ++ [⟨true,c.b ++ [s],c.l ++ [s],c.r ++ [s]⟩]:=by
 unfold pS;simp [h]
structure CuT where
 i:Nat
 j:Nat
 k:Nat
 pre:List (Ck Ba)
 c:Ck Ba
def mG (o a b:List Ba):Option CuT→aC
|none=>[(136,.bx true 134 [.lst true (aR o),.lst true (aR a),.lst true (aR b),.v (.int .i64 (0:Nat)),.v (.int .i64 (0:Nat)),.v (.int .i64 (0:Nat)),.own 9000]),(328,zGq (jJ o a)),(400,zGq (jJ o b)),(9000,.sl true 116 4 (cks []))]
|some s=>[(136,.bx true 134 [.lst true (aR o),.lst true (aR a),.lst true (aR b),.v (.int .i64 s.i),.v (.int .i64 s.j),.v (.int .i64 s.k),.own 9000]),(328,zGq (jJ o a)),(400,zGq (jJ o b)),(9000,zU0 s.pre),(1000002,oD s.c.b),(1000003,oD s.c.l),(1000004,oD s.c.r)]
def cuE (o a b:List Ba) (p:Nat × Option CuT):HS:=⟨[(11,.lst true (aR o)),(12,.lst true (aR a)),(13,.lst true (aR b)),(14,.own 328),(16,.own 400),(17,.ptr 136 7 0 0),(61,.v (.int .i64 o.length)),(62,.v (.int .i64 p.1))],mG o a b p.2⟩
def cuU:Option CuT→Cu Ba
|none=>⟨0,0,0,[]⟩
|some s=>⟨s.i,s.j,s.k,s.pre ++ [s.c]⟩
structure CuI (o a b:List Ba) (n:Nat) (p:Option CuT):Prop where
 le:n≤o.length
 i:(cuU p).i≤n
 j:Nxt (kn o a) n (cuU p).j a.length
 k:Nxt (kn o b) n (cuU p).k b.length
 len:(cuU p).out.length≤2 * n
 st:∀ s,p=some s→s.c.st=true∧s.c.b.length≤n∧s.c.l.length≤n∧s.c.r.length≤n
 rest:chI o a b (kn o a) (kn o b) (o.length - n) n (cuU p)=chT o a b (tri (kn o a) (kn o b)) ⟨0,0,0,[]⟩
def zS0 (o a b:List Ba):CuI o a b 0 none :=
 ⟨g7 _,a7 _,Nxt.init (pJ o a),Nxt.init (pJ o b),g7 _,fun _ h=>(by cases h),qFf (kn o a) (kn o b) _ 0 (kn o a) (kn o b) 0 0 ⟨0,0,0,[]⟩ (fun _ _=>rfl) (fun _ _=>rfl) (pJ o a) (pJ o b) (by omega)⟩
def CuI.skip {o a b:List Ba} {n:Nat} {p:Option CuT} (h:CuI o a b n p) (hn:n < o.length) (hl:DiffM.look (kn o a) n=none∨DiffM.look (kn o b) n=none):CuI o a b (n + 1) p :=
 ⟨hn,by have:=h.i;omega,h.j.one,h.k.one,by have:=h.len;omega,fun s hs=>by obtain ⟨a,b,c,d⟩:=h.st s hs;exact ⟨a,by omega,by omega,by omega⟩,by
  have:=h.rest
  rw [show o.length - n=(o.length - (n + 1)) + 1 by omega,chI] at this
  rcases hl with e|e
  ·rw [e] at this;exact this
  ·rw [e] at this
   cases e1:DiffM.look (kn o a) n <;> (rw [e1] at this;exact this)⟩
def CuI.step {o a b:List Ba} {n j k:Nat} {p:Option CuT} (h:CuI o a b n p) (hn:n < o.length) (h1:DiffM.look (kn o a) n=some j) (h2:DiffM.look (kn o b) n=some k) (s:CuT) (hi:s.i=n + 1) (hj:s.j=j + 1) (hk:s.k=k + 1) (hst:s.c.st=true)
  (hb:s.c.b.length≤n + 1) (hl:s.c.l.length≤n + 1) (hr:s.c.r.length≤n + 1) (hlen:s.pre.length≤2 * n + 1) (ho:s.pre ++ [s.c]=pS (kM o a b (cuU p) n j k).out o[n]):CuI o a b (n + 1) (some s) :=
 ⟨hn,by simp only [cuU];omega,by simp only [cuU];rw [hj];exact h.j.step (pJ o a) h1,by simp only [cuU];rw [hk];exact h.k.step (pJ o b) h2,by simp only [cuU,i8,t7];omega,fun s' hs=>(by cases hs;exact ⟨hst,hb,hl,hr⟩),by
  have:=h.rest
  rw [show o.length - n=(o.length - (n + 1)) + 1 by omega,chI,h1,h2] at this
  rw [← this]
  congr 1
  simp only [cuU,qXx,kM] at ho ⊢;rw [hi,hj,hk]
  congr 1
  rw [ho];simp [b6,hn]⟩
abbrev bG (x y z:Ba):List (Ck Ba):=lD (cG x) (cG y) (cG z)
def zS7 (x y z:Ba) (hx:x.size≤4294967296) (hy:y.size≤4294967296) (hz:z.size≤4294967296):HFun Tryz.prog 70 [.v (.string x),.v (.string y),.v (.string z)] (fun h st =>
  (kR x y z≠0∧h=.tup [.v (.slice none 0 0),.v (.int .i64 (kR x y z))]∧st=[]) ∨
  (dT x=0∧dT y=0∧dT z=0∧h=.tup [.own 0,.v (.int .i64 0)]∧st=[(0,.sl true 116 4 (cks (bG x y z)))])):=by
 refine bP (N:=99) Tryz.func70 rfl Tryz.ntmps70 Tryz.results70 (by simp) ?_
 refine goA 5 ?_;push_cast;refine goL (mcE x y z) (fun i=>i≤3∧(0 < i→dT x=0)∧(1 < i→dT y=0)∧(2 < i→dT z=0)) (fun i=>3 - i) [0,1,2,22,23] [] 0 (by push_cast[mcE] <;> rfl) ⟨by omega,by omega,by omega,by omega⟩ ?_
 rintro i ⟨hi,h0,h1,h2⟩;simp only [mcE]
 have hcs:i=0∨i=1∨i=2∨i=3:=by omega
 rcases hcs with rfl|rfl|rfl|rfl
 ·refine goA 7 ?_;push_cast;(repeat ((with_reducible refine bJa ?_ ?_);focus first|omega|decide))
  refine cVt yDy (qXl x hx) (.cons (.v _) .nil) ?_;push_cast
  by_cases he:dT x=0
  ·refine goA 5 ?_;push_cast(disch:=omega)[he];exact ⟨1,by push_cast[mcE] <;> rfl,by simp_all,by omega⟩
  ·refine goA 5 ?_;push_cast(disch:=omega)
   have er:kR x y z=dT x:=by rw [kR,g8 he]
   exact lU (.inl ⟨by rw [er];exact he,by rw [er],rfl⟩)
 ·refine goA 7 ?_;push_cast;(repeat ((with_reducible refine bJa ?_ ?_);focus first|omega|decide))
  refine cVt yDy (qXl y hy) (.cons (.v _) .nil) ?_;push_cast
  by_cases he:dT y=0
  ·refine goA 5 ?_;push_cast(disch:=omega)[he];exact ⟨2,by push_cast[mcE] <;> rfl,by simp_all,by omega⟩
  ·refine goA 5 ?_;push_cast(disch:=omega)
   have er:kR x y z=dT y:=by rw [kR,b7 (by rw [h0 (by omega)];simp),g8 he]
   exact lU (.inl ⟨by rw [er];exact he,by rw [er],rfl⟩)
 ·refine goA 7 ?_;push_cast;(repeat ((with_reducible refine bJa ?_ ?_);focus first|omega|decide))
  refine cVt yDy (qXl z hz) (.cons (.v _) .nil) ?_;push_cast
  by_cases he:dT z=0
  ·refine goA 5 ?_;push_cast(disch:=omega)[he];exact ⟨3,by push_cast[mcE] <;> rfl,by simp_all,by omega⟩
  ·refine goA 5 ?_;push_cast(disch:=omega)
   have er:kR x y z=dT z:=by rw [kR,b7 (by rw [h0 (by omega)];simp),b7 (by rw [h1 (by omega)];simp)]
   exact lU (.inl ⟨by rw [er];exact he,by rw [er],rfl⟩)
 ·refine goA 3 ?_;push_cast
  have t0:=h0 (by omega)
  have t1:=h1 (by omega)
  have t2:=h2 (by omega)
  have l0:=dW t0
  have l1:=dW t1
  have l2:=dW t2
  refine goP [0,1,2] [] ?_;refine goA 3 ?_;push_cast;refine cUt 264 yDx (qQm x hx) (.cons (.v _) .nil) ?_;push_cast;refine cUt 280 yDx (qQm y hy) (.cons (.v _) .nil) ?_;push_cast;refine cUt 296 yDx (qQm z hz) (.cons (.v _) .nil) ?_;push_cast;refine goP [11,12,13] [264,280,296] ?_;refine goR 264 rfl ?_;refine goR 280 rfl ?_;refine goR 296 rfl ?_
  have hch:bG x y z=lD (cG x) (cG y) (cG z):=rfl
  rw [hch];clear hch h0 h1 h2 hx hy hz;generalize hO:cG x=o at *
  generalize hA:cG y=a at *
  generalize hB:cG z=b at *
  refine goA 5 ?_;push_cast;refine cUt 328 yGw (qUi o a l0 l1) (.cons (aD (aU _)) (.cons (aD (aU _)) .nil)) ?_;push_cast;refine goP [11,12,13,14] [328] ?_;refine goA 5 ?_;push_cast;refine cUt 400 yGw (qUi o b l0 l2) (.cons (aD (aU _)) (.cons (aD (aU _)) .nil)) ?_;push_cast;refine goP [11,12,13,14,16] [328,400] ?_;refine goA 2 ?_;push_cast;refine goP [11,12,13,14,16,17] [136,328,400] ?_;refine bR 136 6 9000 116 4 (by decide) rfl rfl (by push_cast[d8,m4,l8,l9,o7,p8];exact rfl) ?_
  refine goA 3 ?_;push_cast[aJ];refine goL (cuE o a b) (fun p=>CuI o a b p.1 p.2) (fun p=>o.length - p.1) [11,12,13,14,16,17,61,62] [136,328,400,9000,1000002,1000003,1000004] (0,none) (by push_cast[cuE,mG] <;> rfl) (zS0 o a b) ?_
  have px:∀ n,n < o.length→∀ d,(fN (jJ o a)).getD n d=[.v (.int .i64 (qAa (kn o a) n))]:=fun n hn d=>by rw [eX (by rw [qBy];exact hn)];unfold jJ;rw [zPd o a n hn]
  have py:∀ n,n < o.length→∀ d,(fN (jJ o b)).getD n d=[.v (.int .i64 (qAa (kn o b) n))]:=fun n hn d=>by rw [eX (by rw [qBy];exact hn)];unfold jJ;rw [zPd o b n hn]
  have lx:(fN (jJ o a)).length=o.length:=by rw [dJ,qBy]
  have ly:(fN (jJ o b)).length=o.length:=by rw [dJ,qBy]
  rintro ⟨n,p⟩ I;simp only at I
  by_cases hn:n < o.length
  ·cases e1:DiffM.look (kn o a) n with
  |none =>
    have v1:qAa (kn o a) n=-1:=by rw [qAa,e1]
    have I':=I.skip hn (.inl e1)
    rcases p with _|s
    all_goals
     simp only [cuE,mG];refine goA 9 ?_;push_cast(disch:=omega)[lx,px n hn,v1]
    ·exact ⟨(n + 1,none),by push_cast[cuE,mG] <;> rfl,I',by dsimp only;omega⟩
    ·exact ⟨(n + 1,some s),by push_cast[cuE,mG] <;> rfl,I',by dsimp only;omega⟩
  |some q =>
    have v1:qAa (kn o a) n=(q:Int):=by rw [qAa,e1]
    cases e2:DiffM.look (kn o b) n with
   |none =>
     have v2:qAa (kn o b) n=-1:=by rw [qAa,e2]
     have I':=I.skip hn (.inr e2)
     rcases p with _|s
     all_goals
      simp only [cuE,mG];refine goA 9 ?_;push_cast(disch:=omega)[lx,px n hn,v1,ly,py n hn,v2]
     ·exact ⟨(n + 1,none),by push_cast[cuE,mG] <;> rfl,I',by dsimp only;omega⟩
     ·exact ⟨(n + 1,some s),by push_cast[cuE,mG] <;> rfl,I',by dsimp only;omega⟩
   |some r =>
     have v2:qAa (kn o b) n=(r:Int):=by rw [qAa,e2]
     have hq:=I.j.lt n q e1
     have hr:=I.k.lt n r e2
     have hqj:=I.j.low n q (a7 _) e1
     have hrk:=I.k.low n r (a7 _) e2
     have hIi:=I.i
     have hIl:=I.len
     have hsg:o.getD n default=o[n]:=by simp [b6,hn]
     rcases p with _|s
     ·simp only [cuE,mG];simp only [cuU] at hqj hrk hIi hIl
      have hout:(btO o a b 0 0 0 n q r []).length≤1∧∀ c,(btO o a b 0 0 0 n q r []).getLast?=some c→c.st=false:=by
       unfold btO kM;dsimp only;split
       ·exact ⟨by simp,fun c hc=>by simp at hc;subst hc;rfl⟩
       ·exact ⟨by simp,fun c hc=>by simp at hc⟩
      have C:=qP4 o a b 0 0 0 n q r [] (by omega) (by omega) (by omega) (by omega) (by omega) (by omega) (by simp)
      have C2:=qS4 o a b n q r n (btO o a b 0 0 0 n q r []) hout.2 hn (by omega) (by omega) (by omega) (by omega) (by have:=hout.1;omega)
      refine goA 7 ?_;push_cast(disch:=omega)[lx,px n hn,v1,ly,py n hn,v2];refine goP [11,12,13,14,16,17,18,61,62] [136,328,400,9000] ?_;refine HW_drw 9 mixed (by kernel_rfl) (fun K hK=>?_);push_cast(disch:=omega)[lx,px n hn,v1,ly,py n hn,v2,eW]
      with_reducible refine aS ?_;push_cast
      refine zBt 688 [136,9000] zZa (C) rfl (by decide) (by decide) (by push_cast;try rfl) (by push_cast;try rfl) ?_
      rintro _ _ ⟨rfl,rfl⟩;refine aS ?_;push_cast;refine hK _ ?_;clear hK K;refine goP [11,12,13,14,16,17,18,61,62] [136,328,400,9000] ?_;refine goA 3 ?_;push_cast;refine cXt 704 [136,9000] yDw (C2) (by decide) (by push_cast <;> first|exact ⟨rfl,rfl⟩|rfl) ?_
      push_cast[eP,d6];refine goP [11,12,13,14,16,17,61,62] [136,328,400,9000,706,707,708] ?_;refine jQ 706 1000002 (by decide) rfl rfl (by push_cast[d6,eP] <;> exact rfl) ?_
      refine jQ 707 1000003 (by decide) rfl rfl (by push_cast[d6,eP] <;> exact rfl) ?_
      refine jQ 708 1000004 (by decide) rfl rfl (by push_cast[d6,eP] <;> exact rfl) ?_
      refine goA 3 ?_;push_cast(disch:=omega);refine ⟨(n + 1,some ⟨n + 1,q + 1,r + 1,btO o a b 0 0 0 n q r [],⟨true,[o[n]],[o[n]],[o[n]]⟩⟩),by push_cast[cuE,mG] <;> rfl,I.step hn e1 e2 _ rfl rfl rfl rfl (by simp) (by simp) (by simp) ?_ ?_,by dsimp only;omega⟩
      ·have:=hout.1;dsimp only;omega
      ·show btO o a b 0 0 0 n q r [] ++ [_]=pS (btO o a b 0 0 0 n q r []) o[n]
       exact (qWv hout.2 _).symm
     ·obtain ⟨i,j,k,pre,c⟩:=s;simp only [cuE,mG];simp only [cuU] at hqj hrk hIi hIl;obtain ⟨hc,cb,cl,cr⟩:=I.st _ rfl;dsimp only at hc cb cl cr
      have hpl:pre.length + 1≤2 * n:=by simpa using hIl
      have C:=qP3 o a b i j k n q r pre c hc (by omega) (by omega) (by omega) (by omega) (by omega) (by omega) (by simp;omega)
      refine goA 7 ?_;push_cast(disch:=omega)[lx,px n hn,v1,ly,py n hn,v2];refine goP [11,12,13,14,16,17,18,61,62] [136,328,400,9000,1000002,1000003,1000004] ?_;refine HW_drw 9 mixed (by kernel_rfl) (fun K hK=>?_);push_cast(disch:=omega)[lx,px n hn,v1,ly,py n hn,v2,eW]
      with_reducible refine aS ?_;push_cast
      refine zBt 688 [136,9000,1000002,1000003,1000004] zZa (C) rfl (by decide) (by decide) (by push_cast[d6,simprocAttr,eP];try rfl) (by push_cast[d6,simprocAttr,eP];try rfl) ?_
      rintro _ _ ⟨rfl,⟨hps,rfl⟩|⟨hst,rfl⟩⟩
      ·have hbo:btO o a b i j k n q r (pre ++ [c])=(pre ++ [c]) ++ [⟨false,(o.take n).drop i,(a.take q).drop j,(b.take r).drop k⟩]:=by rw [btO,kM,g8 hps]
       have hlast:∀ c',(btO o a b i j k n q r (pre ++ [c])).getLast?=some c'→c'.st=false:=fun c' hc'=>by rw [hbo] at hc';simp at hc';subst hc';rfl
       have hol:(btO o a b i j k n q r (pre ++ [c])).length≤2 * n + 1:=by rw [hbo];simp;omega
       have C2:=qS4 o a b n q r n (btO o a b i j k n q r (pre ++ [c])) hlast hn (by omega) (by omega) (by omega) (by omega) (by omega)
       refine aS ?_;push_cast[eP,sJ,d6];refine hK _ ?_;clear hK K;refine goP [11,12,13,14,16,17,18,61,62] [136,328,400,9000] ?_;refine goA 3 ?_;push_cast;refine cXt 704 [136,9000] yDw (C2) (by decide) (by push_cast <;> first|exact ⟨rfl,rfl⟩|rfl) ?_
       push_cast[eP,d6];refine goP [11,12,13,14,16,17,61,62] [136,328,400,9000,706,707,708] ?_;refine jQ 706 1000002 (by decide) rfl rfl (by push_cast[d6,eP] <;> exact rfl) ?_
       refine jQ 707 1000003 (by decide) rfl rfl (by push_cast[d6,eP] <;> exact rfl) ?_
       refine jQ 708 1000004 (by decide) rfl rfl (by push_cast[d6,eP] <;> exact rfl) ?_
       refine goA 3 ?_;push_cast(disch:=omega);refine ⟨(n + 1,some ⟨n + 1,q + 1,r + 1,btO o a b i j k n q r (pre ++ [c]),⟨true,[o[n]],[o[n]],[o[n]]⟩⟩),by push_cast[cuE,mG] <;> rfl,I.step hn e1 e2 _ rfl rfl rfl rfl (by simp) (by simp) (by simp) ?_ ?_,by dsimp only;omega⟩
       ·dsimp only;omega
       ·show btO o a b i j k n q r (pre ++ [c]) ++ [_]=pS (btO o a b i j k n q r (pre ++ [c])) o[n]
        exact (qWv hlast _).symm
      ·have C2:=zNg o a b n q r n pre c hn (by omega) (by omega) (by omega) (by omega) (by omega) (by omega) (by omega) (by omega)
       refine aS ?_;push_cast[eP,sJ,d6];refine hK _ ?_;clear hK K;refine goP [11,12,13,14,16,17,18,61,62] [136,328,400,9000,1000002,1000003,1000004] ?_;refine goA 5 ?_;push_cast;refine cXt 704 [136,9000,1000002,1000003,1000004] yDw (C2) (by decide) (by push_cast[d6,eP] <;> first|exact ⟨rfl,rfl⟩|rfl) ?_
       push_cast(disch:=omega)[eP,sJ,d6];refine ⟨(n + 1,some ⟨n + 1,q + 1,r + 1,pre,⟨true,c.b ++ [o[n]],c.l ++ [o[n]],c.r ++ [o[n]]⟩⟩),by push_cast[cuE,mG] <;> rfl,I.step hn e1 e2 _ rfl rfl rfl rfl (by simp;omega) (by simp;omega) (by simp;omega) (by dsimp only;omega) ?_,by dsimp only;omega⟩
       show pre ++ [_]=pS (kM o a b ⟨i,j,k,pre ++ [c]⟩ n q r).out o[n]
       rw [kM,b7 hst];exact (zZi hc _).symm
  ·have hne:n=o.length:=by have:=I.le;omega
   subst hne
   have hF:lD o a b=(kM o a b (cuU p) o.length a.length b.length).out:=by
    have:=I.rest
    rw [bBn,chI] at this;rw [lD,← this]
   have hIi:=I.i
   have hIj:=I.j.le
   have hIk:=I.k.le
   have hIl:=I.len
   rcases p with _|s
   ·simp only [cuE,mG]
    have C:=qP4 o a b 0 0 0 o.length a.length b.length [] (by omega) (by omega) (by omega) (by omega) (by omega) (by omega) (by simp)
    refine goA 3 ?_;push_cast(disch:=omega);refine goP [11,12,13,17] [136,9000] ?_;refine goA 3 ?_;push_cast[aJ];refine cXt 768 [136,9000] zZa (C) (by decide) (by push_cast <;> first|exact ⟨rfl,rfl⟩|rfl) ?_
    push_cast;refine goP [17] [136,9000] ?_;refine goA 3 ?_;push_cast;exact gX rfl (qCk _) (.inr ⟨t0,t1,t2,rfl,by rw [hF];rfl⟩)
   ·obtain ⟨i,j,k,pre,c⟩:=s;simp only [cuU] at hIi hIj hIk hIl;obtain ⟨hc,-,-,-⟩:=I.st _ rfl;dsimp only at hc
    have hpl:pre.length + 1≤2 * o.length:=by simpa using hIl
    have C:=qP3 o a b i j k o.length a.length b.length pre c hc (by omega) (by omega) (by omega) (by omega) (by omega) (by omega) (by simp;omega)
    simp only [cuE,mG];refine goA 3 ?_;push_cast(disch:=omega);refine goP [11,12,13,17] [136,9000,1000002,1000003,1000004] ?_;refine goA 3 ?_;push_cast[aJ];refine cSt 768 [136,9000,1000002,1000003,1000004] zZa (C) (by decide) (by push_cast[d6,eP] <;> first|exact ⟨rfl,rfl⟩|rfl) ?_
    rintro _ _ ⟨rfl,⟨hps,rfl⟩|⟨hst,rfl⟩⟩
    ·push_cast[eP,sJ,d6];refine goP [17] [136,9000] ?_;refine goA 3 ?_;push_cast;exact gX rfl (qCk _) (.inr ⟨t0,t1,t2,rfl,by rw [hF];rfl⟩)
    ·push_cast[eP,sJ,d6];refine goP [17] [136,9000,1000002,1000003,1000004] ?_
     have e1:ckH pre ++ [[.v (.bool true),.lst true (aR c.b),.lst true (aR c.l),.lst true (aR c.r)]]=(cks (pre ++ [c])).map (List.map FV.h):=by
      rw [qWr];cases c;simp only at hc;subst hc;rfl
     refine eZ 1000002 rfl (by push_cast[d6,lX] <;> exact rfl) ?_
     refine eZ 1000003 rfl (by push_cast[d6,lX] <;> exact rfl) ?_
     refine eZ 1000004 rfl (by push_cast[d6,lX] <;> exact rfl) ?_
     refine zFk 9000 (cks (pre ++ [c])) e1 rfl (by simp only [pC,mL,Nat.reduceEqDiff,reduceIte];exact rfl) ?_
     refine goA 3 ?_;push_cast;refine gX rfl (qCk _) (.inr ⟨t0,t1,t2,rfl,?_⟩);rw [hF];show [(0,Row.sl true 116 4 (cks (pre ++ [c])))]=[(0,Row.sl true 116 4 (cks (kM o a b ⟨i,j,k,pre ++ [c]⟩ o.length a.length b.length).out))]
     rw [kM,b7 hst]
end Go.Proofs.Y
namespace Go.DiffM
section
variable {α:Type} {o a b:List α}
def TK (o a b:List α):List (Nat × Nat × Nat)→Nat→Nat→Nat→Prop
|[],_,_,_=>True
|(p,q,r) :: l,i,j,k=>i≤p∧j≤q∧k≤r∧(∃ (h1:p < o.length) (h2:q < a.length) (h3:r < b.length),o[p]=a[q]∧o[p]=b[r])∧TK o a b l (p + 1) (q + 1) (r + 1)
theorem TK.low:∀ {l:List (Nat × Nat × Nat)} {i j k i' j' k':Nat},TK o a b l i j k→i'≤i→j'≤j→k'≤k→TK o a b l i' j' k'
|[],_,_,_,_,_,_,_,_,_,_=>trivial
|(p,q,r) :: l,_,_,_,_,_,_,⟨h1,h2,h3,h4⟩,a,b,c=>⟨by omega,by omega,by omega,h4⟩
theorem qSw:∀ (x:List (Nat × Nat)),tri x []=[]
|[]=>rfl
|(p,q) :: r=>by
  have:=qSw r
  unfold tri at this ⊢;rw [s9,this];rfl
theorem qJ5:∀ (n:Nat) (x y:List (Nat × Nat)) (i j k:Nat),x.length + y.length≤n→KN o a x i j→KN o b y i k→TK o a b (tri x y) i j k
|n,[],y,i,j,k,_,_,_=>trivial
|n,x,[],i,j,k,_,_,_=>by rw [qSw];trivial
|0,(p,q) :: r,y,_,_,_,h,_,_=>by simp at h
|n + 1,(p,q) :: x,(p2,q2) :: y,i,j,k,h,⟨h1,h2,⟨h3,h4,h5⟩,h6⟩,⟨g1,g2,⟨g3,g4,g5⟩,g6⟩=>by
  simp only [i6] at h
  rcases bAw p p2 with e|e|e
  ·have hy:KN o b ((p2,q2) :: y) (p + 1) k:=⟨by omega,g2,⟨g3,g4,g5⟩,g6⟩
   rw [zM8 hy (bCq p)];exact (qJ5 n x ((p2,q2) :: y) (p + 1) (q + 1) k (by simp only [i6];omega) h6 hy).low (by omega) (by omega) (a7 _)
  ·subst e;rw [zM9 h6 g6];exact ⟨h1,h2,g2,⟨h3,h4,g4,h5,g5⟩,qJ5 n x y (p + 1) (q + 1) (q2 + 1) (by omega) h6 g6⟩
  ·have hx:KN o a ((p,q) :: x) (p2 + 1) j:=⟨by omega,h2,⟨h3,h4,h5⟩,h6⟩
   rw [qJc hx (bCq p2)];exact (qJ5 n ((p,q) :: x) y (p2 + 1) j (q2 + 1) (by simp only [i6];omega) hx g6).low (by omega) (a7 _) (by omega)
def zZ8 (c:Ck α):Prop:=c.b.length + c.l.length + c.r.length≠0∧(c.st=true→c.b=c.l∧c.b=c.r)
def Alt (cs:List (Ck α)):Prop:=∀ n (h:n + 1 < cs.length),cs[n].st≠cs[n + 1].st
structure Pt (o a b:List α) (u:Cu α):Prop where
 i:u.i≤o.length
 j:u.j≤a.length
 k:u.k≤b.length
 pb:u.out.flatMap (·.b)=o.take u.i
 pl:u.out.flatMap (·.l)=a.take u.j
 pr:u.out.flatMap (·.r)=b.take u.k
 ok:∀ c ∈ u.out,zZ8 c
 alt:Alt u.out
theorem qW1 {cs:List (Ck α)} {c:Ck α} (h:Alt cs) (hl:∀ x,cs.getLast?=some x→x.st≠c.st):Alt (cs ++ [c]):=by
 intro n hn;simp only [i8,t7] at hn
 by_cases e:n + 1 < cs.length
 ·rw [bAd (by omega),bAd e];exact h n e
 ·have e2:n + 1=cs.length:=by omega
  rw [bAd (by omega),bCb (by omega)]
  simp only [e2,bBn,l6];refine hl _ ?_;rw [bCd,show cs.length - 1=n by omega,c9]
theorem uH {l:List α} {i j:Nat} (h:i≤j):l.take i ++ (l.take j).drop i=l.take j:=by
 have:l.take i=(l.take j).take i:=by rw [List.take_take,bBo h]
 rw [this,x5]
def HL (u:Cu α):Prop:=∀ c,u.out.getLast?=some c→c.st=true
theorem qJt {u:Cu α} (h:Pt o a b u) (hl:HL u) {i j k:Nat} (hi:u.i≤i∧i≤o.length) (hj:u.j≤j∧j≤a.length) (hk:u.k≤k∧k≤b.length):Pt o a b (kM o a b u i j k):=by
 by_cases hp:u.i < i∨u.j < j∨u.k < k
 ·have eo:(kM o a b u i j k).out=u.out ++ [⟨false,(o.take i).drop u.i,(a.take j).drop u.j,(b.take k).drop u.k⟩]:=by rw [kM,g8 hp]
  refine ⟨hi.2,hj.2,hk.2,?_,?_,?_,?_,?_⟩
  ·rw [eo,bAt,h.pb];simp only [s9,bCs,x4];exact uH hi.1
  ·rw [eo,bAt,h.pl];simp only [s9,bCs,x4];exact uH hj.1
  ·rw [eo,bAt,h.pr];simp only [s9,bCs,x4];exact uH hk.1
  ·rw [eo];intro c hc
   rcases m8.1 hc with hc|hc
   ·exact h.ok c hc
   ·simp only [q6] at hc;subst hc;refine ⟨?_,fun e=>by cases e⟩
    simp only [y7,l7];omega
  ·rw [eo];refine qW1 h.alt fun x hx=>?_
   rw [hl x hx];simp
 ·have eo:(kM o a b u i j k).out=u.out:=by rw [kM,b7 hp]
  have e1:i=u.i:=by omega
  have e2:j=u.j:=by omega
  have e3:k=u.k:=by omega
  subst e1;subst e2;subst e3;exact ⟨h.i,h.j,h.k,by rw [eo];exact h.pb,by rw [eo];exact h.pl,by rw [eo];exact h.pr,by rw [eo];exact h.ok,by rw [eo];exact h.alt⟩
theorem qDv (cs:List (Ck α)) (s:α):(∃ pre c,cs=pre ++ [c]∧c.st=true∧pS cs s=pre ++ [⟨true,c.b ++ [s],c.l ++ [s],c.r ++ [s]⟩])∨((∀ c,cs.getLast?=some c→c.st=false)∧pS cs s=cs ++ [⟨true,[s],[s],[s]⟩]):=by
 rcases bBp cs with rfl|⟨pre,c,rfl⟩
 ·exact .inr ⟨fun c h=>by simp at h,rfl⟩
 ·rw [bBq]
  cases hc:c.st with
 |true=>exact .inl ⟨pre,c,rfl,hc,by simp [pS,hc]⟩
 |false=>exact .inr ⟨fun c' h=>by simp at h;subst h;exact hc,by simp [pS,hc]⟩
theorem zD3 {u:Cu α} (h:Pt o a b u) (hi:u.i < o.length) (hj:u.j < a.length) (hk:u.k < b.length) (e1:o[u.i]=a[u.j]) (e2:o[u.i]=b[u.k]):Pt o a b (qXx o[u.i] u)∧HL (qXx o[u.i] u):=by
 have parts:(pS u.out o[u.i]).flatMap (·.b)=o.take (u.i + 1)∧(pS u.out o[u.i]).flatMap (·.l)=a.take (u.j + 1)∧(pS u.out o[u.i]).flatMap (·.r)=b.take (u.k + 1)∧(∀ c ∈ pS u.out o[u.i],zZ8 c)∧Alt (pS u.out o[u.i])∧(∀ c,(pS u.out o[u.i]).getLast?=some c→c.st=true):=by
  rw [d7 hi,d7 hj,d7 hk,← e1,← e2,← h.pb,← h.pl,← h.pr]
  rcases qDv u.out o[u.i] with ⟨pre,c,eo,hc,e⟩|⟨hl,e⟩
  ·rw [e,eo]
   have hok:=h.ok c (by rw [eo];simp)
   refine ⟨by simp,by simp,by simp,fun c' hc'=>?_,?_,fun c' hc'=>by simp at hc';subst hc';rfl⟩
   ·rcases m8.1 hc' with h'|h'
    ·exact h.ok c' (by rw [eo];simp [h'])
    ·simp only [q6] at h';subst h';refine ⟨by simp,fun _=>?_⟩
     obtain ⟨p,q⟩:=hok.2 hc;simp only [← p,← q];exact ⟨trivial,trivial⟩
   ·have hA:=h.alt
    rw [eo] at hA;intro n hn
    have hn':n + 1 < (pre ++ [c]).length:=by simpa using hn
    have:=hA n hn'
    by_cases e3:n + 1 < pre.length
    ·rw [bAd (by omega),bAd e3] at this ⊢;exact this
    ·have e4:n + 1=pre.length:=by simp at hn;omega
     rw [bAd (by omega),bCb (by omega)] at this ⊢
     simp only [e4,bBn,l6] at this ⊢;rw [hc] at this;exact this
  ·rw [e];refine ⟨by simp,by simp,by simp,fun c' hc'=>?_,?_,fun c' hc'=>by simp at hc';subst hc';rfl⟩
   ·rcases m8.1 hc' with h'|h'
    ·exact h.ok c' h'
    ·simp only [q6] at h';subst h';exact ⟨by simp,fun _=>⟨rfl,rfl⟩⟩
   ·exact qW1 h.alt fun x hx=>by rw [hl x hx];simp
 obtain ⟨p1,p2,p3,p4,p5,p6⟩:=parts;exact ⟨⟨hi,hj,hk,p1,p2,p3,p4,p5⟩,p6⟩
variable [Inhabited α]
theorem zS8:∀ (l:List (Nat × Nat × Nat)) (u:Cu α),TK o a b l u.i u.j u.k→Pt o a b u→HL u→Pt o a b (chT o a b l u)∧HL (chT o a b l u)
|[],u,_,h,hl=>⟨h,hl⟩
|(i,j,k) :: l,u,⟨h1,h2,h3,⟨h4,h5,h6,h7,h8⟩,h9⟩,h,hl=>by
  rw [chT]
  have hb:=qJt h hl (i:=i) (j:=j) (k:=k) ⟨h1,by omega⟩ ⟨h2,by omega⟩ ⟨h3,by omega⟩
  have hs:o.getD i default=o[i]:=by simp [b6,h4]
  rw [hs]
  have:=zD3 (u:=kM o a b u i j k) hb h4 h5 h6 h7 h8
  exact zS8 l _ h9 this.1 this.2
end
section
variable {α:Type} [DecidableEq α] [Inhabited α] {o a b:List α}
theorem qCm (o a b:List α):Pt o a b (kM o a b (chT o a b (tri (kn o a) (kn o b)) ⟨0,0,0,[]⟩) o.length a.length b.length):=by
 have hT:=qJ5 _ (kn o a) (kn o b) 0 0 0 (a7 _) (pJ o a) (pJ o b)
 have h0:Pt o a b ⟨0,0,0,[]⟩:=⟨g7 _,g7 _,g7 _,rfl,rfl,rfl,fun c h=>by simp at h,fun n h=>by simp at h⟩
 obtain ⟨h1,h2⟩:=zS8 _ ⟨0,0,0,[]⟩ hT h0 (fun c h=>by simp at h)
 exact qJt h1 h2 ⟨h1.i,a7 _⟩ ⟨h1.j,a7 _⟩ ⟨h1.k,a7 _⟩
theorem qMe (o a b:List α):(lD o a b).flatMap (·.b)=o:=by have:=(qCm o a b).pb;rw [lD,this];exact t6
theorem qA5 (o a b:List α):(lD o a b).flatMap (·.l)=a:=by have:=(qCm o a b).pl;rw [lD,this];exact t6
theorem qA4 (o a b:List α):(lD o a b).flatMap (·.r)=b:=by have:=(qCm o a b).pr;rw [lD,this];exact t6
theorem zMd (o a b:List α):∀ c ∈ lD o a b,zZ8 c:=(qCm o a b).ok
end
end Go.DiffM
namespace Go.Proofs.Y
open Go Go.Eng Go.RowKit
def zWk (p:List UInt8):Prop:=∀ b ∈ p,b≠10
def zF1 (ps:List (List UInt8)):List (List UInt8):=ps.map (· ++ [10])
def zEa (q:List UInt8):List (List UInt8):=if q=[] then [] else [q]
def zNh (l:List UInt8):∃ ps q,(∀ p ∈ ps,zWk p)∧zWk q∧l=(zF1 ps).flatten ++ q∧spl l=zF1 ps ++ zEa q:=by
 induction l with
|nil=>exact ⟨[],[],by simp,by simp [zWk],rfl,rfl⟩
|cons b l ih =>
  obtain ⟨ps,q,h1,h2,h3,h4⟩:=ih;rw [spl]
  by_cases e:b=10
  ·subst e;rw [g8 rfl];exact ⟨[] :: ps,q,fun p hp=>by rcases l3.1 hp with rfl|h;simp [zWk];exact h1 p h,h2,by rw [h3];simp [zF1],by rw [h4];rfl⟩
  ·rw [b7 e]
   cases ps with
  |nil =>
    refine ⟨[],b :: q,by simp,fun x hx=>by rcases l3.1 hx with rfl|h;exact e;exact h2 x h,by rw [h3];simp [zF1],?_⟩
    rw [h4]
    by_cases hq:q=[]
    ·subst hq;rfl
    ·simp [zF1,zEa,hq]
  |cons p r =>
    refine ⟨(b :: p) :: r,q,fun x hx=>?_,h2,by rw [h3];simp [zF1],by rw [h4];rfl⟩
    rcases l3.1 hx with rfl|h
    ·intro y hy
     rcases l3.1 hy with rfl|h
     ·exact e
     ·exact h1 p (by simp) y h
    ·exact h1 x (by simp [h])
def zZh (l:List (List UInt8)):cat (l.map bs)=bs l.flatten:=by
 unfold cat bs
 congr 1
 rw [bAm]
 congr 1
 congr 1
 have:((fun x:Ba=>x.data.toList) ∘ bs)=_root_.id:=by funext x;simp [bs]
 have h2:((fun x:Ba=>x.data.toList) ∘ fun l:List UInt8=>(⟨l.toArray⟩:Ba))=_root_.id:=by funext x;simp
 rw [h2,bEv]
def pR (s:Ba):cat (cG s)=s:=by
 obtain ⟨ps,q,h1,h2,h3,h4⟩:=zNh s.data.toList;unfold cG;rw [zZh,h4,List.flatten_append]
 have:(zEa q).flatten=q:=by unfold zEa;split <;> simp_all
 rw [this,← h3,lZ]
open Go.DiffM
def mkA:Ba:={ data:=#[60,60,60,60,60,60,60,10] }
def mkM:Ba:={ data:=#[61,61,61,61,61,61,61,10] }
def mkB:Ba:={ data:=#[62,62,62,62,62,62,62,10] }
def lW (c:Ck Ba):Prop:=c.st=true∨c.l=c.r∨c.b=c.r
instance (c:Ck Ba):Decidable (lW c):=by unfold lW;infer_instance
def ckT (c:Ck Ba):Ba:=if lW c then cat c.l else if c.b=c.l then cat c.r else ((((mkA ++ cat (dF c.l)) ++ mkM) ++ cat (dF c.r)) ++ mkB)
def ckN (c:Ck Ba):Nat:=if lW c then 0 else if c.b=c.l then 0 else 1
def mgT (cs:List (Ck Ba)):Ba:=cat (cs.map ckT)
def mgN (cs:List (Ck Ba)):Nat:=(cs.map ckN).sum
def qEj (x y z:Ba):Ba:=if kR x y z≠0 then { data:=#[] } else mgT (bG x y z)
def qEk (x y z:Ba):Nat:=if kR x y z≠0 then 0 else mgN (bG x y z)
def nB (l:List Ba):(cat (dF l)).size≤(cat l).size + 1:=by
 rcases bBp l with rfl|⟨q,x,rfl⟩
 ·simp [dF]
 ·rw [bBq]
  have:dF (q ++ [x])=q ++ [qDt x]:=by
   unfold dF;simp [List.set_append]
  rw [this,lY,lY,qJr,qJr,n9,n9];unfold qDt;split
  ·omega
  ·rw [n9];have:nl.size=1:=rfl;omega
theorem zP4:mkA.size=8:=rfl
theorem zP2:mkM.size=8:=rfl
theorem zP3:mkB.size=8:=rfl
def qMc (c:Ck Ba):(ckT c).size≤(cat c.l).size + (cat c.r).size + 26:=by
 unfold ckT;split
 ·omega
 ·split
  ·omega
  ·simp only [n9,zP4,zP2,zP3]
   have:=nB c.l
   have:=nB c.r
   omega
def qUv (cs:List (Ck Ba)):(mgT cs).size≤(cat (cs.flatMap (·.l))).size + (cat (cs.flatMap (·.r))).size + 26 * cs.length:=by
 unfold mgT
 induction cs with
|nil=>simp [cat]
|cons c r ih =>
  rw [d8,qWt,s9,s9,lY,lY];simp only [n9,i6]
  have:=qMc c
  omega
def iW (cs:List (Ck Ba)) (c:Ck Ba):mgT (cs ++ [c])=mgT cs ++ ckT c:=by rw [mgT,d6,lY,bEk,qJr];rfl
def lJ (cs:List (Ck Ba)) (c:Ck Ba):mgN (cs ++ [c])=mgN cs + ckN c:=by simp [mgN]
def zMc {α:Type} {cs:List (Ck α)} (h:∀ c ∈ cs,zZ8 c):cs.length≤(cs.flatMap (·.b)).length + (cs.flatMap (·.l)).length + (cs.flatMap (·.r)).length:=by
 induction cs with
|nil=>simp
|cons c r ih =>
  have h1:=ih fun x hx=>h x (by simp [hx])
  have h2:=(h c (by simp)).1
  simp only [s9,i8,i6];omega
def qUw {x y z:Ba} (h0:dT x=0) (h1:dT y=0) (h2:dT z=0):kR x y z=0:=by
 rw [kR,b7 (by simpa using h0),b7 (by simpa using h1),h2]
def qMd {x y z:Ba} (h0:dT x=0) (h1:dT y=0) (h2:dT z=0):(bG x y z).length≤1200:=by
 have:=zMc (zMd (cG x) (cG y) (cG z))
 rw [qMe,qA5,qA4] at this
 have:=dW h0;have:=dW h1;have:=dW h2
 show (lD (cG x) (cG y) (cG z)).length≤1200
 omega
def vP {cs:List (Ck Ba)} (f:Ck Ba→List Ba) {c:Ck Ba} (h:c ∈ cs):(f c).length≤(cs.flatMap f).length∧(cat (f c)).size≤(cat (cs.flatMap f)).size∧(f c).Sublist (cs.flatMap f):=by
 induction cs with
|nil=>simp at h
|cons d r ih =>
  rw [s9,lY];simp only [n9,i8]
  rcases l3.1 h with rfl|h
  ·exact ⟨by omega,by omega,List.sublist_append_left _ _⟩
  ·obtain ⟨a,b,d⟩:=ih h;exact ⟨by omega,by omega,d.trans (List.sublist_append_right _ _)⟩
def qJs {l:List Ba} {x:Ba} (h:x ∈ l):x.size≤(cat l).size:=by
 induction l with
|nil=>simp at h
|cons a r ih =>
  rw [qWt,n9]
  rcases l3.1 h with rfl|h
  ·omega
  ·have:=ih h;omega
def mgS (cs:List (Ck Ba)) (n:Nat):HS:=⟨[(6,.v (.string (mgT (cs.take n)))),(7,.v (.int .i64 (mgN (cs.take n)))),(22,.own 128),(23,.v (.int .i64 cs.length)),(24,.v (.int .i64 n))],[(128,.sl true 116 4 (cks cs))]⟩
def zP5 (cs:List (Ck Ba)):mgN cs≤cs.length:=by
 unfold mgN
 induction cs with
|nil=>simp
|cons c r ih =>
  simp only [d8,bBe,i6]
  have:ckN c≤1:=by
   unfold ckN;split
   ·omega
   ·split <;> omega
  omega
def qRm (x y z:Ba) (hx:x.size≤4294967296) (hy:y.size≤4294967296) (hz:z.size≤4294967296):HFun Tryz.prog 54 [.v (.string x),.v (.string y),.v (.string z)] (fun h st =>
  h=.tup [.v (.string (qEj x y z)),.v (.int .i64 (qEk x y z)),.v (.int .i64 (kR x y z))]):=by
 refine bP (N:=76) Tryz.func54 rfl Tryz.ntmps54 Tryz.results54 (by simp) ?_
 refine goA 5 ?_;push_cast;refine zMg 128 yKn (zS7 x y z hx hy hz) (.cons (.v _) (.cons (.v _) (.cons (.v _) .nil))) ?_;rintro _ _ (⟨he,rfl,rfl⟩|⟨t0,t1,t2,rfl,rfl⟩)
 ·have e1:qEj x y z={ data:=#[] }:=by rw [qEj,g8 he]
  have e2:qEk x y z=0:=by rw [qEk,g8 he]
  push_cast;refine goA 5 ?_;push_cast(disch:=omega);exact eY (by rw [e1,e2];rfl)
 ·have hE:=qUw t0 t1 t2
  have e1:qEj x y z=mgT (bG x y z):=by rw [qEj,b7 (by simpa using hE)]
  have e2:qEk x y z=mgN (bG x y z):=by rw [qEk,b7 (by simpa using hE)]
  have hlen:=qMd t0 t1 t2
  have hsz:∀ n,(mgT ((bG x y z).take n)).size≤y.size + z.size + 31200:=fun n=>by
   have h1:=qUv ((bG x y z).take n)
   have h2:(cat (((bG x y z).take n).flatMap (·.l))).size≤y.size:=by
    have:cat ((bG x y z).flatMap (·.l))=y:=by rw [show (bG x y z).flatMap (·.l)=cG y from qA5 (cG x) (cG y) (cG z),pR]
    rw [← x5 n (bG x y z),bAt,lY] at this;rw [← congrArg ByteArray.size this,n9];omega
   have h3:(cat (((bG x y z).take n).flatMap (·.r))).size≤z.size:=by
    have:cat ((bG x y z).flatMap (·.r))=z:=by rw [show (bG x y z).flatMap (·.r)=cG z from qA4 (cG x) (cG y) (cG z),pR]
    rw [← x5 n (bG x y z),bAt,lY] at this;rw [← congrArg ByteArray.size this,n9];omega
   have h4:((bG x y z).take n).length≤1200:=by rw [l7];omega
   omega
  have hll:∀ c ∈ bG x y z,c.b.length≤400∧c.l.length≤400∧c.r.length≤400∧(cat c.l).size≤y.size∧(cat c.r).size≤z.size:=fun c hc=>by
   have p1:=vP (·.b) hc
   have p2:=vP (·.l) hc
   have p3:=vP (·.r) hc
   rw [show (bG x y z).flatMap (·.b)=cG x from qMe (cG x) (cG y) (cG z)] at p1
   rw [show (bG x y z).flatMap (·.l)=cG y from qA5 (cG x) (cG y) (cG z),pR] at p2
   rw [show (bG x y z).flatMap (·.r)=cG z from qA4 (cG x) (cG y) (cG z),pR] at p3
   have:=dW t0;have:=dW t1;have:=dW t2
   exact ⟨by omega,by omega,by omega,p2.2.1,p3.2.1⟩
  have hfin:qEj x y z=mgT ((bG x y z).take (bG x y z).length)∧qEk x y z=mgN ((bG x y z).take (bG x y z).length):=by rw [t6];exact ⟨e1,e2⟩
  clear e1 e2;generalize bG x y z=cs at *
  push_cast[fF];refine goA 5 ?_;push_cast[fF];refine goL (mgS cs) (fun n=>n≤cs.length) (fun n=>cs.length - n) [6,7,22,23,24] [128] 0 (by push_cast[mgS] <;> rfl) (g7 _) ?_
  intro n hn;simp only [mgS]
  by_cases hlt:n < cs.length
  ·obtain ⟨c,hc⟩:∃ c,cs[n]=c:=⟨_,rfl⟩
   have hcm:c ∈ cs:=hc ▸ c7 hlt
   obtain ⟨b1,b2,b3,b4,b5⟩:=hll c hcm
   have hs1:=hsz n
   have hs2:=hsz (n + 1)
   have hnn:=zP5 (cs.take n)
   rw [l7] at hnn
   have ht:cs.take (n + 1)=cs.take n ++ [c]:=by rw [d7 hlt,hc]
   rw [ht,iW,n9] at hs2
   have hT:=qMc c
   have hg:∀ d,(cks cs).getD n d=[.v (.bool c.st),.lst true (aR c.b),.lst true (aR c.l),.lst true (aR c.r)]:=fun d=>by rw [qSg hlt,hc];rfl
   generalize hTT:mgT (cs.take n)=T at *
   generalize hNN:mgN (cs.take n)=M at *
   cases hst:c.st with
  |true =>
    have hL:lW c:=.inl hst
    have eT:ckT c=cat c.l:=by rw [ckT,g8 hL]
    have eN:ckN c=0:=by rw [ckN,g8 hL]
    refine goA 5 ?_;push_cast(disch:=omega)[fF,nP,hg,hst];refine goP [6,7,11,22,23,24] [88,128] ?_;refine goA 7 ?_;push_cast;refine cVt zL9 (qGf c.l (by omega) (by omega)) (.cons (aD (aU _)) .nil) ?_
    push_cast(disch:=omega);(repeat ((with_reducible refine bJa ?_ ?_);focus first|omega|decide))
    refine ⟨n + 1,by push_cast[mgS];rw [ht,iW,lJ,hTT,hNN,eT,eN];try rfl,hlt,by omega⟩
  |false =>
    refine goA 5 ?_;push_cast(disch:=omega)[fF,nP,hg,hst];refine goP [6,7,11,22,23,24] [88,128] ?_;refine goA 5 ?_;push_cast;refine cVt yD1 (qKj c.l c.r (by omega) (by omega)) (.cons (aD (aU _)) (.cons (aD (aU _)) .nil)) ?_
    push_cast
    by_cases hlr:c.l=c.r
    ·have hL:lW c:=.inr (.inl hlr)
     have eT:ckT c=cat c.l:=by rw [ckT,g8 hL]
     have eN:ckN c=0:=by rw [ckN,g8 hL]
     rw [i7 hlr];refine goA 5 ?_;push_cast;refine cVt zL9 (qGf c.l (by omega) (by omega)) (.cons (aD (aU _)) .nil) ?_
     push_cast(disch:=omega);(repeat ((with_reducible refine bJa ?_ ?_);focus first|omega|decide))
     refine ⟨n + 1,by push_cast[mgS];rw [ht,iW,lJ,hTT,hNN,eT,eN];try rfl,hlt,by omega⟩
    ·rw [b9 hlr];refine goA 3 ?_;push_cast;refine cVt yD1 (qKj c.b c.r (by omega) (by omega)) (.cons (aD (aU _)) (.cons (aD (aU _)) .nil)) ?_
     push_cast
     by_cases hbr:c.b=c.r
     ·have hL:lW c:=.inr (.inr hbr)
      have eT:ckT c=cat c.l:=by rw [ckT,g8 hL]
      have eN:ckN c=0:=by rw [ckN,g8 hL]
      rw [i7 hbr];refine goA 5 ?_;push_cast;refine cVt zL9 (qGf c.l (by omega) (by omega)) (.cons (aD (aU _)) .nil) ?_
      push_cast(disch:=omega);(repeat ((with_reducible refine bJa ?_ ?_);focus first|omega|decide))
      refine ⟨n + 1,by push_cast[mgS];rw [ht,iW,lJ,hTT,hNN,eT,eN];try rfl,hlt,by omega⟩
     ·have hL:¬ lW c:=fun h=>h.elim (fun h=>by rw [hst] at h;cases h) (fun h=>h.elim hlr hbr)
      rw [b9 hbr];refine goA 3 ?_;push_cast;refine cVt yD1 (qKj c.b c.l (by omega) (by omega)) (.cons (aD (aU _)) (.cons (aD (aU _)) .nil)) ?_
      push_cast
      by_cases hbl:c.b=c.l
      ·have eT:ckT c=cat c.r:=by rw [ckT,b7 hL,g8 hbl]
       have eN:ckN c=0:=by rw [ckN,b7 hL,g8 hbl]
       rw [i7 hbl];refine goA 5 ?_;push_cast;refine cVt zL9 (qGf c.r (by omega) (by omega)) (.cons (aD (aU _)) .nil) ?_
       push_cast(disch:=omega);(repeat ((with_reducible refine bJa ?_ ?_);focus first|omega|decide))
       refine ⟨n + 1,by push_cast[mgS];rw [ht,iW,lJ,hTT,hNN,eT,eN];try rfl,hlt,by omega⟩
      ·have eT:ckT c=((((mkA ++ cat (dF c.l)) ++ mkM) ++ cat (dF c.r)) ++ mkB):=by rw [ckT,b7 hL,b7 hbl]
       have eN:ckN c=1:=by rw [ckN,b7 hL,b7 hbl]
       rw [b9 hbl]
       have k1:=qWl c.l (by omega) (fun x hx=>by have:=qJs hx;omega)
       have k2:=qWl c.r (by omega) (fun x hx=>by have:=qJs hx;omega)
       have z1:=nB c.l
       have z2:=nB c.r
       have j1:=qGf (dF c.l) (by rw [mZ];omega) (by omega)
       have j2:=qGf (dF c.r) (by rw [mZ];omega) (by omega)
       refine goA 3 ?_;push_cast(disch:=omega);refine goP [6,7,11,22,23,24] [88,128] ?_
       have sA:({ data:=#[60,60,60,60,60,60,60,10] }:Ba).size=8:=rfl
       have sM:({ data:=#[61,61,61,61,61,61,61,10] }:Ba).size=8:=rfl
       have sB:({ data:=#[62,62,62,62,62,62,62,10] }:Ba).size=8:=rfl
       refine qBb 13 mixed (by kernel_rfl) (fun K hK K1 hK1=>?_);push_cast
       refine qC5 yGy k1 (.cons (aD (aU _)) .nil) ?_;with_reducible refine aS ?_;push_cast
       refine zE0 zL9 j1 (.cons (aD (aU _)) .nil) ?_;with_reducible refine aS ?_;push_cast[sA,sM,sB,n9]
       refine ⟨by omega,by omega,?_⟩
       refine qC5 yGy k2 (.cons (aD (aU _)) .nil) ?_;with_reducible refine aS ?_;push_cast
       refine zE0 zL9 j2 (.cons (aD (aU _)) .nil) ?_;with_reducible refine aS ?_;push_cast[sA,sM,sB,n9]
       refine ⟨by omega,by omega,?_⟩
       refine hK1 _ ?_;(try clear hK1 K1);with_reducible refine aS ?_;push_cast[sA,sM,sB,n9]
       refine ⟨by omega,?_⟩
       refine hK _ ?_;clear hK K;refine goK 3 ?_;push_cast(disch:=omega);refine ⟨n + 1,by push_cast[mgS];rw [ht,iW,lJ,hTT,hNN,eT,eN];try rfl,hlt,by omega⟩
  ·have hne:n=cs.length:=by omega
   subst hne;refine goA 5 ?_;push_cast(disch:=omega)[fF];exact eY (by rw [hfin.1,hfin.2,hE])
open Go.Tr Go.Dk Go.Rc
def mgR (a h s:Int × Ba):Bool:=okM (gV h s (qEj (kV a) h.2 s.2) (qEk (kV a) h.2 s.2) (kR (kV a) h.2 s.2))
def oS {a:Int × Ba} (h:a.2.size≤4096):(kV a).size≤4096:=by
 unfold kV;split
 ·exact h
 ·exact g7 _
def yFz:zMr mgR:=fun a h s ha hh hs =>
 ⟨_,qPd a h s _ _ _ (qRm (kV a) h.2 s.2 (l5 (oS ha) (by decide)) (l5 hh (by decide)) (l5 hs (by decide)))⟩
end Go.Proofs.Y
namespace Go.Tr
open Go Go.Eng Go.RowKit
abbrev zJl (p:Ba) (n:Int):HV:=.agg [.v (.string p),.v (.int .i64 n)]
def vB (t:TypeId) (n:Nat) (ps:Array (Nat × Operand)):nG (.buildSlice t n ps)=pT ps.toList:=qAj t n ps
theorem qHj (id sz i k:Nat):uL (.ptr id sz i k)=[]:=rfl
def qMn (p:Ba) (H S:List Ent):List Ent:=if (H.filter fun e=>bN e.1 p)=(S.filter fun e=>bN e.1 p) then (H.filter fun e=>bN e.1 p) else [(p,(1,ByteArray.empty))]
def zFi {p:Ba} {H S:List Ent} (hH:B3 H) (sp:p.size≤1048576):B3 (qMn p H S):=by
 unfold qMn;split
 ·exact ⟨l5 (p7 ..) hH.len,fun e he=>hH.sz e (bBj.1 he).1⟩
 ·exact ⟨by simp,fun e he=>by simp at he;subst he;exact sp⟩
end Go.Tr
namespace Go.Proofs.Y
open Go Go.Eng Go.RowKit Go.Tr Go.Dk Go.Rc Go.DiffM
def jM (a h s:Int × Ba):=gV h s (qEj (kV a) h.2 s.2) (qEk (kV a) h.2 s.2) (kR (kV a) h.2 s.2)
def qRk (a h s:Int × Ba):Int × Ba:=if okM (jM a h s)=true then (2,(jM a h s).1) else (0,{ data:=#[] })
def yFy (a h s:Int × Ba) (ha:a.2.size≤4096) (hh:h.2.size≤4096) (hs:s.2.size≤4096):HFun Tryz.prog 33 [cY a,cY h,cY s] (fun r st=>r=.tup [cY (qRk a h s),.v (.bool (okM (jM a h s)))]∧st=[]) :=
 qPd a h s _ _ _ (qRm (kV a) h.2 s.2 (l5 (oS ha) (by decide)) (l5 hh (by decide)) (l5 hs (by decide)))
def zUs (p:Ba) (A H S:List Ent) (C:List CfV) (x:T3) (sp:p.size≤1048576) (hA:B3 A) (hH:B3 H) (hS:B3 S) (rA:rise A) (rH:rise H) (rS:rise S) (hx:BT x) :
  HFunS Tryz.prog 17 [.ptr 0 4 0 0,zJl p 2,.lst false (aG A),.lst false (aG H),.lst false (aG S)] (mP C x false true true true true) (fun h st=>h=.v (.int .i64 (cR p (H.filter fun e=>bN e.1 p) [1,2] x).2)∧st=mP C (cR p (H.filter fun e=>bN e.1 p) [1,2] x).1 false true true true true):=by
 refine pV (N:=135) Tryz.func17 rfl Tryz.ntmps17 Tryz.results17 (by simp) ?_
 have gA:=mU A p rA (by have:=hA.len;omega)
 have gH:=mU H p rH (by have:=hH.len;omega)
 have gS:=mU S p rS (by have:=hS.len;omega)
 have sH:=vA H p hH.len hH.sz sp
 have sS:=vA S p hS.len hS.sz sp
 have hu:B3 (H.filter fun e=>bN e.1 p):=⟨l5 (p7 ..) hH.len,fun e he=>hH.sz e (bBj.1 he).1⟩
 have cp:=qJi p _ [1,2] (by simp) (by decide) C x sp hu hx
 rw [show pE [1,2]=[[.ptr 0 4 0 1],[.ptr 0 4 0 2]] from rfl] at cp
 generalize (H.filter fun e=>bN e.1 p)=u at *
 generalize (S.filter fun e=>bN e.1 p)=us at *
 generalize aV A p=nA at *
 generalize aV H p=nH at *
 generalize aV S p=nS at *
 obtain ⟨a1,a2⟩:=nA;obtain ⟨b1,b2⟩:=nH;obtain ⟨d1,d2⟩:=nS;refine goA 9 ?_;push_cast[aN];refine cUt 216 uV gA (.cons (aD (yT _)) (.cons (.v _) .nil)) ?_;push_cast[aN];refine cUt 240 uV gH (.cons (aD (yT _)) (.cons (.v _) .nil)) ?_;push_cast[aN];refine cUt 264 uV gS (.cons (aD (yT _)) (.cons (.v _) .nil)) ?_;push_cast[aN];refine cUt 288 qGu sH (.cons (aD (yT _)) (.cons (.v _) .nil)) ?_;push_cast[aN];refine cUt 312 qGu sS (.cons (aD (yT _)) (.cons (.v _) .nil)) ?_;push_cast[aN];refine goP [0,6,11,15] [0,1,2,3,4,48,288] ?_;refine eZ 288 rfl (by push_cast[d6,uD] <;> exact rfl) ?_
 refine goA 7 ?_;push_cast[aN];refine goP [0,11,15] [0,1,2,3,4] ?_;refine fT 9 [(8,some 552)] [mP C x false true true true true,(552,.hl true 73 1 [[.ptr 0 4 0 1],[.ptr 0 4 0 2]]) :: (mP C x false true true true true)] [] mixed (by kernel_rfl) (by kernel_rfl) rfl (fun K hK K1 hK1=>?_);push_cast[vB,aN]
 refine hK1 _ ?_;(try clear hK1 K1);with_reducible refine aS ?_;push_cast[aN]
 refine zBt 560 [0,1,2,3,4,552] zS4 (cp) rfl (by decide) (by decide) (by push_cast[d6,simprocAttr,bX];try rfl) (by push_cast[d6,simprocAttr,bX];try rfl) ?_
 rintro _ _ ⟨rfl,rfl⟩;refine aS ?_;push_cast[bX,aN];refine hK _ ?_;clear hK K;refine goK 1 ?_;push_cast;refine mC [0,1,2,3,4] (by decide) (by push_cast[d6,bX] <;> exact ⟨rfl,rfl⟩) ?_
 exact ⟨rfl,rfl⟩
def zUr (p:Ba) (A H S:List Ent) (C:List CfV) (x:T3) (sp:p.size≤1048576) (hA:B3 A) (hH:B3 H) (hS:B3 S) (rA:rise A) (rH:rise H) (rS:rise S) (hx:BT x) :
  HFunS Tryz.prog 17 [.ptr 0 4 0 0,zJl p 3,.lst false (aG A),.lst false (aG H),.lst false (aG S)] (mP C x false true true true true) (fun h st=>h=.v (.int .i64 (cR p (S.filter fun e=>bN e.1 p) [0,2] x).2)∧st=mP C (cR p (S.filter fun e=>bN e.1 p) [0,2] x).1 false true true true true):=by
 refine pV (N:=135) Tryz.func17 rfl Tryz.ntmps17 Tryz.results17 (by simp) ?_
 have gA:=mU A p rA (by have:=hA.len;omega)
 have gH:=mU H p rH (by have:=hH.len;omega)
 have gS:=mU S p rS (by have:=hS.len;omega)
 have sH:=vA H p hH.len hH.sz sp
 have sS:=vA S p hS.len hS.sz sp
 have hu:B3 (S.filter fun e=>bN e.1 p):=⟨l5 (p7 ..) hS.len,fun e he=>hS.sz e (bBj.1 he).1⟩
 have cp:=qJi p _ [0,2] (by simp) (by decide) C x sp hu hx
 rw [show pE [0,2]=[[.ptr 0 4 0 0],[.ptr 0 4 0 2]] from rfl] at cp
 generalize (S.filter fun e=>bN e.1 p)=u at *
 generalize (H.filter fun e=>bN e.1 p)=us at *
 generalize aV A p=nA at *
 generalize aV H p=nH at *
 generalize aV S p=nS at *
 obtain ⟨a1,a2⟩:=nA;obtain ⟨b1,b2⟩:=nH;obtain ⟨d1,d2⟩:=nS;refine goA 9 ?_;push_cast[aN];refine cUt 216 uV gA (.cons (aD (yT _)) (.cons (.v _) .nil)) ?_;push_cast[aN];refine cUt 240 uV gH (.cons (aD (yT _)) (.cons (.v _) .nil)) ?_;push_cast[aN];refine cUt 264 uV gS (.cons (aD (yT _)) (.cons (.v _) .nil)) ?_;push_cast[aN];refine cUt 288 qGu sH (.cons (aD (yT _)) (.cons (.v _) .nil)) ?_;push_cast[aN];refine cUt 312 qGu sS (.cons (aD (yT _)) (.cons (.v _) .nil)) ?_;push_cast[aN];refine goP [0,6,11,16] [0,1,2,3,4,48,312] ?_;refine eZ 312 rfl (by push_cast[d6,uD] <;> exact rfl) ?_
 refine goA 9 ?_;push_cast[aN];refine goP [0,11,16] [0,1,2,3,4] ?_;refine fT 9 [(8,some 648)] [mP C x false true true true true,(648,.hl true 73 1 [[.ptr 0 4 0 0],[.ptr 0 4 0 2]]) :: (mP C x false true true true true)] [] mixed (by kernel_rfl) (by kernel_rfl) rfl (fun K hK K1 hK1=>?_);push_cast[vB,aN]
 refine hK1 _ ?_;(try clear hK1 K1);with_reducible refine aS ?_;push_cast[aN]
 refine zBt 656 [0,1,2,3,4,648] zS4 (cp) rfl (by decide) (by decide) (by push_cast[d6,simprocAttr,bX];try rfl) (by push_cast[d6,simprocAttr,bX];try rfl) ?_
 rintro _ _ ⟨rfl,rfl⟩;refine aS ?_;push_cast[bX,aN];refine hK _ ?_;clear hK K;refine goK 1 ?_;push_cast;refine mC [0,1,2,3,4] (by decide) (by push_cast[d6,bX] <;> exact ⟨rfl,rfl⟩) ?_
 exact ⟨rfl,rfl⟩
def zUt (p:Ba) (A H S:List Ent) (C:List CfV) (x:T3) (sp:p.size≤1048576) (hA:B3 A) (hH:B3 H) (hS:B3 S) (rA:rise A) (rH:rise H) (rS:rise S) (hx:BT x) :
  HFunS Tryz.prog 17 [.ptr 0 4 0 0,zJl p 1,.lst false (aG A),.lst false (aG H),.lst false (aG S)] (mP C x false true true true true) (fun h st=>h=.v (.int .i64 (cR p (qMn p H S) [2] x).2)∧st=mP C (cR p (qMn p H S) [2] x).1 false true true true true):=by
 refine pV (N:=135) Tryz.func17 rfl Tryz.ntmps17 Tryz.results17 (by simp) ?_
 have gA:=mU A p rA (by have:=hA.len;omega)
 have gH:=mU H p rH (by have:=hH.len;omega)
 have gS:=mU S p rS (by have:=hS.len;omega)
 have sH:=vA H p hH.len hH.sz sp
 have sS:=vA S p hS.len hS.sz sp
 have hu:B3 (qMn p H S):=zFi hH sp
 have cp:=qJi p _ [2] (by simp) (by decide) C x sp hu hx
 rw [show pE [2]=[[.ptr 0 4 0 2]] from rfl] at cp
 have cs:=qD3 (H.filter fun e=>bN e.1 p) (S.filter fun e=>bN e.1 p) (by have:=p7 (fun e=>bN e.1 p) H;have:=hH.len;omega)
 have eu:qMn p H S=if (H.filter fun e=>bN e.1 p)=(S.filter fun e=>bN e.1 p) then (H.filter fun e=>bN e.1 p) else [(p,(1,ByteArray.empty))]:=rfl
 generalize (H.filter fun e=>bN e.1 p)=u at *
 generalize (S.filter fun e=>bN e.1 p)=us at *
 generalize aV A p=nA at *
 generalize aV H p=nH at *
 generalize aV S p=nS at *
 obtain ⟨a1,a2⟩:=nA;obtain ⟨b1,b2⟩:=nH;obtain ⟨d1,d2⟩:=nS;refine goA 9 ?_;push_cast[aN];refine cUt 216 uV gA (.cons (aD (yT _)) (.cons (.v _) .nil)) ?_;push_cast[aN];refine cUt 240 uV gH (.cons (aD (yT _)) (.cons (.v _) .nil)) ?_;push_cast[aN];refine cUt 264 uV gS (.cons (aD (yT _)) (.cons (.v _) .nil)) ?_;push_cast[aN];refine cUt 288 qGu sH (.cons (aD (yT _)) (.cons (.v _) .nil)) ?_;push_cast[aN];refine cUt 312 qGu sS (.cons (aD (yT _)) (.cons (.v _) .nil)) ?_;push_cast[aN];refine goP [0,6,11,15,16] [0,1,2,3,4,48,288,312] ?_;refine eZ 288 rfl (by push_cast[d6,uD] <;> exact rfl) ?_
 refine eZ 312 rfl (by push_cast[d6,uD] <;> exact rfl) ?_
 refine goA 5 ?_;push_cast[aN]
 by_cases hq:u=us
 ·rw [g8 hq] at eu;rw [eu] at cp ⊢;rw [i7 hq] at cs;refine goA 3 ?_;push_cast;refine cVt qMb cs (.cons (aD (yT _)) (.cons (aD (yT _)) .nil)) ?_;push_cast;refine goP [0,11,15] [0,1,2,3,4] ?_;refine goA 3 ?_;push_cast[aN,qHj];refine cXt 464 [0,1,2,3,4,456] zS4 (cp) (by decide) (by push_cast[d6,bX] <;> first|exact ⟨rfl,rfl⟩|rfl) ?_
  push_cast[bX,aN];refine mC [0,1,2,3,4] (by decide) (by push_cast[d6,bX] <;> exact ⟨rfl,rfl⟩) ?_
  exact ⟨rfl,rfl⟩
 ·rw [b7 hq] at eu;rw [eu] at cp ⊢;rw [b9 hq] at cs;refine goA 5 ?_;push_cast;refine cVt qMb cs (.cons (aD (yT _)) (.cons (aD (yT _)) .nil)) ?_;push_cast[aN];refine goP [0,11,15] [0,1,2,3,4,408] ?_;rw [show ([[FV.v (.string p),.v (.int .i64 1),.v (.string ByteArray.empty)]]:List (List FV))=aG [(p,(1,ByteArray.empty))] from rfl]
  refine eZ 408 rfl (by push_cast[d6,uD] <;> exact rfl) ?_
  refine goA 3 ?_;push_cast[aN,qHj];refine cXt 464 [0,1,2,3,4,456] zS4 (cp) (by decide) (by push_cast[d6,bX] <;> first|exact ⟨rfl,rfl⟩|rfl) ?_
  push_cast[bX,aN];refine mC [0,1,2,3,4] (by decide) (by push_cast[d6,bX] <;> exact ⟨rfl,rfl⟩) ?_
  exact ⟨rfl,rfl⟩
def zUq (p:Ba) (A H S:List Ent) (C:List CfV) (x:T3) (sp:p.size≤1048576) (hA:B3 A) (hH:B3 H) (hS:B3 S) (rA:rise A) (rH:rise H) (rS:rise S) (hx:BT x) (dA:(aV A p).2.size≤4096) (dH:(aV H p).2.size≤4096) (dS:(aV S p).2.size≤4096) :
  HFunS Tryz.prog 17 [.ptr 0 4 0 0,zJl p 4,.lst false (aG A),.lst false (aG H),.lst false (aG S)] (mP C x false true true true true) (fun h st=>h=.v (.int .i64 (cR p [(p,qRk (aV A p) (aV H p) (aV S p))] [0,1,2] x).2)∧st=mP C (cR p [(p,qRk (aV A p) (aV H p) (aV S p))] [0,1,2] x).1 false true true true true):=by
 refine pV (N:=135) Tryz.func17 rfl Tryz.ntmps17 Tryz.results17 (by simp) ?_
 have gA:=mU A p rA (by have:=hA.len;omega)
 have gH:=mU H p rH (by have:=hH.len;omega)
 have gS:=mU S p rS (by have:=hS.len;omega)
 have sH:=vA H p hH.len hH.sz sp
 have sS:=vA S p hS.len hS.sz sp
 have hu:B3 [(p,qRk (aV A p) (aV H p) (aV S p))]:=⟨by simp,fun e he=>by simp at he;subst he;exact sp⟩
 have cp:=qJi p _ [0,1,2] (by simp) (by decide) C x sp hu hx
 rw [show pE [0,1,2]=[[.ptr 0 4 0 0],[.ptr 0 4 0 1],[.ptr 0 4 0 2]] from rfl] at cp
 have cm:=yFy (aV A p) (aV H p) (aV S p) dA dH dS
 clear dA dH dS hu;generalize qRk (aV A p) (aV H p) (aV S p)=m at *
 generalize okM (jM (aV A p) (aV H p) (aV S p))=ok at *
 obtain ⟨m1,m2⟩:=m;generalize (H.filter fun e=>bN e.1 p)=u at *
 generalize (S.filter fun e=>bN e.1 p)=us at *
 generalize aV A p=nA at *
 generalize aV H p=nH at *
 generalize aV S p=nS at *
 obtain ⟨a1,a2⟩:=nA;obtain ⟨b1,b2⟩:=nH;obtain ⟨d1,d2⟩:=nS;refine goA 9 ?_;push_cast[aN];refine cUt 216 uV gA (.cons (aD (yT _)) (.cons (.v _) .nil)) ?_;push_cast[aN];refine cUt 240 uV gH (.cons (aD (yT _)) (.cons (.v _) .nil)) ?_;push_cast[aN];refine cUt 264 uV gS (.cons (aD (yT _)) (.cons (.v _) .nil)) ?_;push_cast[aN];refine cUt 288 qGu sH (.cons (aD (yT _)) (.cons (.v _) .nil)) ?_;push_cast[aN];refine cUt 312 qGu sS (.cons (aD (yT _)) (.cons (.v _) .nil)) ?_;push_cast[aN];refine goP [0,6,11,12,13,14] [0,1,2,3,4,48,96,104,112] ?_;refine goA 13 ?_;push_cast[aN];refine cUt 712 yG2 cm (.cons (bJ (n:=(a1,a2))) (.cons (bJ (n:=(b1,b2))) (.cons (bJ (n:=(d1,d2))) .nil))) ?_;push_cast[aN];refine goP [0,11,17] [0,1,2,3,4,136] ?_;refine fT 15 [(14,some 848)] [mP C x false true true true true ++ [(136,.bx true 42 [.v (.int .i64 m1),.v (.string m2)])],(848,.hl true 73 1 [[.ptr 0 4 0 0],[.ptr 0 4 0 1],[.ptr 0 4 0 2]]) :: (mP C x false true true true true ++ [(136,.bx true 42 [.v (.int .i64 m1),.v (.string m2)])])] [(2,0,1)] mixed (by kernel_rfl) (by kernel_rfl) rfl (fun K hK K1 hK1=>?_);push_cast[vB,aN]
 refine hK1 _ ?_;(try clear hK1 K1);with_reducible refine aS ?_;push_cast[aN]
 rw [show ([[FV.v (.string p),.v (.int .i64 m1),.v (.string m2)]]:List (List FV))=aG [(p,(m1,m2))] from rfl]
 refine zBt 856 [0,1,2,3,4,848] zS4 (cp) rfl (by decide) (by decide) (by push_cast[d6,simprocAttr,bX];try rfl) (by push_cast[d6,simprocAttr,bX];try rfl) ?_
 rintro _ _ ⟨rfl,rfl⟩;refine aS ?_;push_cast[bX,aN];refine hK _ ?_;clear hK K;refine goK 1 ?_;push_cast;refine mC [0,1,2,3,4] (by decide) (by push_cast[d6,bX] <;> exact ⟨rfl,rfl⟩) ?_
 exact ⟨rfl,rfl⟩
end Go.Proofs.Y
namespace Go.Tr
open Go Go.Eng Go.RowKit
abbrev cfN (p t:Ba) (f:Bool) (i j:Nat):List HV:=[.v (.string p),.own i,.own j,.v (.string t),.v (.bool f),.v (.int .i64 0),.v (.string ByteArray.empty)]
def oP (m:Ba × Int × Int):Ba:=if m.2.2=0 then m.1 else ByteArray.empty
def oQ (m:Ba × Int × Int):Bool:=decide (m.2.2=0)
end Go.Tr
namespace Go.Proofs.Y
open Go Go.Eng Go.RowKit Go.Tr Go.Dk Go.Rc Go.DiffM
def yB3 (a h s:Int × Ba) (ha:a.2.size≤4096) (hh:h.2.size≤4096) (hs:s.2.size≤4096):HFun Tryz.prog 34 [cY a,cY h,cY s] (fun r st=>r=.tup ([.string (jM a h s).1,.int .i64 (jM a h s).2.1,.int .i64 (jM a h s).2.2].map .v)) :=
 qUy a h s _ _ _ (qRm (kV a) h.2 s.2 (l5 (oS ha) (by decide)) (l5 hh (by decide)) (l5 hs (by decide)))
def zUp (p:Ba) (w:Int) (A H S:List Ent) (C:List CfV) (x:T3) (sp:p.size≤1048576) (hA:B3 A) (hH:B3 H) (hS:B3 S) (rA:rise A) (rH:rise H) (rS:rise S) (hC:C.length≤1048576)
  (dA:(aV A p).2.size≤4096) (dH:(aV H p).2.size≤4096) (dS:(aV S p).2.size≤4096) (n1:w≠1) (n2:w≠2) (n3:w≠3) (n4:w≠4) :
  HFunS Tryz.prog 17 [.ptr 0 4 0 0,zJl p w,.lst false (aG A),.lst false (aG H),.lst false (aG S)] (mP C x false true true true true) (fun h st=>h=.v (.int .i64 0)∧st=[(0,.bx false 28 [.own 1,.own 2,.own 3,.own 4]),(1,.sl true 44 3 (aG x.1)),(2,.sl true 44 3 (aG x.2.1)),(3,.sl true 44 3 (aG x.2.2)),(4,.hl true 39 7 (cfT C ++ [cfN p (oP (jM (aV A p) (aV H p) (aV S p))) (oQ (jM (aV A p) (aV H p) (aV S p))) 5 6])),
   (5,.sl true 44 3 (aG (H.filter fun e=>bN e.1 p))),(6,.sl true 44 3 (aG (S.filter fun e=>bN e.1 p)))]):=by
 refine pV (N:=135) Tryz.func17 rfl Tryz.ntmps17 Tryz.results17 (by simp) ?_
 have gA:=mU A p rA (by have:=hA.len;omega)
 have gH:=mU H p rH (by have:=hH.len;omega)
 have gS:=mU S p rS (by have:=hS.len;omega)
 have sH:=vA H p hH.len hH.sz sp
 have sS:=vA S p hS.len hS.sz sp
 have cm:=yB3 (aV A p) (aV H p) (aV S p) dA dH dS
 clear dA dH dS;generalize jM (aV A p) (aV H p) (aV S p)=m at *
 obtain ⟨t,k,e⟩:=m;generalize (H.filter fun e=>bN e.1 p)=u at *
 generalize (S.filter fun e=>bN e.1 p)=us at *
 generalize aV A p=nA at *
 generalize aV H p=nH at *
 generalize aV S p=nS at *
 obtain ⟨a1,a2⟩:=nA;obtain ⟨b1,b2⟩:=nH;obtain ⟨d1,d2⟩:=nS
 have z1:decide (w=1)=false:=b9 n1
 have z2:decide (w=2)=false:=b9 n2
 have z3:decide (w=3)=false:=b9 n3
 have z4:decide (w=4)=false:=b9 n4
 refine goA 9 ?_;push_cast[aN];refine cUt 216 uV gA (.cons (aD (yT _)) (.cons (.v _) .nil)) ?_;push_cast[aN];refine cUt 240 uV gH (.cons (aD (yT _)) (.cons (.v _) .nil)) ?_;push_cast[aN];refine cUt 264 uV gS (.cons (aD (yT _)) (.cons (.v _) .nil)) ?_;push_cast[aN];refine cUt 288 qGu sH (.cons (aD (yT _)) (.cons (.v _) .nil)) ?_;push_cast[aN];refine cUt 312 qGu sS (.cons (aD (yT _)) (.cons (.v _) .nil)) ?_;push_cast[aN];refine goP [0,6,11,12,13,14,15,16] [0,1,2,3,4,48,96,104,112,288,312] ?_;refine goA 11 ?_;push_cast[aN,z1,z2,z3,z4];refine jQ 288 1000005 (by decide) rfl rfl (by push_cast[d6,bX] <;> exact rfl) ?_
 refine jQ 312 1000006 (by decide) rfl rfl (by push_cast[d6,bX] <;> exact rfl) ?_
 refine goA 3 ?_;push_cast[aN];refine goP [0,12,13,14,19] [0,1,2,3,4,96,104,112,152,1000005,1000006] ?_;refine goA 3 ?_;push_cast;refine qH8 yG1 cm (.cons (bJ (n:=(a1,a2))) (.cons (bJ (n:=(b1,b2))) (.cons (bJ (n:=(d1,d2))) .nil))) ?_;simp only [d8,m4];with_reducible refine aS ?_;push_cast[aN]
 refine goP [0,19,20,22] [0,1,2,3,4,152,1000005,1000006] ?_
 by_cases he:e=0
 ·have et:oP (t,k,e)=t:=by simp [oP,he]
  have ef:oQ (t,k,e)=true:=by simp [oQ,he]
  rw [et,ef];refine goA 5 ?_;push_cast(disch:=omega);refine goP [0,19] [0,1,2,3,4,152,1000005,1000006] ?_;refine fT 8 [(6,some 1048),(7,some 4)] [[(0,.bx false 28 [.own 1,.own 2,.own 3,.own 4]),(1,.sl true 44 3 (aG x.1)),(2,.sl true 44 3 (aG x.2.1)),(3,.sl true 44 3 (aG x.2.2)),(4,.hl true 39 7 (cfT C)),(152,.bx true 39 [.v (.string p),.own 1000005,.own 1000006,.v (.string t),.v (.bool true),.v (.int .i64 0),.v (.string ByteArray.empty)]),(1000005,.sl true 44 3 (aG u)),(1000006,.sl true 44 3 (aG us))],[(1048,.hl true 39 7 [cfN p t true 1000005 1000006]),(0,.bx false 28 [.own 1,.own 2,.own 3,.own 4]),(1,.sl true 44 3 (aG x.1)),(2,.sl true 44 3 (aG x.2.1)),(3,.sl true 44 3 (aG x.2.2)),(4,.hl true 39 7 (cfT C)),(152,.bx true 39 [.v (.string p),.own 1000005,.own 1000006,.v (.string t),.v (.bool true),.v (.int .i64 0),.v (.string ByteArray.empty)]),(1000005,.sl true 44 3 (aG u)),(1000006,.sl true 44 3 (aG us))],[(4,.hl true 39 7 (cfT C ++ [cfN p t true 1000005 1000006])),(1048,.hl true 39 7 [cfN p t true 1000005 1000006]),(0,.bx false 28 [.own 1,.own 2,.own 3,.junk]),(1,.sl true 44 3 (aG x.1)),(2,.sl true 44 3 (aG x.2.1)),(3,.sl true 44 3 (aG x.2.2)),(152,.bx true 39 [.v (.string p),.own 1000005,.own 1000006,.v (.string t),.v (.bool true),.v (.int .i64 0),.v (.string ByteArray.empty)]),(1000005,.sl true 44 3 (aG u)),(1000006,.sl true 44 3 (aG us))]] [(4,0,1),(5,0,0)] mixed (by kernel_rfl) (by kernel_rfl) rfl (fun K hK K1 hK1=>?_);push_cast(disch:=omega)[vB,aN,qCn,d6]
  refine hK1 _ ?_;(try clear hK1 K1);with_reducible refine aS ?_;push_cast[aN,d6]
  refine hK _ ?_;clear hK K;refine goK 3 ?_;push_cast[aN,d6];refine mC [0,1,2,3,4,1000005,1000006] (by decide) (by push_cast[d6,bX] <;> exact ⟨rfl,rfl⟩) ?_
  exact ⟨rfl,rfl⟩
 ·have hz:decide (e=0)=false:=b9 he
  have et:oP (t,k,e)=ByteArray.empty:=by simp [oP,he]
  have ef:oQ (t,k,e)=false:=by simp [oQ,he]
  rw [et,ef];refine goA 3 ?_;push_cast[hz];refine goP [0,19] [0,1,2,3,4,152,1000005,1000006] ?_;refine fT 8 [(6,some 1048),(7,some 4)] [[(0,.bx false 28 [.own 1,.own 2,.own 3,.own 4]),(1,.sl true 44 3 (aG x.1)),(2,.sl true 44 3 (aG x.2.1)),(3,.sl true 44 3 (aG x.2.2)),(4,.hl true 39 7 (cfT C)),(152,.bx true 39 [.v (.string p),.own 1000005,.own 1000006,.v (.string ByteArray.empty),.v (.bool false),.v (.int .i64 0),.v (.string ByteArray.empty)]),(1000005,.sl true 44 3 (aG u)),(1000006,.sl true 44 3 (aG us))],[(1048,.hl true 39 7 [cfN p ByteArray.empty false 1000005 1000006]),(0,.bx false 28 [.own 1,.own 2,.own 3,.own 4]),(1,.sl true 44 3 (aG x.1)),(2,.sl true 44 3 (aG x.2.1)),(3,.sl true 44 3 (aG x.2.2)),(4,.hl true 39 7 (cfT C)),(152,.bx true 39 [.v (.string p),.own 1000005,.own 1000006,.v (.string ByteArray.empty),.v (.bool false),.v (.int .i64 0),.v (.string ByteArray.empty)]),(1000005,.sl true 44 3 (aG u)),(1000006,.sl true 44 3 (aG us))],[(4,.hl true 39 7 (cfT C ++ [cfN p ByteArray.empty false 1000005 1000006])),(1048,.hl true 39 7 [cfN p ByteArray.empty false 1000005 1000006]),(0,.bx false 28 [.own 1,.own 2,.own 3,.junk]),(1,.sl true 44 3 (aG x.1)),(2,.sl true 44 3 (aG x.2.1)),(3,.sl true 44 3 (aG x.2.2)),(152,.bx true 39 [.v (.string p),.own 1000005,.own 1000006,.v (.string ByteArray.empty),.v (.bool false),.v (.int .i64 0),.v (.string ByteArray.empty)]),(1000005,.sl true 44 3 (aG u)),(1000006,.sl true 44 3 (aG us))]] [(4,0,1),(5,0,0)] mixed (by kernel_rfl) (by kernel_rfl) rfl (fun K hK K1 hK1=>?_);push_cast(disch:=omega)[vB,aN,qCn,d6]
  refine hK1 _ ?_;(try clear hK1 K1);with_reducible refine aS ?_;push_cast[aN,d6]
  refine hK _ ?_;clear hK K;refine goK 3 ?_;push_cast[aN,d6];refine mC [0,1,2,3,4,1000005,1000006] (by decide) (by push_cast[d6,bX] <;> exact ⟨rfl,rfl⟩) ?_
  exact ⟨rfl,rfl⟩
end Go.Proofs.Y
namespace Go.Rc
open Go Go.Tr Go.Eng Go.Dk
variable {mg:(Int × Ba)→(Int × Ba)→(Int × Ba)→Bool}
theorem gC {p q:Ba} {t:List UInt8} (h:p.data.toList=q.data.toList ++ t) (ht:t=[]∨∃ r,t=47 :: r):bN p q=true:=by
 unfold bN
 rcases ht with rfl|⟨r,rfl⟩
 ·have:p=q:=iH (by rw [h,x4])
  rw [i7 this];simp
 ·have:(q ++ stroke).data.toList.isPrefixOf p.data.toList=true:=by
   rw [bAh];exact ⟨r,by rw [h];simp [stroke]⟩
  rw [this];simp
theorem xA (p:Ba):bN p { data:=#[] }=true:=by
 unfold bN
 have:({ data:=#[] }:Ba)=ByteArray.empty:=rfl
 rw [i7 this];rfl
theorem zFu (p:Ba):bN p p=true:=gC (t:=[]) (by simp) (.inl rfl)
theorem qXi {a b c:Ba} (h1:bN a b=true) (h2:bN b c=true):bN a c=true:=by
 by_cases hc:c={ data:=#[] }
 ·rw [hc];exact xA a
 ·obtain ⟨t2,e2,k2⟩:=iA h2 hc
  have hb:b≠{ data:=#[] }:=fun h=>by
   rw [h] at e2
   have e3:=congrArg List.length e2
   rw [i8] at e3
   have e4:c.data.toList.length=0:=by
    have:(({ data:=#[] }:Ba).data.toList).length=0:=rfl
    omega
   exact hc (iH (by rw [bBi.1 e4]))
  obtain ⟨t1,e1,k1⟩:=iA h1 hb;refine gC (t:=t2 ++ t1) (by rw [e1,e2,u6]) ?_
  rcases k2 with rfl|⟨r,rfl⟩
  ·exact k1
  ·exact .inr ⟨r ++ t1,rfl⟩
theorem qB2 {p q:Ba} {e:Ent} (h:cK p e=some q) (hs:∀ r,e.1.data.toList≠47 :: r):bN q p=true∧bN e.1 q=true∧bN e.1 p=true:=by
 unfold cK at h;split at h
 ·cases h
 ·rename_i hn;simp only [bE2,a6] at hn h;obtain ⟨h1,h2,h3⟩:=hn
  have hu:bN e.1 p=true:=by simpa using h2
  obtain ⟨f,hf⟩:∃ f,jG e.1 p=f:=⟨_,rfl⟩;rw [hf] at h h3
  have hfn:f.data.toList≠[]:=fun x=>h3 (iH (by rw [x]))
  have hql:q.data.toList=if p={ data:=#[] } then f.data.toList else p.data.toList ++ 47 :: f.data.toList:=by
   rw [← h];exact qB7 _ _ h3
  have hfl:f.data.toList=(nU (e.1.data.toList.drop p.data.toList.length)).take (nW (nU (e.1.data.toList.drop p.data.toList.length))):=by rw [← hf,rZ]
  have hrest:∀ (l:List UInt8),∃ t,l=l.take (nW l) ++ t∧(t=[]∨∃ r,t=47 :: r):=by
   intro l
   induction l with
  |nil=>exact ⟨[],rfl,.inl rfl⟩
  |cons c r ih =>
    rw [nW];split
    ·rename_i hc;exact ⟨c :: r,rfl,.inr ⟨r,by rw [hc]⟩⟩
    ·obtain ⟨t,e,k⟩:=ih;exact ⟨t,by rw [bDj,u5,← e],k⟩
  obtain ⟨t,ht,hk⟩:=hrest (nU (e.1.data.toList.drop p.data.toList.length));rw [← hfl] at ht
  by_cases hp:p={ data:=#[] }
  ·rw [g8 hp] at hql;refine ⟨by rw [hp];exact xA q,?_,hu⟩
   have hd:e.1.data.toList.drop p.data.toList.length=e.1.data.toList:=by rw [hp];rfl
   rw [hd] at ht
   cases hx:e.1.data.toList with
  |nil =>
    rw [hx] at ht
    have:f.data.toList=[]:=by
     have e3:=congrArg List.length ht
     simp only [nU,bAj,i8] at e3;exact bBi.1 (by omega)
    exact absurd this hfn
  |cons c r =>
    rw [hx] at ht
    by_cases hc:c=47
    ·subst hc;exact absurd hx (hs r)
    ·simp only [nU,b7 hc] at ht;exact gC (t:=t) (by rw [hx,ht,hql]) hk
  ·rw [b7 hp] at hql;refine ⟨gC (t:=47 :: f.data.toList) hql (.inr ⟨_,rfl⟩),?_,hu⟩;obtain ⟨u,hu1,hu2⟩:=iA hu hp
   have hd:e.1.data.toList.drop p.data.toList.length=u:=by rw [hu1,bBt (a7 _),bA8 (a7 _)];rfl
   rw [hd] at ht
   rcases hu2 with rfl|⟨r,rfl⟩
   ·exact absurd (iH (by rw [hu1,x4])) h1
   ·simp only [nU,g8] at ht;exact gC (t:=t) (by rw [hu1,ht,hql,u6];rfl) hk
theorem zEm {p q:Ba} {e:Ent} (h:cK p e=some q):bN e.1 p=true∧bN q p=true:=by
 unfold cK at h;split at h
 ·cases h
 ·rename_i hn;simp only [bE2,a6] at hn h;obtain ⟨h1,h2,h3⟩:=hn
  have hu:bN e.1 p=true:=by simpa using h2
  refine ⟨hu,?_⟩
  by_cases hp:p={ data:=#[] }
  ·rw [hp];exact xA q
  ·have hql:=qB7 p (jG e.1 p) h3
   rw [h,b7 hp] at hql;exact gC hql (.inr ⟨_,rfl⟩)
theorem qBi {r:Ba→LN} {A H S:List Ent} {p:Ba} {x:Ba × Int} (hx:x ∈ gP mg r A H S p):x.1=p∨x ∈ r p:=by
 unfold gP at hx;split at hx
 ·split at hx
  ·cases hx
  ·rw [q6] at hx;exact .inl (by rw [hx])
 ·split at hx
  ·rcases m8.1 hx with hx|hx
   ·split at hx
    ·cases hx
    ·rw [q6] at hx;exact .inl (by rw [hx])
   ·exact .inr hx
  ·split at hx
   ·rw [q6] at hx;exact .inl (by rw [hx])
   ·split at hx
    ·rw [q6] at hx;exact .inl (by rw [hx])
    ·rw [q6] at hx;exact .inl (by rw [hx])
theorem qDx {A H S:List Ent}:∀ (k:Nat) (p:Ba),∀ x ∈ bQ mg A H S k p,bN x.1 p=true
|0,_,x,hx=>by simp [bQ] at hx
|k + 1,p,x,hx=>by
  rw [bQ] at hx;obtain ⟨q,hq,hx⟩:=bBk.1 hx;obtain ⟨y,hy,rfl⟩:=m6.1 hq
  rcases kG (A ++ H ++ S) [] hy with h0|⟨e,he,hn⟩
  ·cases h0
  ·rcases qBi hx with h|h
   ·rw [h];exact (zEm hn).2
   ·exact qXi (qDx k _ x h) (zEm hn).2
theorem qJx {A H S:List Ent} {k:Nat} {q:Ba} {x:Ba × Int} (hx:x ∈ gP mg (bQ mg A H S k) A H S q):bN x.1 q=true:=by
 rcases qBi hx with h|h
 ·rw [h];exact zFu q
 ·exact qDx k q x h
theorem zVc {q:Ba} {v:Int} {L:LN}:q ∈ (put q v L).map (fun e=>e.1):=by
 induction L with
|nil=>simp [put]
|cons y r ih =>
  obtain ⟨t,y⟩:=y;rw [put]
  (repeat' split) <;> first|(simp;done)|(rw [d8,l3];exact .inr ih)
theorem zNz {q s:Ba} {v:Int} {L:LN} (h:s ∈ L.map (fun e=>e.1)):s ∈ (put q v L).map (fun e=>e.1):=by
 induction L with
|nil=>cases h
|cons y r ih =>
  obtain ⟨t,y⟩:=y;rw [d8,l3] at h;rw [put]
  (repeat' split) <;> rcases h with h|h <;> simp_all
theorem qPc {top q:Ba}:∀ (es:List Ent) (L:LN),(q ∈ L.map (fun e=>e.1)∨∃ e ∈ es,cK top e=some q)→q ∈ (es.foldl (cX top) L).map (fun e=>e.1)
|[],L,h=>by
  rcases h with h|⟨e,he,_⟩
  ·exact h
  ·cases he
|e :: r,L,h=>by
  rw [bAu];refine qPc r _ ?_
  rcases h with h|⟨x,hx,hn⟩
  ·refine .inl ?_;unfold cX;split
   ·exact zNz h
   ·exact h
  ·rcases l3.1 hx with rfl|hx
   ·refine .inl ?_;rw [cX,hn];exact zVc
   ·exact .inr ⟨x,hx,hn⟩
end Go.Rc
namespace Go.Proofs.Y
open Go Go.Eng Go.RowKit Go.Tr
def xD (t:List Ent) (p:Ba) (hl:t.length≤1048576) (hs:∀ e ∈ t,e.1.size≤1048576) (hp:p.size≤1048576):HFun Tryz.prog 19 [.lst false (aG t),.v (.string p)] (fun h st=>h=.own 0∧st=[(0,rowE (t.filter fun e=>bN e.1 p))]):=by
 refine bP (N:=28) Tryz.func19 rfl Tryz.ntmps19 Tryz.results19 (by simp) ?_
 refine goA 7 ?_;push_cast;refine goW 5 9000 44 3 rfl ?_;refine goL (fun x:Nat × List Ent=>⟨[(0,.lst false (aG t)),(1,.v (.string p)),(5,.own 9000),(6,.v (.int .i64 x.1))],[(9000,rowE x.2)]⟩) (fun x=>x.1≤t.length∧x.2=(t.take x.1).filter fun e=>bN e.1 p) (fun x=>t.length - x.1) [0,1,5,6] [9000] (0,[]) (by push_cast <;> rfl) ⟨g7 _,rfl⟩ ?_
 rintro ⟨i,out⟩ ⟨hi,ho⟩;simp only at hi ho
 by_cases hlt:i < t.length
 ·have hsz:=hs _ (c7 hlt)
  have hol:out.length≤i:=by
   rw [ho];refine l5 (p7 ..) ?_;rw [l7];omega
  have cu:=qKm t[i].1 p hsz hp
  refine goA 5 ?_;push_cast(disch:=omega)[yV,yU,yW hlt];refine cVt yD5 cu (.cons (.v _) (.cons (.v _) .nil)) ?_;push_cast
  cases hu:bN t[i].1 p with
 |true =>
   have e2:aG out ++ [[FV.v (.string t[i].1),.v (.int .i64 t[i].2.1),.v (.string t[i].2.2)]]=aG (out ++ [t[i]]):=mY out _ _ _
   refine goA 5 ?_;push_cast(disch:=omega)[yV,yU,yW hlt,e2];(repeat ((with_reducible refine bJa ?_ ?_);focus first|omega|decide))
   refine ⟨(i + 1,out ++ [t[i]]),by push_cast <;> rfl,⟨hlt,?_⟩,by dsimp only;omega⟩
   dsimp only;rw [d7 hlt,bA7,← ho];simp [hu]
 |false =>
   refine goA 3 ?_;push_cast(disch:=omega);refine ⟨(i + 1,out),by push_cast <;> rfl,⟨hlt,?_⟩,by dsimp only;omega⟩
   dsimp only;rw [d7 hlt,bA7,← ho];simp [hu]
 ·have hne:i=t.length:=by omega
  subst hne;rw [t6] at ho;rw [ho];refine goA 5 ?_;push_cast(disch:=omega)[yV];exact iQ rfl (dD _) ⟨rfl,rfl⟩
end Go.Proofs.Y
namespace Go.Rc
open Go Go.Eng Go.RowKit Go.Tr Go.Dk
def qFe:∀ (l:List UInt8),∃ r,iU l=l.take (nW l) :: r:=by
 intro l
 induction l with
|nil=>exact ⟨[],rfl⟩
|cons c r ih =>
  obtain ⟨q,hq⟩:=ih
  by_cases hc:c=47
  ·subst hc;exact ⟨iU r,by simp [iU,nW]⟩
  ·exact ⟨q,by simp [iU,nW,hc,hq]⟩
def qJz {p:Ba} {d:Int} (h:pOk p d=true):eG (vol p)=true:=by
 obtain ⟨r,hr⟩:=qFe p.data.toList
 have hp:parts p=vol p :: r.map mkB:=by
  rw [parts,hr,d8]
  congr 1
  exact iH (by rw [qD1];rfl)
 unfold pOk at h;rw [hp,bEb] at h;simp only [g9] at h;exact h.2.1
def vN {p:Ba} {d:Int} (h:pOk p d=true):∀ r,p.data.toList≠47 :: r:=by
 intro r hr
 have h1:=qJz h
 have h2:(vol p).size=0:=by rw [Lib.size_eq,qD1,hr];simp [nW]
 unfold eG at h1;rw [h2] at h1;simp at h1
def TB.sub {t:List Ent} (h:TB t) (p:Ba):TB (dX t p) :=
 ⟨List.Pairwise.filter _ h.rise,l5 (p7 ..) h.len,fun e he=>h.sz e (bBj.1 he).1,fun e he=>h.dat e (bBj.1 he).1⟩
end Go.Rc
namespace Go.Proofs.Y
open Go Go.Eng Go.RowKit Go.Tr Go.Dk Go.Rc
end Go.Proofs.Y
namespace Go.Rc
open Go Go.Tr Go.Eng Go.Dk
variable {mg:(Int × Ba)→(Int × Ba)→(Int × Ba)→Bool}
theorem qL7 (l r:List UInt8):iU (l ++ 47 :: r)=iU l ++ iU r:=by
 induction l with
|nil=>rw [u4,gK];rfl
|cons c l ih =>
  by_cases hc:c=47
  ·subst hc;rw [u5,gK,gK,ih];rfl
  ·obtain ⟨q,hq⟩:=qFe l;rw [hq] at ih;rw [u5,iT hc hq,iT hc ih];rfl
theorem qY8 {p q:Ba} (h:bN p q=true) (hq:q≠{ data:=#[] }):∃ t,parts p=parts q ++ t:=by
 obtain ⟨t,ht,hs⟩:=iA h hq
 rcases hs with rfl|⟨r,rfl⟩
 ·rw [x4] at ht;exact ⟨[],by rw [parts,parts,ht,x4]⟩
 ·exact ⟨(iU r).map mkB,by rw [parts,parts,ht,qL7,d6]⟩
theorem qUm {p q:Ba} {d:Int} (h:bN p q=true) (hq:q≠{ data:=#[] }) (hp:pOk p d=true):pOk q d=true:=by
 obtain ⟨t,ht⟩:=qY8 h hq;unfold pOk at hp ⊢;rw [ht,i8,bDq] at hp;simp only [g9,m7] at hp ⊢;exact ⟨by omega,hp.2.1⟩
theorem yB1 {c:UInt8} (h:okC c=true):47 < c:=by
 unfold okC at h;simp only [w9,g9,m7,UInt8.le_iff_toNat_le] at h;rw [UInt8.lt_iff_toNat_lt]
 have h0:(47:UInt8).toNat=47:=rfl
 have h1:(97:UInt8).toNat=97:=rfl
 have h2:(48:UInt8).toNat=48:=rfl
 rw [h1,h2] at h;rw [h0]
 rcases h with (h|h)|h
 ·omega
 ·omega
 ·subst h;decide
theorem qSa:∀ (l:List UInt8),(∀ s ∈ iU l,∀ c ∈ s,47 < c)→∀ c ∈ l,c≠47→47 < c
|[],_,c,hc,_=>by cases hc
|x :: r,h,c,hc,hn=>by
  by_cases hx:x=47
  ·subst hx;rw [gK] at h
   rcases l3.1 hc with rfl|hc
   ·exact absurd rfl hn
   ·exact qSa r (fun s hs=>h s (by simp [hs])) c hc hn
  ·obtain ⟨q,hq⟩:=qFe r;rw [iT hx hq] at h
   rcases l3.1 hc with rfl|hc
   ·exact h _ (l3.2 (.inl rfl)) c (l3.2 (.inl rfl))
   ·refine qSa r (fun s hs=>?_) c hc hn
    rw [hq] at hs
    rcases l3.1 hs with rfl|hs
    ·exact fun y hy=>h _ (l3.2 (.inl rfl)) y (l3.2 (.inr hy))
    ·exact h s (by simp [hs])
theorem yBz {p:Ba} {d:Int} (h:pOk p d=true):∀ c ∈ p.data.toList,c≠47→47 < c:=by
 refine qSa _ fun s hs c hc=>?_
 unfold pOk at h;simp only [g9,o8] at h
 have h1:=h.2 (mkB s) (m6.2 ⟨s,hs,rfl⟩)
 unfold eG at h1;simp only [g9,o8] at h1;exact yB1 (h1.2 c (by simpa [mkB] using hc))
theorem zU9 {p q:Ba} {d:Int} {r:List UInt8} (hp:pOk p d=true) (h:p.data.toList=q.data.toList ++ 47 :: r):r.take (nW r)≠[]:=by
 obtain ⟨t,ht⟩:=qFe r;unfold pOk at hp;simp only [g9,o8] at hp
 have h1:=hp.2 (mkB (r.take (nW r))) (by rw [parts,h,qL7,ht];simp)
 intro h0;rw [h0] at h1;simp [eG,mkB,ByteArray.size] at h1
theorem zH1 {p q:Ba} {d:Int} {e:Ent} (he:e.1=p) (hp:pOk p d=true) (hu:bN p q=true) (hn:p≠q):∃ x,cK q e=some x:=by
 have hf:jG p q≠{ data:=#[] }:=fun x=>by
  have hl:=rZ p q
  rw [x] at hl
  by_cases hq:q={ data:=#[] }
  ·have h0:=qJz hp
   have h1:p.data.toList.drop q.data.toList.length=p.data.toList:=by rw [hq];rfl
   have h2:nU p.data.toList=p.data.toList:=by
    cases hx:p.data.toList with
   |nil=>rfl
   |cons c r =>
     have:c≠47:=fun y=>vN hp r (by rw [hx,y])
     simp [nU,this]
   rw [h1,h2,← qD1] at hl
   have h3:vol p={ data:=#[] }:=iH hl.symm
   rw [h3] at h0;simp [eG,ByteArray.size] at h0
  ·obtain ⟨t,ht,hs⟩:=iA hu hq
   rcases hs with rfl|⟨r,rfl⟩
   ·exact hn (iH (by rw [ht,x4]))
   ·have h1:p.data.toList.drop q.data.toList.length=47 :: r:=by rw [ht,bBt (a7 _),bA8 (a7 _)];rfl
    rw [h1] at hl;simp only [nU,g8] at hl;exact zU9 hp ht hl.symm
 unfold cK;rw [b7 (by rw [he,hu];simp only [bE2];exact ⟨hn,by decide,hf⟩)]
 exact ⟨_,rfl⟩
theorem zH8 (l:List UInt8) {a b:List UInt8} (h:Op.bytesLess a b=true):Op.bytesLess (l ++ a) (l ++ b)=true:=by
 induction l with
|nil=>exact h
|cons c l ih=>simp [Op.bytesLess,ih]
theorem qRp (l:List UInt8) {a b:List UInt8} (h:Op.bytesLess (l ++ a) (l ++ b)=true):Op.bytesLess a b=true:=by
 induction l with
|nil=>exact h
|cons c l ih=>exact ih (by simpa [Op.bytesLess] using h)
theorem qU4:∀ {a b t:List UInt8} (u:List UInt8),Op.bytesLess a b=true→(∀ c ∈ b,47 < c)→(t=[]∨∃ r,t=47 :: r)→Op.bytesLess (a ++ t) (b ++ u)=true
|[],[],_,_,h,_,_=>by cases h
|[],c :: b,t,u,_,hb,ht=>by
  rcases ht with rfl|⟨r,rfl⟩
  ·rfl
  ·have:=hb c (by simp)
   simp [Op.bytesLess,this]
|_ :: _,[],_,_,h,_,_=>by cases h
|x :: a,c :: b,t,u,h,hb,ht=>by
  simp only [Op.bytesLess,w9,m7,g9,bAc,u5] at h ⊢
  rcases h with h|⟨h1,h⟩
  ·exact .inl h
  ·exact .inr ⟨h1,qU4 u h (fun y hy=>hb y (by simp [hy])) ht⟩
theorem qF8 {top q:Ba} {e:Ent} (h:cK top e=some q):∃ f:List UInt8,q.data.toList=(if top={ data:=#[] } then [] else top.data.toList ++ [47]) ++ f∧∀ c ∈ f,c≠47:=by
 unfold cK at h;split at h
 ·cases h
 ·rename_i hn;simp only [bE2,a6] at hn h;obtain ⟨h1,h2,h3⟩:=hn;refine ⟨(jG e.1 top).data.toList,?_,by rw [rZ];exact qFp _⟩
  have hql:=qB7 top (jG e.1 top) h3
  rw [h] at hql;rw [hql]
  by_cases ht:top={ data:=#[] }
  ·rw [g8 ht,g8 ht,u4]
  ·rw [b7 ht,b7 ht,u6];rfl
theorem qMh {a b:Ba}:blt a b=Op.bytesLess a.data.toList b.data.toList:=by rw [blt,Lib.toList_data,Lib.toList_data]
theorem qZs {top q1 q2 x y:Ba} {e1 e2:Ent} {d:Int} (h1:cK top e1=some q1) (h2:cK top e2=some q2) (hk:pOk q2 d=true) (hq:blt q1 q2=true) (hx:bN x q1=true) (hy:bN y q2=true):blt x y=true:=by
 obtain ⟨f1,k1,n1⟩:=qF8 h1;obtain ⟨f2,k2,n2⟩:=qF8 h2
 have s1:=(iE h1).1
 have s2:=(iE h2).1
 obtain ⟨t1,u1,v1⟩:=iA hx (fun z=>by rw [z] at s1;exact absurd s1 (by show ¬ _ < 0;omega))
 obtain ⟨t2,u2,v2⟩:=iA hy (fun z=>by rw [z] at s2;exact absurd s2 (by show ¬ _ < 0;omega))
 have lo:=yBz hk
 rw [k2] at lo;rw [qMh,k1,k2] at hq;rw [qMh,u1,u2,k1,k2,u6,u6];exact zH8 _ (qU4 t2 (qRp _ hq) (fun c hc=>lo c (by simp [hc]) (n2 c hc)) v1)
theorem qWz {E A H S:List Ent} (hE:A ++ H ++ S=E):∀ (k:Nat) (top:Ba),∀ x ∈ bQ mg A H S k top,top.size < x.1.size∧bN x.1 top=true
|0,_,x,hx=>by simp [bQ] at hx
|k + 1,top,x,hx=>by
  refine ⟨?_,qDx _ _ x hx⟩;rw [bQ,hE] at hx;obtain ⟨q,hq,hx⟩:=bBk.1 hx;obtain ⟨y,hy,rfl⟩:=m6.1 hq
  rcases kG E [] hy with h0|⟨e,he,hn⟩
  ·cases h0
  ·have:=(iE hn).1
   rcases qBi hx with h|h
   ·rw [h];exact this
   ·have:=(qWz hE k _ x h).1
    omega
theorem qJd {E A H S:List Ent} (hE:A ++ H ++ S=E) (hk:∀ e ∈ E,pOk e.1 5=true):∀ (k:Nat) (top:Ba),∀ x ∈ bQ mg A H S k top,pOk x.1 5=true
|0,_,x,hx=>by simp [bQ] at hx
|k + 1,top,x,hx=>by
  rw [bQ,hE] at hx;obtain ⟨q,hq,hx⟩:=bBk.1 hx;obtain ⟨y,hy,rfl⟩:=m6.1 hq
  rcases kG E [] hy with h0|⟨e,he,hn⟩
  ·cases h0
  ·rcases qBi hx with h|h
   ·have s1:=(iE hn).1
    rw [h];exact qUm (qB2 hn (vN (hk e he))).2.1 (fun z=>by rw [z] at s1;exact absurd s1 (by show ¬ _ < 0;omega)) (hk e he)
   ·exact qJd hE hk k _ x h
theorem qDy {E A H S:List Ent} (hE:A ++ H ++ S=E) (hk:∀ e ∈ E,pOk e.1 5=true):∀ (k:Nat) (top:Ba),(bQ mg A H S k top).Pairwise fun a b=>blt a.1 b.1=true
|0,_=>by rw [bQ];exact List.Pairwise.nil
|k + 1,top=>by
  rw [bQ,hE]
  have hr:(lB top E).Pairwise fun a b=>blt a.1 b.1=true:=xN E [] List.Pairwise.nil
  have hm:∀ y ∈ lB top E,∃ e ∈ E,cK top e=some y.1:=fun y hy=>by
   rcases kG E [] hy with h0|h
   ·cases h0
   ·exact h
  have one:∀ q:Ba,(gP mg (bQ mg A H S k) A H S q).Pairwise fun a b=>blt a.1 b.1=true:=fun q=>by
   unfold gP
   (repeat' split) <;> first
   |exact List.pairwise_singleton _ _
   |exact List.Pairwise.nil
   |(rw [u4];exact qDy hE hk k q)
   |skip
   rw [List.singleton_append,w8];refine ⟨fun x hx=>?_,qDy hE hk k q⟩
   obtain ⟨s,u⟩:=qWz hE k q x hx;dsimp only;rw [qMh]
   by_cases hq:q={ data:=#[] }
   ·have:x.1.data.toList≠[]:=fun z=>by
     have:x.1.size=0:=by rw [Lib.size_eq,z];rfl
     omega
    rw [hq];show Op.bytesLess [] _=true
    exact tL [] _ this
   ·obtain ⟨t,ht,-⟩:=iA u hq;rw [ht];refine tL _ _ fun z=>?_
    rw [z,x4] at ht
    have:x.1.size=q.size:=by rw [Lib.size_eq,ht,← Lib.size_eq]
    omega
  clear hE;generalize hN:lB top E=N at hr hm;clear hN
  induction N with
 |nil=>exact List.Pairwise.nil
 |cons a r ih =>
   obtain ⟨h1,h2⟩:=w8.1 hr;rw [d8,s9];refine bD5.2 ⟨one _,ih h2 (fun y hy=>hm y (by simp [hy])),fun x hx y hy=>?_⟩
   obtain ⟨q,hq,hy⟩:=bBk.1 hy;obtain ⟨z,hz,rfl⟩:=m6.1 hq;obtain ⟨e1,-,n1⟩:=hm a (by simp)
   obtain ⟨e2,m2,n2⟩:=hm z (by simp [hz])
   have s2:=(iE n2).1
   have o2:=qUm (qB2 n2 (vN (hk e2 m2))).2.1 (fun z=>by rw [z] at s2;exact absurd s2 (by show ¬ _ < 0;omega)) (hk e2 m2)
   exact qZs n1 n2 o2 (h1 z hz) (qJx hx) (qJx hy)
theorem zSa {t:List Ent} {p:Ba} (h:aV t p≠qZl):∃ e ∈ t,e.1=p:=by
 unfold aV at h
 cases hf:t.find? (fun e=>decide (e.1=p)) with
|none=>rw [hf] at h;exact absurd rfl h
|some e=>exact ⟨e,bDf hf,by simpa using List.find?_some hf⟩
end Go.Rc
namespace Go.Tr
open Go
def zSz:∀ (l:List UInt8),l.length + 1=((iU l).map fun x=>x.length + 1).sum
|[]=>by decide
|c :: r=>by
  have ih:=zSz r
  by_cases e:c=47
  ·subst e;rw [gK,d8,bBe,← ih];simp;omega
  ·cases hc:iU r with
  |nil=>exact absurd hc (qCj r)
  |cons x t =>
    rw [iT e hc];rw [hc] at ih;simp only [d8,bBe,i6] at ih ⊢;omega
def zD2 {m:Nat}:∀ {l:List Nat},(∀ x ∈ l,x≤m)→l.sum≤l.length * m
|[],_=>by simp
|a :: l,h=>by
  have h1:=h a (by simp)
  have h2:=zD2 (m:=m) (l:=l) fun x hx=>h x (by simp [hx])
  rw [bBe,i6,x6];omega
def qRd {p:Ba} {d:Nat} (h:pOk p d=true):p.size≤d * 13:=by
 simp only [pOk,g9,m7] at h;obtain ⟨h1,h2⟩:=h
 have hs:=zSz p.data.toList
 have hle:=zD2 (l:=(iU p.data.toList).map fun x=>x.length + 1) (m:=13) fun x hx=>by
  obtain ⟨y,hy,rfl⟩:=m6.1 hx
  have:=o8.1 h2 (mkB y) (m6.2 ⟨y,hy,rfl⟩)
  simp only [eG,g9,m7] at this
  have hz:(mkB y).size=y.length:=by simp [mkB,ByteArray.size]
  omega
 rw [← hs,c8] at hle
 have hl:(parts p).length=(iU p.data.toList).length:=by simp [parts]
 rw [Lib.size_eq]
 have:(iU p.data.toList).length * 13≤d * 13:=m5 _ (by omega)
 omega
end Go.Tr
namespace Go.Eng
open Go Go.RowKit
def zZu {P:Program} {N:Nat} {Q:dP} {S:HS} {id a d1 d2:Nat} {t u ty1 ty2:TypeId} {p1 p2:String} {af1 af2:Array Edge} {fr:Bool} {ys:List (List FV)}
  (ha:hlk S.env a=some (.lst fr ys)) (h1:eJ N (some d1)=true) (h2:eJ N (some d2)=true) (hu:(bV P t).isSome=true)
  (h:∀ b:Bool,(b=true→ys=[])→Q .normal ⟨(d2,.v (.bool b)) :: (d1,.lst fr ys) :: S.env,S.st⟩) :
  HW P N (.region id #[⟨some d1,.move (.tmp a),ty1,p1,af1,none⟩,⟨some d2,.binOp .eql t (.tmp d1) (.const (.slice none 0 0)) u,ty2,p2,af2,none⟩] false) Q S:=fun c l w I=>by
 obtain ⟨ρ,xs,G⟩:=I;obtain ⟨v,hv,hr⟩:=G.env a _ ha
 have hr0:=hr
 cases hr with
|lst hF =>
 cases hF with
|lst sz vals hn hc hm hnil hsz hadd h1' hr' =>
 rename_i ad n cap;refine qA9 (ops:=[⟨some d1,.move (.tmp a),ty1,p1,af1,none⟩,⟨some d2,.binOp .eql t (.tmp d1) (.const (.slice none 0 0)) u,ty2,p2,af2,none⟩]) fun K hK=>?_
 simp only [zZs,yEc,gd,qDr,bH,zEe,zPb,ev,hv,stp,lk,bBm,qHi];refine ⟨eQ h1,trivial,eQ h2,hu,hK _ _ ?_⟩
 have I1:Inv c (S.set (some d1) (.lst fr ys)) (lk (stp (some d1) (.slice ad n cap) l)) w:=InvV.set ⟨ρ,xs,G,hr0⟩ (some d1)
 obtain ⟨ρ2,xs2,G2⟩:=I1
 have I2:=InvV.set (l:=stp (some d1) (.slice ad n cap) l) (h:=.v (.bool ad.isNone)) (v:=.bool ad.isNone) ⟨ρ2,xs2,G2,.v _⟩ (some d2)
 refine ⟨_,I2,h ad.isNone fun e=>?_⟩
 cases ad with
|some _=>cases e
|none =>
  have:=hnil rfl
  exact o5 (by omega)
end Go.Eng
namespace Go.Proofs.Y
open Go Go.Eng Go.RowKit Go.Tr
def qL3 (t:List Ent) (hl:t.length≤1048576):HFun Tryz.prog 15 [.lst false (aG t)] (fun h st=>h=.own 0∧st=[(0,rowE t)]):=by
 refine bP (N:=8) Tryz.func15 rfl Tryz.ntmps15 Tryz.results15 (by simp) ?_
 refine goA 3 ?_;push_cast;refine zZu rfl rfl rfl (by rw [qMr];rfl) (fun b hb=>?_)
 dsimp only;refine uG rfl (fun hb2=>?_) (fun hb2=>?_)
 ·have ht:t=[]:=by
   have:=hb hb2
   cases t with
  |nil=>rfl
  |cons a r=>simp [aG] at this
  subst ht
  (repeat first|refine zE ?_|refine zA ?_|refine zC ?_|refine zB ?_|refine zD ?_);refine zJ (fun K hK=>?_);push_cast;refine hK _ ?_;clear hK K
  refine goW 2 9000 44 3 rfl ?_;refine goA 1 ?_;push_cast;exact iQ rfl (dD []) ⟨rfl,rfl⟩
 ·refine goA 3 ?_;push_cast(disch:=omega)[yV,yU];(repeat ((with_reducible refine bJa ?_ ?_);focus first|omega|decide))
  exact iQ rfl (dD _) ⟨rfl,rfl⟩
structure PutEnd (t:List Ent) (p:Ba) (n:Int × Ba):Prop where
 ok:pOk p 5=true
 whole:qZ n=true
 some:n.1≠0
 free:nV t p=false
 up:par p={ data:=#[] }∨(aV t (par p)).1=1
 dir:n.1=1∨(t.filter fun e=>bN e.1 p).length≤1
 zU2:t.length < 200
 last:dE t p=t.length
 rise:rise t
 size:p.size≤1048576∧∀ e ∈ t,e.1.size≤1048576
end Go.Proofs.Y
namespace Go.Eng
open Go Go.RowKit Go.Tr
def lfE (ty:Nat) (v:Value) (l:List Ent):Leaf:=⟨v,ty,3,l.length,iF l⟩
def yAl {l:List Ent} {i k:Nat} (hi:i < (aG l).length) (hk:k < (aG l)[i].length) (hv:i * 3 + k < (iF l).length):(aG l)[i][k]=.v (iF l)[i * 3 + k]:=by
 obtain ⟨x,h1,h2,-⟩:=qW l i k hi hk;rw [h1];rw [c9 hv] at h2;exact congrArg FV.v (q9 h2).symm
def zQb (ty:Nat) (v:Value) (l:List Ent):LeafIs (lfE ty v l) (aG l):=⟨by simp [lfE,aG],fun x hx=>by obtain ⟨s,-,rfl⟩:=m6.1 hx;rfl,fun i k hi hk=>qW l i k hi hk⟩
def qV7 {F:List Leaf} {S:HS} {a b c d ty:Nat} {x y z:Row} {els:List (List HV)} {v:Value} {Q:HV→aC→List Leaf→Prop} (h0:rlk S.st a=some x) (h1:rlk S.st b=some y) (h2:rlk S.st c=some z) (h3:rlk S.st d=some (.hl true ty 7 els))
  (hx:zTs x) (hy:zTs y) (hz:zTs z) (hxr:∀ p,x.ren p=x) (hyr:∀ p,y.ren p=y) (hzr:∀ p,z.ren p=z) (hel:∀ x ∈ els,∀ f ∈ x,NamH f) (her:∀ p,els.map (List.map (HV.ren p))=els)
  (hd:dup [a,b,c,d]=false) (q:Q (.tup [.agg [.own 0,.own 1,.own 2,.own 3],.v v]) [(0,x),(1,y),(2,z),(3,.hl true ty 7 els)] F):zT7 F S (.tup [.agg [.own a,.own b,.own c,.own d],.v v]) Q:=by
 refine ⟨[a,b,c,d],by simp,hd,.tup fun x hx=>?_,fun id hid r hr=>?_,?_⟩
 ·simp only [l3,bBf,bDu] at hx
  rcases hx with rfl|rfl
  ·refine .agg fun y hy=>?_
   simp only [l3,bBf,bDu] at hy
   rcases hy with rfl|rfl|rfl|rfl <;> exact .own _
  ·exact .v _
 ·simp only [l3,bBf,bDu] at hid
  rcases hid with rfl|rfl|rfl|rfl
  ·rw [h0] at hr;cases hr;exact hx
  ·rw [h1] at hr;cases hr;exact hy
  ·rw [h2] at hr;cases hr;exact hz
  ·rw [h3] at hr;cases hr;exact ⟨rfl,hel⟩
 ·have e:gD (pos [a,b,c,d]) S.st 0 [a,b,c,d]=[(0,x),(1,y),(2,z),(3,.hl true ty 7 els)]:=by
   simp only [gD,h0,h1,h2,h3,hxr,hyr,hzr];simp only [Row.ren,her]
  rw [e]
  have hab:a≠b∧a≠c∧a≠d∧b≠c∧b≠d∧c≠d:=by simp [dup] at hd;omega
  have:(HV.tup [.agg [.own a,.own b,.own c,.own d],.v v]).ren (pos [a,b,c,d])=.tup [.agg [.own 0,.own 1,.own 2,.own 3],.v v]:=by
   obtain ⟨h1,h2,h3,h4,h5,h6⟩:=hab;simp [HV.ren,pos,h1,h2,h3,h4,h5,h6]
  rw [this];exact q
end Go.Eng
namespace Go.Proofs.Y
open Go Go.Eng Go.RowKit Go.Tr Go.Rc Go.Dk Go.DiffM
def zH3 (t:List Ent):zTs (Tr.rowE t):=⟨rfl,fun x hx f hf=>by
 obtain ⟨i,hi,rfl⟩:=p9 hx;obtain ⟨k,hk,rfl⟩:=p9 hf;obtain ⟨y,h1,-⟩:=qW t i k hi hk;exact ⟨y,h1⟩⟩
def ksW (w:Int):List Nat:=if w=1 then [2] else if w=2 then [1,2] else if w=3 then [0,2] else [0,1,2]
def uW (A H S:List Ent) (p:Ba) (w:Int):List Ent:=if w=1 then qMn p H S else if w=2 then (H.filter fun e=>bN e.1 p) else if w=3 then (S.filter fun e=>bN e.1 p) else [(p,qRk (aV A p) (aV H p) (aV S p))]
def qSi (A H S:List Ent) (p:Ba):Cfl:=⟨p,H.filter fun e=>bN e.1 p,S.filter fun e=>bN e.1 p,oP (jM (aV A p) (aV H p) (aV S p)),oQ (jM (aV A p) (aV H p) (aV S p))⟩
def qHm (w:Int):Bool:=w == 1 || w == 2 || w == 3 || w == 4
def kU (A H S:List Ent):List (Ba × Int)→T3→List Cfl→(T3 × List Cfl) × Int
|[],x,C=>((x,C),0)
|(p,w) :: r,x,C=>if qHm w=true then (if (cR p (uW A H S p w) (ksW w) x).2=0 then kU A H S r (cR p (uW A H S p w) (ksW w) x).1 C else ((([],[],[]),[]),(cR p (uW A H S p w) (ksW w) x).2)) else kU A H S r x (C ++ [qSi A H S p])
def cfL (T:List CfV):List Leaf:=T.flatMap fun t=>[lfE 44 (hd t.2.1 t.1.h.length) t.1.h,lfE 44 (hd t.2.2 t.1.s.length) t.1.s]
def zTc (T:List CfV) (t:CfV):(cfL T ++ [lfE 44 (hd t.2.1 t.1.h.length) t.1.h]) ++ [lfE 44 (hd t.2.2 t.1.s.length) t.1.s]=cfL (T ++ [t]):=by simp [cfL]
def zUo (p:Ba) (w:Int) (A H S:List Ent) (C:List CfV) (x:T3) (hw:qHm w=true) (sp:p.size≤1048576) (hA:B3 A) (hH:B3 H) (hS:B3 S) (rA:rise A) (rH:rise H) (rS:rise S) (hx:BT x) (dA:(aV A p).2.size≤4096) (dH:(aV H p).2.size≤4096) (dS:(aV S p).2.size≤4096) :
  HFunS Tryz.prog 17 [.ptr 0 4 0 0,zJl p w,.lst false (aG A),.lst false (aG H),.lst false (aG S)] (mP C x false true true true true) (fun h st=>h=.v (.int .i64 (cR p (uW A H S p w) (ksW w) x).2)∧st=mP C (cR p (uW A H S p w) (ksW w) x).1 false true true true true):=by
 have:w=1∨w=2∨w=3∨w=4:=by simpa [qHm,or_assoc] using hw
 rcases this with rfl|rfl|rfl|rfl
 ·exact zUt p A H S C x sp hA hH hS rA rH rS hx
 ·exact zUs p A H S C x sp hA hH hS rA rH rS hx
 ·exact zUr p A H S C x sp hA hH hS rA rH rS hx
 ·exact zUq p A H S C x sp hA hH hS rA rH rS hx dA dH dS
def zM6 {A H S:List Ent} {p:Ba} {w:Int} (hH:B3 H) (hS:B3 S) (sp:p.size≤1048576):B3 (uW A H S p w):=by
 unfold uW;split
 ·exact zFi hH sp
 ·split
  ·exact ⟨l5 (p7 ..) hH.len,fun e he=>hH.sz e (bBj.1 he).1⟩
  ·split
   ·exact ⟨l5 (p7 ..) hS.len,fun e he=>hS.sz e (bBj.1 he).1⟩
   ·exact ⟨by simp,fun e he=>by simp at he;subst he;exact sp⟩
def tE {p:Ba} {u:List Ent} (hu:B3 u):∀ (ks:List Nat) {x:T3},BT x→BT (cR p u ks x).1
|[],x,h=>h
|k :: r,x,h=>by
  rw [cR];split
  ·exact tE hu r (h.set ((h k).rpl hu) k)
  ·exact h
def fG {t:List Ent} (h:TB t):B3 t:=⟨by have:=h.len;omega,h.sz⟩
def zP6 {A H S:List Ent} (hA:TB A) (hH:TB H) (hS:TB S) (hk:∀ e ∈ A ++ H ++ S,pOk e.1 5=true) :
  HFunF Tryz.prog 7 [.lst false (aG A),.lst false (aG H),.lst false (aG S)] (fun h st F=>∃ (x:T3) (T U:List CfV) (e:Int),kU A H S (fE mgR A H S) (H,S,A) []=((x,T.map Prod.fst),e)∧h=.tup [.agg [.own 0,.own 1,.own 2,.own 3],.v (.int .i64 e)]∧st=[(0,Tr.rowE x.1),(1,Tr.rowE x.2.1),(2,Tr.rowE x.2.2),(3,.hl true 39 7 (cfT T))]∧F=cfL U∧(e=0→U=T)∧(e≠0→T=[])):=by
 refine yGj (N:=39) Tryz.func7 rfl Tryz.ntmps7 Tryz.results7 (by simp) ?_
 have ci:=zWz (mg:=mgR) hA hH hS (.inr yFz)
 have hb:(fE mgR A H S).length≤3000:=by
  have h1:=uE (mg:=mgR) A H S 1048577 { data:=#[] }
  have:=hA.len
  have:=hH.len
  have:=hS.len
  have e:fE mgR A H S=bQ mgR A H S 1048577 { data:=#[] }:=rfl
  rw [e];omega
 have hpk:∀ x ∈ fE mgR A H S,pOk x.1 5=true:=qJd rfl hk _ _
 generalize fE mgR A H S=L at *
 have bx:BT (H,S,A):=fun k=>by
  match k with
 |0=>exact fG hH
 |1=>exact fG hS
 |k + 2=>exact fG hA
 have nA:=qL3 A (fG hA).len
 have nH:=qL3 H (fG hH).len
 have nS:=qL3 S (fG hS).len
 (repeat first|refine bE ?_|refine aE ?_|refine aY ?_|refine aH ?_|refine aW ?_);refine bY ?_
 refine goA 3 ?_;push_cast
 (repeat first|refine bE ?_|refine aE ?_|refine aY ?_|refine aH ?_|refine aW ?_);refine bY ?_
 refine goA 3 ?_;push_cast;refine cUt 104 yD7 nH (.cons (aD (yT _)) .nil) ?_;push_cast;refine cUt 120 yD7 nS (.cons (aD (yT _)) .nil) ?_;push_cast;refine cUt 136 yD7 nA (.cons (aD (yT _)) .nil) ?_;push_cast
 (repeat first|refine bE ?_|refine aE ?_|refine aY ?_|refine aH ?_|refine aW ?_);refine bY ?_
 refine goP [0,1,2,6,7,8] [48,64,104,120,136] ?_;refine bR 64 3 9000 39 7 (by decide) rfl rfl (by push_cast[d8,m4,l8,l9,o7,p8];exact rfl) ?_
 refine zTv 9000 rfl (by simp only [pC,mL,d8,m4,zSl,qL0,Nat.reduceEqDiff,reduceIte];exact rfl) ?_
 refine goA 3 ?_;push_cast;refine cUt 176 yLb ci (.cons (aD (yT _)) (.cons (aD (yT _)) (.cons (aD (yT _)) .nil))) ?_;push_cast[xS]
 (repeat first|refine bE ?_|refine aE ?_|refine aY ?_|refine aH ?_|refine aW ?_)
 refine qW7 (fun z:Nat × T3 × List CfV=>⟨[(0,.lst false (aG A)),(1,.lst false (aG H)),(2,.lst false (aG S)),(6,.ptr 48 4 0 0),(8,.ptr 64 4 0 0),(22,.own 176),(23,.v (.int .i64 L.length)),(24,.v (.int .i64 z.1))],[(48,.bx true 28 [.v (.slice none 0 0),.v (.slice none 0 0),.v (.slice none 0 0),.v (.slice none 0 0)]),(64,.bx true 28 [.own 104,.own 120,.own 136,.own 9000]),(104,Tr.rowE z.2.1.1),(120,Tr.rowE z.2.1.2.1),(136,Tr.rowE z.2.1.2.2),(176,.sl true 53 2 (itl L)),(9000,.hl true 39 7 (cfT z.2.2))]⟩) (fun z=>cfL z.2.2)
  (fun z=>z.1≤L.length∧BT z.2.1∧z.2.2.length≤z.1∧kU A H S L (H,S,A) []=kU A H S (L.drop z.1) z.2.1 (z.2.2.map Prod.fst)) (fun z=>L.length - z.1) [0,1,2,6,8,22,23,24] [48,64,104,120,136,176,9000] (0,(H,S,A),[]) (by push_cast <;> rfl) rfl ⟨g7 _,bx,a7 _,rfl⟩ ?_
 rintro ⟨i,x,T⟩ ⟨hi,hx,hT,hm⟩;dsimp only at hi hx hT hm ⊢;rw [hm]
 by_cases hlt:i < L.length
 ·rw [l4 hlt] at hm ⊢
  have sp:=qRd (hpk _ (c7 hlt))
  have hg:=fun d=>@zEv L i d hlt
  generalize L[i]=it at *
  obtain ⟨p,w⟩:=it;dsimp only at sp hg
  have sp2:p.size≤1048576:=by omega
  have dA:=fP hA p
  have dH:=fP hH p
  have dS:=fP hS p
  (repeat first|refine bE ?_|refine aE ?_|refine aY ?_|refine aH ?_|refine aW ?_);refine bY ?_
  refine goA 3 ?_;push_cast(disch:=omega)
  (repeat first|refine bE ?_|refine aE ?_|refine aY ?_|refine aH ?_|refine aW ?_);refine bY ?_
  refine goA 1 ?_;push_cast
  (repeat first|refine bE ?_|refine aE ?_|refine aY ?_|refine aH ?_|refine aW ?_);refine bY ?_
  refine goA 3 ?_;push_cast(disch:=omega)[xS,qEo,hg,aN]
  cases hw:qHm w with
 |true =>
   have cs:=zUo p w A H S T x hw sp2 (fG hA) (fG hH) (fG hS) hA.rise hH.rise hS.rise hx dA dH dS
   rw [kU,g8 hw] at hm ⊢
   have hx2:=tE (p:=p) (zM6 (A:=A) (p:=p) (w:=w) (fG hH) (fG hS) sp2) (ksW w) hx
   generalize cR p (uW A H S p w) (ksW w) x=y at *
   obtain ⟨y,e⟩:=y;dsimp only at cs hx2 hm ⊢
   (repeat first|refine bE ?_|refine aE ?_|refine aY ?_|refine aH ?_|refine aW ?_);refine bY ?_
   refine goA 3 ?_;push_cast;refine cXt 256 [64,104,120,136,9000] yG4 (cs) (by decide) (by push_cast[d6,bX] <;> first|exact ⟨rfl,rfl⟩|rfl) ?_
   push_cast[bX,aN]
   by_cases he:e=0
   ·subst he;rw [g8 rfl] at hm ⊢
    (repeat first|refine bE ?_|refine aE ?_|refine aY ?_|refine aH ?_|refine aW ?_);refine bY ?_
    refine goA 3 ?_;push_cast
    (repeat first|refine bE ?_|refine aE ?_|refine aY ?_|refine aH ?_|refine aW ?_);refine bY ?_
    refine goA 1 ?_;push_cast
    (repeat first|refine bE ?_|refine aE ?_|refine aY ?_|refine aH ?_|refine aW ?_);refine bY ?_
    refine goA 3 ?_;push_cast(disch:=omega)
    (repeat first|refine mV ?_|refine iR ?_|refine iS ?_|refine mX rfl ?_|refine mW ?_|refine aH ?_|refine bE ?_|refine aE ?_|refine aY ?_|refine wY ?_|refine qCr ?_)
    exact ⟨(i + 1,y,T),by push_cast <;> rfl,rfl,⟨hlt,hx2,by dsimp only;omega,rfl⟩,by dsimp only;omega⟩
   ·rw [b7 he] at hm ⊢
    have hz:decide (e=0)=false:=b9 he
    (repeat first|refine bE ?_|refine aE ?_|refine aY ?_|refine aH ?_|refine aW ?_);refine bY ?_
    refine goA 3 ?_;push_cast[hz]
    (repeat first|refine bE ?_|refine aE ?_|refine aY ?_|refine aH ?_|refine aW ?_);refine bY ?_
    refine goA 2 ?_;push_cast;refine goP [6,7] [48] ?_;refine bR 48 0 9001 44 3 (by decide) rfl rfl (by push_cast[d8,m4,l8,l9,o7,p8];exact rfl) ?_
    refine bR 48 1 9002 44 3 (by decide) rfl rfl (by push_cast[d8,m4,l8,l9,o7,p8];exact rfl) ?_
    refine bR 48 2 9003 44 3 (by decide) rfl rfl (by push_cast[d8,m4,l8,l9,o7,p8];exact rfl) ?_
    refine bR 48 3 9004 39 7 (by decide) rfl rfl (by push_cast[d8,m4,l8,l9,o7,p8];exact rfl) ?_
    refine zTv 9004 rfl (by simp only [pC,mL,d8,m4,zSl,qL0,Nat.reduceEqDiff,reduceIte];exact rfl) ?_
    refine goA 1 ?_;push_cast
    (repeat first|refine mW ?_|refine mV ?_)
    push_cast[zSm,yH,yE,oE,xF,yK,yJ];exact qV7 (a:=9001) (b:=9002) (c:=9003) (d:=9004) (els:=[]) rfl rfl rfl rfl (zH3 []) (zH3 []) (zH3 []) (fun _=>rfl) (fun _=>rfl) (fun _=>rfl) (by simp) (fun _=>rfl) (by decide) ⟨([],[],[]),[],T,e,rfl,rfl,rfl,rfl,fun h=>absurd h he,fun _=>rfl⟩
 |false =>
   have hn:w≠1∧w≠2∧w≠3∧w≠4:=by simpa [qHm,and_assoc] using hw
   have cs:=zUp p w A H S T x sp2 (fG hA) (fG hH) (fG hS) hA.rise hH.rise hS.rise (by omega) dA dH dS hn.1 hn.2.1 hn.2.2.1 hn.2.2.2
   rw [kU,b7 (by rw [hw];decide)] at hm ⊢
   have ec:qSi A H S p=⟨p,H.filter fun e=>bN e.1 p,S.filter fun e=>bN e.1 p,oP (jM (aV A p) (aV H p) (aV S p)),oQ (jM (aV A p) (aV H p) (aV S p))⟩:=rfl
   generalize qSi A H S p=cf at *
   generalize oP (jM (aV A p) (aV H p) (aV S p))=t at *
   generalize oQ (jM (aV A p) (aV H p) (aV S p))=f at *
   generalize (H.filter fun e=>bN e.1 p)=hs at *
   generalize (S.filter fun e=>bN e.1 p)=ss at *
   (repeat first|refine bE ?_|refine aE ?_|refine aY ?_|refine aH ?_|refine aW ?_);refine bY ?_
   refine goA 3 ?_;push_cast;refine cXt 256 [64,104,120,136,9000] yG4 (cs) (by decide) (by push_cast[d6,bX] <;> first|exact ⟨rfl,rfl⟩|rfl) ?_
   push_cast[bX,aN,d6]
   (repeat first|refine bE ?_|refine aE ?_|refine aY ?_|refine aH ?_|refine aW ?_)
   refine kC [0,1,2,6,8,11,22,23,24] [48,64,104,120,136,176,9000,261,262] (by simp only [zZ,zR,zP,zQ,zN,zS,zM,zX,zU,Nat.reduceEqDiff,reduceIte];exact rfl) ?_
   refine qW8 261 (iF (hs)) (by simp only [zX,zU,Nat.reduceEqDiff,reduceIte];exact rfl) (by rw [kK,yV]) (by intro i k hi hk hv;exact yAl hi hk hv) ?_;intro p1 z1;simp only [qJh,qFa,qCd,qD7,qBn,qRw,qEv,qEw,qB8,qEu,qEt,qJo,qEx,qEs,qJe,qJf,qJg,Nat.reduceEqDiff,reduceIte,d8,m4,d6,yV,uD]
   refine qW8 262 (iF (ss)) (by simp only [zX,zU,Nat.reduceEqDiff,reduceIte];exact rfl) (by rw [kK,yV]) (by intro i k hi hk hv;exact yAl hi hk hv) ?_;intro p2 z2;simp only [qJh,qFa,qCd,qD7,qBn,qRw,qEv,qEw,qB8,qEu,qEt,qJo,qEx,qEs,qJe,qJf,qJg,Nat.reduceEqDiff,reduceIte,d8,m4,d6,yV,uD]
   (repeat first|refine bE ?_|refine aE ?_|refine aY ?_|refine aH ?_|refine aW ?_);refine bY ?_
   refine goA 3 ?_;push_cast
   (repeat first|refine bE ?_|refine aE ?_|refine aY ?_|refine aH ?_|refine aW ?_);refine bY ?_
   refine goA 1 ?_;push_cast
   (repeat first|refine bE ?_|refine aE ?_|refine aY ?_|refine aH ?_|refine aW ?_);refine bY ?_
   refine goA 3 ?_;push_cast(disch:=omega)
   (repeat first|refine mV ?_|refine iR ?_|refine iS ?_|refine mX rfl ?_|refine mW ?_|refine aH ?_|refine bE ?_|refine aE ?_|refine aY ?_|refine wY ?_|refine qCr ?_)
   refine ⟨(i + 1,x,T ++ [(cf,(p1,z1),(p2,z2))]),?_,?_,⟨hlt,hx,by simp;omega,by simp⟩,by dsimp only;omega⟩
   ·rw [ec];simp only [zZ,zR,zP,zQ,zN,zS,zM,zX,zU,Nat.reduceEqDiff,reduceIte,← zTb];exact rfl
   ·rw [← zTc,ec];rfl
 ·have hne:i=L.length:=by omega
  subst hne;rw [bD0,kU] at hm ⊢
  (repeat first|refine bE ?_|refine aE ?_|refine aY ?_|refine aH ?_|refine aW ?_);refine bY ?_
  refine goA 3 ?_;push_cast(disch:=omega)
  (repeat first|refine bE ?_|refine aE ?_|refine aY ?_|refine aH ?_|refine aW ?_);refine bY ?_
  refine goA 1 ?_;push_cast
  (repeat refine iR ?_);refine iS ?_
  (repeat first|refine bE ?_|refine aE ?_|refine aY ?_|refine aH ?_|refine aW ?_);refine bY ?_
  refine goA 3 ?_;push_cast[aN]
  (repeat first|refine bE ?_|refine aE ?_|refine aY ?_|refine aH ?_|refine aW ?_)
  refine kC [6,7] [48,104,120,136,9000] (by simp only [zZ,zR,zP,zQ,zN,zS,zM,zX,zU,Nat.reduceEqDiff,reduceIte];exact rfl) ?_
  (repeat first|refine mV ?_|refine iR ?_|refine iS ?_|refine mX rfl ?_|refine mW ?_|refine aH ?_|refine bE ?_|refine aE ?_|refine aY ?_|refine wY ?_|refine qCr ?_)
  push_cast[zSm,yH,yE,oE,xF,yK,yJ];exact qV7 (a:=104) (b:=120) (c:=136) (d:=9000) rfl rfl rfl rfl (zH3 _) (zH3 _) (zH3 _) (fun _=>rfl) (fun _=>rfl) (fun _=>rfl) (zMe _) (bX _) (by decide) ⟨x,T,T,0,rfl,rfl,rfl,rfl,fun _=>rfl,fun h=>absurd rfl h⟩
end Go.Proofs.Y
namespace Go.Tr
open Go
def yZ (f:Ba→Bool):Option Ba→List Ent→List Ba
|_,[]=>[]
|prev,x :: r=>if prev≠some x.1∧f x.1=true then x.1 :: yZ f (some x.1) r else yZ f (some x.1) r
def qF3 (f:Ba→Bool) (q:Ba):∀ (t:List Ent) (prev:Option Ba),vM t→(∀ p,prev=some p→∀ x ∈ t,blt x.1 p=false)→(q ∈ yZ f prev t↔(∃ x ∈ t,x.1=q)∧f q=true∧prev≠some q)
|[],prev,_,_=>by simp [yZ]
|x :: r,prev,h,hp=>by
  obtain ⟨hx,hr⟩:=w8.1 h
  have ih:=qF3 f q r (some x.1) hr (fun p e y hy=>by simp only [a6] at e;subst e;exact hx y hy)
  have later:prev=some q→x.1≠q→¬ ∃ y ∈ r,y.1=q:=fun e hne ⟨y,hy,hyq⟩=>by
   have h1:=hp q e x (by simp)
   have h2:=hx y hy
   rw [hyq] at h2
   rcases xX x.1 q with h|h|h
   ·rw [h] at h1;cases h1
   ·exact hne h
   ·rw [h] at h2;cases h2
  rw [yZ]
  by_cases hc:prev≠some x.1∧f x.1=true
  ·rw [g8 hc,l3,ih];constructor
   ·rintro (rfl|⟨⟨y,hy,hyq⟩,hf,hne⟩)
    ·exact ⟨⟨x,by simp,rfl⟩,hc.2,hc.1⟩
    ·exact ⟨⟨y,by simp [hy],hyq⟩,hf,fun e=>later e (fun e'=>hne (by rw [e'])) ⟨y,hy,hyq⟩⟩
   ·rintro ⟨⟨y,hy,hyq⟩,hf,hne⟩
    by_cases e:x.1=q
    ·exact .inl e.symm
    ·rcases l3.1 hy with rfl|hy
     ·exact absurd hyq e
     ·exact .inr ⟨⟨y,hy,hyq⟩,hf,fun e'=>e (q9 e')⟩
  ·rw [b7 hc,ih];constructor
   ·rintro ⟨⟨y,hy,hyq⟩,hf,hne⟩;exact ⟨⟨y,by simp [hy],hyq⟩,hf,fun e=>later e (fun e'=>hne (by rw [e'])) ⟨y,hy,hyq⟩⟩
   ·rintro ⟨⟨y,hy,hyq⟩,hf,hne⟩
    have e:x.1≠q:=fun e=>hc ⟨by rw [e];exact hne,by rw [e];exact hf⟩
    rcases l3.1 hy with rfl|hy
    ·exact absurd hyq e
    ·exact ⟨⟨y,hy,hyq⟩,hf,fun e'=>e (q9 e')⟩
def qKv (f:Ba→Bool):∀ (t:List Ent) (prev:Option Ba),vM t→(∀ p,prev=some p→∀ x ∈ t,blt x.1 p=false)→(yZ f prev t).Pairwise fun p q=>blt p q=true
|[],prev,_,_=>.nil
|x :: r,prev,h,hp=>by
  obtain ⟨hx,hr⟩:=w8.1 h
  have hp':∀ p,some x.1=some p→∀ y ∈ r,blt y.1 p=false:=fun p e y hy=>by simp only [a6] at e;subst e;exact hx y hy
  have ih:=qKv f r (some x.1) hr hp'
  rw [yZ];split
  ·refine w8.2 ⟨fun q hq=>?_,ih⟩
   obtain ⟨⟨y,hy,hyq⟩,-,hne⟩:=(qF3 f q r (some x.1) hr hp').1 hq
   have h2:=hx y hy
   rw [hyq] at h2
   rcases xX x.1 q with h|h|h
   ·exact h
   ·exact absurd (by rw [h]) hne
   ·rw [h] at h2;cases h2
  ·exact ih
def qTt:∀ {l m:List Ba},(l.Pairwise fun p q=>blt p q=true)→(m.Pairwise fun p q=>blt p q=true)→(∀ q,q ∈ l↔q ∈ m)→l=m
|[],[],_,_,_=>rfl
|[],y :: m,_,_,h=>absurd ((h y).2 (by simp)) (by simp)
|x :: l,[],_,_,h=>absurd ((h x).1 (by simp)) (by simp)
|x :: l,y :: m,hl,hm,h=>by
  obtain ⟨h1,h2⟩:=w8.1 hl;obtain ⟨h3,h4⟩:=w8.1 hm
  have e:x=y:=by
   rcases l3.1 ((h x).1 (by simp)) with e|e
   ·exact e
   ·rcases l3.1 ((h y).2 (by simp)) with e'|e'
    ·exact e'.symm
    ·have a:=h3 x e
     have b:=h1 y e'
     rw [oR a] at b;cases b
  subst e
  congr 1
  refine qTt h2 h4 fun q=>?_
  have hq:=h q
  simp only [l3] at hq;constructor
  ·intro hql
   rcases hq.1 (.inr hql) with e|e
   ·exact absurd e.symm (zDi (h1 q hql))
   ·exact e
  ·intro hqm
   rcases hq.2 (.inr hqm) with e|e
   ·exact absurd e.symm (zDi (h3 q hqm))
   ·exact e
end Go.Tr
namespace Go.Rc
open Go Go.Tr Go.Eng Go.Dk
def qEf (p:Ba):(par p).data.toList=p.data.toList.take (qAn p):=by
 rw [par,qE9,bAf,t8]
def qKx {p:Ba} (h:¬ par p={ data:=#[] }):(par p).size < p.size:=by
 have hp:p≠ByteArray.empty:=fun e=>by
  subst e;exact h rfl
 have:=zEg hp
 rw [par,bAl];omega
def opn (H S:List Ent) (p:Ba):Bool :=
 if h:par p={ data:=#[] } then true
 else opn H S (par p) && (decide ((aV H (par p)).1=1) && (decide ((aV S (par p)).1=1) && !decide (dX H (par p)=dX S (par p))))
termination_by p.size
decreasing_by exact qKx h
def qRh {H S:List Ent} {p:Ba} (h:par p={ data:=#[] }):opn H S p=true:=by rw [opn,dif_pos h]
def qZj {H S:List Ent} {p:Ba} (h:¬ par p={ data:=#[] }):opn H S p=(opn H S (par p) && (decide ((aV H (par p)).1=1) && (decide ((aV S (par p)).1=1) && !decide (dX H (par p)=dX S (par p))))):=by rw [opn,dif_neg h]
variable {mg:(Int × Ba)→(Int × Ba)→(Int × Ba)→Bool}
def lF (mg:(Int × Ba)→(Int × Ba)→(Int × Ba)→Bool) (A H S:List Ent) (p:Ba):Int :=
 if dX H p=dX S p then (if dX A p=dX H p then 0 else 1)
 else if (aV H p).1=1∧(aV S p).1=1 then (if (aV A p).1=1 then 0 else 1)
 else if dX H p=dX A p then 3
 else if dX S p=dX A p then 2
 else if mg (aV A p) (aV H p) (aV S p)=true then 4 else 5
theorem qJy (r:Ba→LN) (A H S:List Ent) (p:Ba):gP mg r A H S p=(if lF mg A H S p=0 then [] else [(p,lF mg A H S p)]) ++ (if dX H p≠dX S p∧(aV H p).1=1∧(aV S p).1=1 then r p else []):=by
 unfold gP lF
 by_cases h1:dX H p=dX S p
 ·by_cases h2:dX A p=dX H p
  ·simp [h1,h2]
  ·simp only [g8 h1,b7 h2];simp [h1]
 by_cases h2:(aV H p).1=1∧(aV S p).1=1
 ·by_cases h3:(aV A p).1=1
  ·simp [h1,h2,h3]
  ·simp [h1,h2,h3]
 by_cases h3:dX H p=dX A p
 ·simp only [b7 h1,b7 h2,g8 h3,h2,and_false,bCz];simp
 by_cases h4:dX S p=dX A p
 ·simp only [b7 h1,b7 h2,b7 h3,g8 h4,h2,and_false,bCz];simp
 simp only [b7 h1,b7 h2,b7 h3,b7 h4,h2,and_false,bCz];split <;> simp
theorem qG4 {r:Ba→LN} {A H S:List Ent} {p:Ba} {x:Ba × Int} (hx:x ∈ gP mg r A H S p):(x=(p,lF mg A H S p)∧lF mg A H S p≠0)∨(x ∈ r p∧dX H p≠dX S p∧(aV H p).1=1∧(aV S p).1=1):=by
 rw [qJy] at hx
 rcases m8.1 hx with hx|hx
 ·split at hx
  ·cases hx
  ·rename_i h;exact .inl ⟨q6.1 hx,h⟩
 ·split at hx
  ·rename_i h;exact .inr ⟨hx,h⟩
  ·cases hx
theorem qKl {A H S:List Ent}:∀ (k:Nat) (top:Ba),∀ x ∈ bQ mg A H S k top,x.2=lF mg A H S x.1∧lF mg A H S x.1≠0
|0,_,x,hx=>by simp [bQ] at hx
|k + 1,top,x,hx=>by
  rw [bQ] at hx;obtain ⟨q,-,hx⟩:=bBk.1 hx
  rcases qG4 hx with ⟨rfl,h⟩|⟨h,-⟩
  ·exact ⟨rfl,h⟩
  ·exact qKl k q x h
theorem qGd:∀ {f:List UInt8},(∀ c ∈ f,c≠47)→fU f=none
|[],_=>rfl
|c :: r,h=>by rw [fU,qGd fun x hx=>h x (by simp [hx])];simp [h c (by simp)]
theorem qLh:∀ (l r:List UInt8),fU (l ++ 47 :: r)=some (l.length + (match fU r with|some i=>i + 1|none=>0))
|[],r=>by
  rw [u4,fU]
  cases fU r with
 |none=>rfl
 |some i=>simp
|c :: l,r=>by
  rw [u5,fU,qLh l r];simp only [i6]
  congr 1
  omega
theorem zPj {top q:Ba} {e:Ent} (h:cK top e=some q):par q=top:=by
 obtain ⟨f,hq,hf⟩:=qF8 h;refine iH ?_;rw [qEf,qAn,hq]
 by_cases ht:top={ data:=#[] }
 ·rw [g8 ht,u4,qGd hf,ht];rfl
 ·rw [b7 ht,u6,List.singleton_append,qLh,qGd hf];simp
theorem zM4 {p:Ba}:bN p (par p)=true:=by
 by_cases h:par p={ data:=#[] }
 ·rw [h];exact xA p
 ·cases hl:fU p.data.toList with
 |none =>
   have:qAn p=0:=by rw [qAn,hl];rfl
   exact absurd (iH (by rw [qEf,this];rfl)) h
 |some i =>
   have hn:qAn p=i:=by rw [qAn,hl];rfl
   obtain ⟨h1,h2⟩:=rR hl;refine gC (t:=p.data.toList.drop i) (by rw [qEf,hn,x5]) (.inr ⟨p.data.toList.drop (i + 1),?_⟩)
   rw [l4 h1];rw [c9 h1] at h2;rw [q9 h2]
theorem qUl {p q:Ba} (h:bN p q=true) (hn:p≠q) (hq:q≠{ data:=#[] }):bN (par p) q=true:=by
 obtain ⟨t,ht,hs⟩:=iA h hq
 rcases hs with rfl|⟨r,rfl⟩
 ·exact absurd (iH (by rw [ht,x4])) hn
 ·obtain ⟨m,hm⟩:∃ m,fU p.data.toList=some (q.data.toList.length + m):=⟨_,by rw [ht];exact qLh _ _⟩
  have hp:(par p).data.toList=q.data.toList ++ (47 :: r).take m:=by
   rw [qEf,qAn,hm,Option.getD_some,ht,List.take_append,m9 (by omega),Nat.add_sub_cancel_left]
  refine gC hp ?_
  cases m with
 |zero=>exact .inl rfl
 |succ m=>exact .inr ⟨r.take m,rfl⟩
theorem zH2 {p:Ba} {d:Int} {e:Ent} (he:e.1=p) (hp:pOk p d=true):cK (par p) e=some p:=by
 have hne:p≠par p:=fun h=>by
  by_cases h0:par p={ data:=#[] }
  ·exact qKz hp (h.trans h0)
  ·have:=qKx h0
   rw [← h] at this;omega
 obtain ⟨x,hx⟩:=zH1 he hp zM4 hne
 have h1:=(qB2 hx (by rw [he];exact vN hp)).2.1
 have h2:=(iE hx).1
 rw [he] at h1
 by_cases hpx:p=x
 ·rw [hx,hpx]
 ·have h3:=qBk (qUl h1 hpx (fun z=>by rw [z] at h2;exact absurd h2 (by show ¬ _ < 0;omega)))
  omega
theorem anc {E:List Ent} (hp:∀ e ∈ E,par e.1={ data:=#[] }∨∃ x ∈ E,x.1=par e.1) {q:Ba} (hq:q≠{ data:=#[] }):∀ (n:Nat) (e:Ent),e ∈ E→e.1.size≤n→bN e.1 q=true→∃ x ∈ E,x.1=q
|0,e,he,hn,hu=>by
  have h1:=qBk hu
  have:=qK5 hq
  omega
|n + 1,e,he,hn,hu=>by
  by_cases h:e.1=q
  ·exact ⟨e,he,h⟩
  ·have hu2:=qUl hu h hq
   have h0:¬ par e.1={ data:=#[] }:=fun z=>by
    have h1:=qBk hu2
    rw [z] at h1
    have:=qK5 hq
    have:({ data:=#[] }:Ba).size=0:=rfl
    omega
   rcases hp e he with hz|⟨x,hx,hxe⟩
   ·exact absurd hz h0
   ·have:=qKx h0
    exact anc hp hq n x hx (by rw [hxe];omega) (by rw [hxe];exact hu2)
structure Tri3 (A H S E:List Ent):Prop where
 all:A ++ H ++ S=E
 ok:∀ e ∈ E,pOk e.1 5=true
 up:∀ e ∈ E,par e.1={ data:=#[] }∨∃ x ∈ E,x.1=par e.1
theorem qN8 {A H S E:List Ent} (h:Tri3 A H S E):∀ (k:Nat) (top:Ba),(top={ data:=#[] }∨(opn H S top=true∧(aV H top).1=1∧(aV S top).1=1∧dX H top≠dX S top))→∀ x ∈ bQ mg A H S k top,opn H S x.1=true∧∃ e ∈ E,e.1=x.1
|0,_,_,x,hx=>by simp [bQ] at hx
|k + 1,top,hT,x,hx=>by
  rw [bQ,h.all] at hx;obtain ⟨q,hq,hx⟩:=bBk.1 hx;obtain ⟨y,hy,rfl⟩:=m6.1 hq
  rcases kG E [] hy with h0|⟨e,he,hn⟩
  ·cases h0
  have hop:opn H S y.1=true:=by
   have hpn:=zPj hn
   by_cases ht:top={ data:=#[] }
   ·exact qRh (hpn.trans ht)
   ·rcases hT with hT|⟨a,b,c,d⟩
    ·exact absurd hT ht
    ·rw [qZj (by rw [hpn];exact ht),hpn,a,i7 b,i7 c,b9 d];rfl
  rcases qG4 hx with ⟨rfl,-⟩|⟨h1,h2,h3,h4⟩
  ·have s1:=(iE hn).1
   exact ⟨hop,anc h.up (fun z=>by rw [z] at s1;exact absurd s1 (by show ¬ _ < 0;omega)) _ e he (a7 _) (qB2 hn (vN (h.ok e he))).2.1⟩
  ·exact qN8 h k y.1 (.inr ⟨hop,h3,h4,h2⟩) x h1
theorem zPv {A H S E:List Ent} (h:Tri3 A H S E):∀ (n:Nat) (p:Ba),p.size≤n→(∃ e ∈ E,e.1=p)→opn H S p=true→∃ d,1≤d∧d≤p.size∧∀ (k:Nat),∀ x ∈ gP mg (bQ mg A H S k) A H S p,x ∈ bQ mg A H S (k + d) { data:=#[] }
|0,p,hn,⟨e,he,hep⟩,_=>by
  have:=qK5 (show ¬ p={ data:=#[] } from fun z=>qKz (by have:=h.ok e he;rwa [hep,z] at this) rfl)
  omega
|n + 1,p,hn,⟨e,he,hep⟩,ho=>by
  have hpk:=h.ok e he
  rw [hep] at hpk
  have hpos:=qK5 (show ¬ p={ data:=#[] } from fun z=>qKz hpk z)
  have hnm:cK (par p) e=some p:=zH2 hep hpk
  have step:∀ (k:Nat),∀ x ∈ gP mg (bQ mg A H S k) A H S p,x ∈ bQ mg A H S (k + 1) (par p):=fun k x hx=>by
   rw [bQ,h.all];exact bBk.2 ⟨p,qPc E [] (.inr ⟨e,he,hnm⟩),hx⟩
  by_cases h0:par p={ data:=#[] }
  ·exact ⟨1,a7 _,by omega,fun k x hx=>by have:=step k x hx;rwa [h0] at this⟩
  ·rw [qZj h0] at ho;simp only [g9,m7,bDt,bA3] at ho;obtain ⟨o1,o2,o3,o4⟩:=ho
   have hsz:=qKx h0
   have hen:∃ x ∈ E,x.1=par p:=by
    rcases h.up e he with z|z
    ·exact absurd (by rwa [hep] at z) h0
    ·rwa [hep] at z
   obtain ⟨d,d1,d2,hd⟩:=zPv h n (par p) (by omega) hen o1
   refine ⟨d + 1,by omega,by omega,fun k x hx=>?_⟩
   have hun:(dX H (par p)≠dX S (par p)∧(aV H (par p)).1=1∧(aV S (par p)).1=1):=⟨o4,o2,o3⟩
   have:=hd (k + 1) x (by rw [qJy];exact m8.2 (.inr (by rw [g8 hun];exact step k x hx)))
   rwa [show k + 1 + d=k + (d + 1) by omega] at this
def zVa (mg:(Int × Ba)→(Int × Ba)→(Int × Ba)→Bool) (A H S:List Ent) (p:Ba):Bool:=opn H S p && !decide (lF mg A H S p=0)
def zG1 (mg:(Int × Ba)→(Int × Ba)→(Int × Ba)→Bool) (A H S:List Ent):LN:=(yZ (zVa mg A H S) none (iM (A ++ H ++ S))).map fun p=>(p,lF mg A H S p)
theorem qTn {A H S:List Ent}:∀ {L:LN},(∀ x ∈ L,x.2=lF mg A H S x.1)→L=(L.map fun x=>x.1).map fun p=>(p,lF mg A H S p)
|[],_=>rfl
|(q,n) :: r,h=>by
  have h1:=h (q,n) (by simp)
  dsimp only at h1;rw [d8,d8,← qTn (fun x hx=>h x (by simp [hx])),← h1]
theorem zJm {A H S E:List Ent} (h:Tri3 A H S E) (hs:∀ e ∈ E,e.1.size≤1048576):bQ mg A H S 1048577 { data:=#[] }=zG1 mg A H S:=by
 have hn:=qHc (A ++ H ++ S)
 have hp:=jS (A ++ H ++ S)
 rw [qTn (fun x hx=>(qKl _ _ x hx).1)]
 unfold zG1
 congr 1
 refine qTt (bC7.2 (qDy h.all h.ok _ _)) (qKv _ _ _ hn (fun p e=>by cases e)) fun q=>?_
 rw [qF3 _ q _ _ hn (fun p e=>by cases e),m6]
 constructor
 ·rintro ⟨x,hx,rfl⟩;obtain ⟨h1,e,he,hex⟩:=qN8 h 1048577 { data:=#[] } (.inl rfl) x hx
  have h2:=(qKl _ _ x hx).2
  refine ⟨⟨e,hp.mem_iff.2 (by rw [h.all];exact he),hex⟩,?_,by simp⟩
  rw [zVa,h1,b9 h2];rfl
 ·rintro ⟨⟨e,he,hep⟩,hf,-⟩
  have he:=hp.mem_iff.1 he
  rw [h.all] at he;rw [zVa] at hf;simp only [g9,bDt,bA3] at hf;obtain ⟨d,d1,d2,hd⟩:=zPv (mg:=mg) h q.size q (a7 _) ⟨e,he,hep⟩ hf.1
  have hqs:=hs e he
  rw [hep] at hqs
  have:=hd (1048577 - d) (q,lF mg A H S q) (by rw [qJy,b7 hf.2];simp)
  rw [show 1048577 - d + d=1048577 by omega] at this
  exact ⟨_,this,rfl⟩
theorem qJ1 {t:List Ent} (h:okR t=true):∀ e ∈ t,par e.1={ data:=#[] }∨∃ x ∈ t,x.1=par e.1:=fun e he=>by
 obtain ⟨i,hi,rfl⟩:=p9 he
 have:=kP.1 h i hi
 simp only [qAg,vD,g9,w9,m7] at this;rw [mH hi] at this
 rcases this.2 with h|h
 ·exact .inl h
 ·refine .inr (zSa fun z=>?_)
  rw [z] at h;exact absurd h (by decide)
end Go.Rc
namespace Go.Proofs.Y
open Go Go.Eng Go.RowKit Go.Tr Go.Dk Go.Rc
def qNz (a h s:Int × Ba) (T:Ba) (N E:Int)
  (cm:HFun Tryz.prog 55 [.v (.string (kV a)),.v (.string h.2),.v (.string s.2)] (fun r st=>r=.tup ([.string T,.int .i64 N,.int .i64 E].map .v))) :
  HFun Tryz.prog 39 [cY a,cY h,cY s] (fun r st=>r=.tup ([.string (gV h s T N E).1,.int .i64 (gV h s T N E).2.1,.int .i64 (gV h s T N E).2.2].map .v)):=by
 refine bP (N:=44) Tryz.func39 rfl Tryz.ntmps39 Tryz.results39 (by simp) ?_
 obtain ⟨ka,da⟩:=a;obtain ⟨kh,dh⟩:=h;obtain ⟨ks,ds⟩:=s;obtain ⟨B,hB⟩:∃ B,kV (ka,da)=B:=⟨_,rfl⟩;rw [hB] at cm;dsimp only at cm;refine goA 3 ?_;push_cast
 by_cases h1:kh=2
 ·subst h1
  by_cases h2:ks=2
  ·subst h2
   have hmk:gV (2,dh) (2,ds) T N E=(if E=0 then (if 4096 < T.size then ({ data:=#[] },0,4) else (T,N,0)) else ({ data:=#[] },0,E)):=by rw [gV,g8 ⟨rfl,rfl⟩]
   rw [hmk];refine goA 6 ?_;push_cast;(repeat ((with_reducible refine bJa ?_ ?_);focus first|omega|decide))
   (repeat refine goQ ?_);refine goM (fun _:Unit=>⟨[(4,.ptr 32 2 0 0),(5,.ptr 40 2 0 0),(6,.v (.string { data:=#[] })),(7,.v (.int .i64 0)),(8,.v (.int .i64 0)),(9,.v (.string B))],[(32,.bx true 42 [.v (.int .i64 2),.v (.string dh)]),(40,.bx true 42 [.v (.int .i64 2),.v (.string ds)])]⟩) (fun _=>True) [4,5,6,7,8,9] [32,40] ?_ ?_
   ·by_cases h3:ka=2
    ·subst h3;refine uG rfl (fun _=>?_) (fun hf=>by simp at hf)
     have hB2:da=B:=hB
     subst hB2;refine goA 3 ?_;push_cast;(repeat ((with_reducible refine bJa ?_ ?_);focus first|omega|decide))
     exact ⟨(),trivial⟩
    ·refine uG rfl (fun ht=>by simp [h3] at ht) (fun _=>?_)
     have hB2:B={ data:=#[] }:=by rw [← hB,kV,b7 h3]
     subst hB2;refine goA 1 ?_;push_cast(disch:=omega);exact ⟨(),trivial⟩
   intro S' _ hE _;refine yB [4,5,6,7,8,9] [32,40] hE ?_;clear hE;refine goA 3 ?_;push_cast(disch:=omega);refine qH8 yKv cm (.cons (.v _) (.cons (.v _) (.cons (.v _) .nil))) ?_;with_reducible refine aS ?_;push_cast
   refine goP [6,7,8,10,11,12] [] ?_
   by_cases h4:E=0
   ·subst h4;rw [g8 rfl];refine goA 3 ?_;push_cast;(repeat ((with_reducible refine bJa ?_ ?_);focus first|omega|decide))
    by_cases h5:4096 < T.size
    ·rw [g8 h5];refine goA 3 ?_;push_cast(disch:=omega);(repeat ((with_reducible refine bJa ?_ ?_);focus first|omega|decide))
     (try refine tR (fun _=>?_) (fun hf=>by simp at hf <;> omega))
     refine goA 3 ?_;push_cast;exact eY rfl
    ·rw [b7 h5];refine goA 3 ?_;push_cast(disch:=omega);(repeat ((with_reducible refine bJa ?_ ?_);focus first|omega|decide))
     (try refine tR (fun ht=>by simp at ht <;> omega) (fun _=>?_))
     refine goA 3 ?_;push_cast;exact eY rfl
   ·have d4:decide (E=0)=false:=b9 h4
    rw [b7 h4];refine goA 5 ?_;push_cast[d4];(repeat ((with_reducible refine bJa ?_ ?_);focus first|omega|decide))
    exact eY rfl
  ·have d2:decide (ks=2)=false:=b9 h2
   have hmk:gV (2,dh) (ks,ds) T N E=({ data:=#[] },0,12):=by rw [gV,b7 fun h=>h2 h.2]
   rw [hmk];refine goA 5 ?_;push_cast[d2];(repeat ((with_reducible refine bJa ?_ ?_);focus first|omega|decide))
   exact eY rfl
 ·have d1:decide (kh=2)=false:=b9 h1
  have hmk:gV (kh,dh) (ks,ds) T N E=({ data:=#[] },0,12):=by rw [gV,b7 fun h=>h1 h.1]
  rw [hmk];refine goA 5 ?_;push_cast[d1];(repeat ((with_reducible refine bJa ?_ ?_);focus first|omega|decide))
  exact eY rfl
def qKq (a h s:Int × Ba) (T:Ba) (N E:Int)
  (cm:HFun Tryz.prog 55 [.v (.string (kV a)),.v (.string h.2),.v (.string s.2)] (fun r st=>r=.tup ([.string T,.int .i64 N,.int .i64 E].map .v))) :
  HFun Tryz.prog 21 [cY a,cY h,cY s] (fun r st=>r=.tup [cY (if okM (gV h s T N E)=true then (2,(gV h s T N E).1) else (0,{ data:=#[] })),.v (.bool (okM (gV h s T N E)))]∧st=[]):=by
 refine bP (N:=28) Tryz.func21 rfl Tryz.ntmps21 Tryz.results21 (by simp) ?_
 have c:=qNz a h s T N E cm
 obtain ⟨ka,da⟩:=a;obtain ⟨kh,dh⟩:=h;obtain ⟨ks,ds⟩:=s;generalize gV (kh,dh) (ks,ds) T N E=m at c ⊢;obtain ⟨t,n,e⟩:=m;dsimp only at c ⊢;refine goA 5 ?_;push_cast;refine qH8 yGz c (.cons (bJ (ka,da)) (.cons (bJ (kh,dh)) (.cons (bJ (ks,ds)) .nil))) ?_;with_reducible refine aS ?_;push_cast
 by_cases h1:e=0
 ·subst h1
  by_cases h2:0 < n
  ·have d2:decide (0 < n)=true:=i7 h2
   have ho:okM (t,n,0)=false:=by simp [okM,h2]
   rw [ho];refine goA 5 ?_;push_cast[d2];(repeat ((with_reducible refine bJa ?_ ?_);focus first|omega|decide))
   exact qB9 (n:=(0,{ data:=#[] })) ⟨rfl,rfl⟩
  ·have d2:decide (0 < n)=false:=b9 h2
   have ho:okM (t,n,0)=true:=by simp [okM];omega
   rw [ho];refine goA 5 ?_;push_cast[d2];(repeat ((with_reducible refine bJa ?_ ?_);focus first|omega|decide))
   exact qB9 (n:=(2,t)) ⟨rfl,rfl⟩
 ·have d1:decide (e=0)=false:=b9 h1
  have ho:okM (t,n,e)=false:=by simp [okM,h1]
  rw [ho];refine goA 5 ?_;push_cast[d1];(repeat ((with_reducible refine bJa ?_ ?_);focus first|omega|decide))
  exact qB9 (n:=(0,{ data:=#[] })) ⟨rfl,rfl⟩
end Go.Proofs.Y
namespace Go.DiffM
variable {α:Type} [DecidableEq α]
theorem rP:∀ (n:Nat) (a b s:List α),a.length + b.length≤n→s.Sublist a→s.Sublist b→s.length≤lcs a b
|n,[],b,s,_,ha,_=>by rw [List.sublist_nil.1 ha];simp
|n,a,[],s,_,_,hb=>by rw [List.sublist_nil.1 hb];simp
|0,x :: xs,_,s,h,_,_=>by simp at h
|n + 1,x :: xs,y :: ys,s,h,ha,hb=>by
  simp only [i6] at h;rw [qEm]
  by_cases he:x=y
  ·rw [g8 he]
   cases s with
  |nil=>simp
  |cons z t =>
    have h1:t.Sublist xs:=by
     cases ha with
    |cons _ h=>exact (bCu z t).trans h
    |cons_cons _ h=>exact h
    have h2:t.Sublist ys:=by
     cases hb with
    |cons _ h=>exact (bCu z t).trans h
    |cons_cons _ h=>exact h
    have:=rP n xs ys t (by omega) h1 h2
    simp;omega
  ·rw [b7 he]
   cases ha with
  |cons _ h1 =>
    have:=rP n xs (y :: ys) s (by simp only [i6];omega) h1 hb
    omega
  |cons_cons _ h1 =>
    cases hb with
   |cons _ h2 =>
     have:=rP n (x :: xs) ys _ (by simp only [i6];omega) (h1.cons_cons x) h2
     omega
   |cons_cons _ h2=>exact absurd rfl he
theorem qLg:∀ (n:Nat) (a b:List α),a.length + b.length≤n→∃ s:List α,s.Sublist a∧s.Sublist b∧s.length=lcs a b
|n,[],b,_=>⟨[],by simp,by simp,by simp [lcs]⟩
|n,a,[],_=>⟨[],by simp,by simp,by simp [qLf]⟩
|0,x :: xs,_,h=>by simp at h
|n + 1,x :: xs,y :: ys,h=>by
  simp only [i6] at h;rw [qEm]
  by_cases he:x=y
  ·subst he;rw [g8 rfl];obtain ⟨s,h1,h2,h3⟩:=qLg n xs ys (by omega)
   exact ⟨x :: s,h1.cons_cons x,h2.cons_cons x,by simp [h3]⟩
  ·rw [b7 he];obtain ⟨s,h1,h2,h3⟩:=qLg n xs (y :: ys) (by simp only [i6];omega)
   obtain ⟨s',h1',h2',h3'⟩:=qLg n (x :: xs) ys (by simp only [i6];omega)
   by_cases hm:lcs (x :: xs) ys≤lcs xs (y :: ys)
   ·exact ⟨s,h1.cons x,h2,by omega⟩
   ·exact ⟨s',h1',h2'.cons y,by omega⟩
end Go.DiffM
