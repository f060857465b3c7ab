/-
  merge.Chunks, its pieces' lists ay leaves.
-/
import Derived.Test.YtmgilahhnbopmaaMgE
import Derived.Test.YtmgilahhnbopmaaMhD
set_option linter.unusedSimpArgs false
set_option linter.unusedVariables false
set_option maxRecDepth 20000
namespace Go.Eng
open Go Go.RowKit
theorem qNb {P:Program} {N:Nat} {x:Code} {Q:xY} {F F':List Leaf} {S S':HS} (hS:S=S') (hF:F=F') (h:HWF P N x Q F' S'):HWF P N x Q F S:=by subst hS;subst hF;exact h
end Go.Eng
namespace Go.Proofs.Ytmgilahhnbopmaa
open Go Go.Eng Go.RowKit Go.DiffM
def clv (T:List CkV):List Leaf:=T.flatMap fun t=>[lf (hd t.2.1 t.1.b.length) t.1.b,lf (hd t.2.2.1 t.1.l.length) t.1.l,lf (hd t.2.2.2 t.1.r.length) t.1.r]
theorem qA6 (T:List CkV) (t:CkV):((clv T ++ [lf (hd t.2.1 t.1.b.length) t.1.b]) ++ [lf (hd t.2.2.1 t.1.l.length) t.1.l]) ++ [lf (hd t.2.2.2 t.1.r.length) t.1.r]=clv (T ++ [t]):=by simp [clv]
def kS (o a b:List ByteArray) (T:List CkV):Option CuT→aB
|none=>[(136,.bx true 43 [.lst true (aD o),.lst true (aD a),.lst true (aD b),.v (.int .i64 (0:Nat)),.v (.int .i64 (0:Nat)),.v (.int .i64 (0:Nat)),.own 9000]),(328,qB3 (eE o a)),(400,qB3 (eE o b)),(9000,.hl true 33 4 (ckW T))]
|some s=>[(136,.bx true 43 [.lst true (aD o),.lst true (aD a),.lst true (aD b),.v (.int .i64 s.i),.v (.int .i64 s.j),.v (.int .i64 s.k),.own 9000]),(328,qB3 (eE o a)),(400,qB3 (eE o b)),(9000,zGt T),(1000002,tx s.c.b),(1000003,tx s.c.l),(1000004,tx s.c.r)]
def cvE (o a b:List ByteArray) (p:Nat × Option CuT × List CkV):HS:=⟨[(11,.lst true (aD o)),(12,.lst true (aD a)),(13,.lst true (aD b)),(14,.own 328),(16,.own 400),(17,.ptr 136 7 0 0),(61,.v (.int .i64 o.length)),(62,.v (.int .i64 p.1))],kS o a b p.2.2 p.2.1⟩
set_option maxHeartbeats 8000000 in
theorem zFy (x y z:ByteArray) (hx:x.size≤4294967296) (hy:y.size≤4294967296) (hz:z.size≤4294967296):HFunF Try.prog 4 [.v (.string x),.v (.string y),.v (.string z)] (fun h st F =>
  (∃ cd,(cd=.int .i64 (fK x y z)∧fK x y z≠0)∧h=.tup [.v (.slice none 0 0),.v cd]∧st=[]∧F=[]) ∨
  (cH x=0∧cH y=0∧cH z=0∧h=.tup [.own 0,.v (.int .i64 0)]∧∃ T:List CkV,T.map Prod.fst=cQ x y z∧st=[(0,.hl true 33 4 (ckW T))]∧F=clv T)):=by
 refine zKw (N:=99) Try.func4 rfl Try.ntmps4 Try.results4 (by simp) ?_
 refine aP ?_;refine bD ?_;refine zJ (fun K hK=>?_);simp (disch:=omega) only [push_cast,↓iC9,simprocAttr];refine hK _ ?_;clear hK K
 refine aP ?_;refine aP ?_;refine bD ?_;refine zJ (fun K hK=>?_);simp (disch:=omega) only [push_cast,↓iC9,simprocAttr];refine hK _ ?_;clear hK K
 refine aC ?_;refine eM ?_;refine bD ?_
 skip
 refine fS (mcE x y z) (fun i=>i≤3∧(0 < i→cH x=0)∧(1 < i→cH y=0)∧(2 < i→cH z=0)) (fun i=>3 - i) [0,1,2,22,23] [] 0 (by simp only [zZ,zR,zP,zQ,zN,zS,zM,zX,zU,Nat.reduceEqDiff,reduceIte,mcE];try rfl) ⟨by omega,by omega,by omega,by omega⟩ ?_
 rintro i ⟨hi,h0,h1,h2⟩;simp only [mcE]
 have hcs:i=0∨i=1∨i=2∨i=3:=by omega
 rcases hcs with rfl|rfl|rfl|rfl
 ·refine zE ?_;refine zJ (fun K hK=>?_);simp (disch:=omega) only [push_cast,↓iC9,simprocAttr];refine hK _ ?_;clear hK K
  refine zE ?_;refine yD rfl ?_;refine zC ?_;refine zE ?_;refine zD ?_;refine zE ?_;refine zJ (fun K hK=>?_);simp (disch:=omega) only [push_cast,↓iC9,simprocAttr];(repeat refine ⟨by first|omega|decide|((repeat' apply And.intro) <;> first|omega|decide),?_⟩);refine hK _ ?_;clear hK K
  refine zE ?_;refine zJ (fun K hK=>?_);simp (disch:=omega) only [push_cast,↓iC9,simprocAttr]
  refine tZ cl9 (qEq x hx) (.cons (.v _) .nil) ?_;with_reducible refine aH ?_;simp (disch:=omega) only [push_cast,↓iC9,simprocAttr]
  refine hK _ ?_;clear hK K
  by_cases he:cH x=0
  ·refine zE ?_;refine zJ (fun K hK=>?_);simp (disch:=omega) only [push_cast,↓iC9,simprocAttr,he];refine hK _ ?_;clear hK K
   refine zA ?_;refine yC rfl ?_;refine zC ?_;refine zB ?_;refine zA ?_;refine zJ (fun K hK=>?_);simp (disch:=omega) only [push_cast,↓iC9,simprocAttr];refine hK _ ?_;clear hK K
   refine zA ?_;exact ⟨1,by simp only [zZ,zR,zP,zQ,zN,zS,zM,zX,zU,Nat.reduceEqDiff,reduceIte,mcE];rfl,⟨by omega,fun _=>he,by omega,by omega⟩,by omega⟩
  ·refine zE ?_;refine zJ (fun K hK=>?_);simp (disch:=omega) only [push_cast,↓iC9,simprocAttr];refine hK _ ?_;clear hK K
   refine zA ?_;refine yD rfl ?_;refine zE ?_;refine zJ (fun K hK=>?_);simp (disch:=omega) only [push_cast,↓iC9,simprocAttr];refine hK _ ?_;clear hK K
   refine zA ?_;refine zW ?_;refine zL ?_;refine zK ?_;refine zK ?_;refine vX ?_;refine vV ?_;simp only [qGy,yH,yE,yK,yJ,zS,zM,Nat.reduceEqDiff,reduceIte,reduceCtorEq]
   have er:fK x y z=cH x:=by rw [fK,if_pos he]
   exact qSs (.inl ⟨_,⟨by rw [er],by rw [er];exact he⟩,rfl,rfl,rfl⟩)
 ·refine zE ?_;refine zJ (fun K hK=>?_);simp (disch:=omega) only [push_cast,↓iC9,simprocAttr];refine hK _ ?_;clear hK K
  refine zE ?_;refine yD rfl ?_;refine zC ?_;refine zE ?_;refine zD ?_;refine zE ?_;refine zJ (fun K hK=>?_);simp (disch:=omega) only [push_cast,↓iC9,simprocAttr];(repeat refine ⟨by first|omega|decide|((repeat' apply And.intro) <;> first|omega|decide),?_⟩);refine hK _ ?_;clear hK K
  refine zE ?_;refine zJ (fun K hK=>?_);simp (disch:=omega) only [push_cast,↓iC9,simprocAttr]
  refine tZ cl9 (qEq y hy) (.cons (.v _) .nil) ?_;with_reducible refine aH ?_;simp (disch:=omega) only [push_cast,↓iC9,simprocAttr]
  refine hK _ ?_;clear hK K
  by_cases he:cH y=0
  ·refine zE ?_;refine zJ (fun K hK=>?_);simp (disch:=omega) only [push_cast,↓iC9,simprocAttr,he];refine hK _ ?_;clear hK K
   refine zA ?_;refine yC rfl ?_;refine zC ?_;refine zB ?_;refine zA ?_;refine zJ (fun K hK=>?_);simp (disch:=omega) only [push_cast,↓iC9,simprocAttr];refine hK _ ?_;clear hK K
   refine zA ?_;exact ⟨2,by simp only [zZ,zR,zP,zQ,zN,zS,zM,zX,zU,Nat.reduceEqDiff,reduceIte,mcE];rfl,⟨by omega,fun _=>h0 (by omega),fun _=>he,by omega⟩,by omega⟩
  ·refine zE ?_;refine zJ (fun K hK=>?_);simp (disch:=omega) only [push_cast,↓iC9,simprocAttr];refine hK _ ?_;clear hK K
   refine zA ?_;refine yD rfl ?_;refine zE ?_;refine zJ (fun K hK=>?_);simp (disch:=omega) only [push_cast,↓iC9,simprocAttr];refine hK _ ?_;clear hK K
   refine zA ?_;refine zW ?_;refine zL ?_;refine zK ?_;refine zK ?_;refine vX ?_;refine vV ?_;simp only [qGy,yH,yE,yK,yJ,zS,zM,Nat.reduceEqDiff,reduceIte,reduceCtorEq]
   have er:fK x y z=cH y:=by rw [fK,if_neg (by rw [h0 (by omega)];simp),if_pos he]
   exact qSs (.inl ⟨_,⟨by rw [er],by rw [er];exact he⟩,rfl,rfl,rfl⟩)
 ·refine zE ?_;refine zJ (fun K hK=>?_);simp (disch:=omega) only [push_cast,↓iC9,simprocAttr];refine hK _ ?_;clear hK K
  refine zE ?_;refine yD rfl ?_;refine zC ?_;refine zE ?_;refine zD ?_;refine zE ?_;refine zJ (fun K hK=>?_);simp (disch:=omega) only [push_cast,↓iC9,simprocAttr];(repeat refine ⟨by first|omega|decide|((repeat' apply And.intro) <;> first|omega|decide),?_⟩);refine hK _ ?_;clear hK K
  refine zE ?_;refine zJ (fun K hK=>?_);simp (disch:=omega) only [push_cast,↓iC9,simprocAttr]
  refine tZ cl9 (qEq z hz) (.cons (.v _) .nil) ?_;with_reducible refine aH ?_;simp (disch:=omega) only [push_cast,↓iC9,simprocAttr]
  refine hK _ ?_;clear hK K
  by_cases he:cH z=0
  ·refine zE ?_;refine zJ (fun K hK=>?_);simp (disch:=omega) only [push_cast,↓iC9,simprocAttr,he];refine hK _ ?_;clear hK K
   refine zA ?_;refine yC rfl ?_;refine zC ?_;refine zB ?_;refine zA ?_;refine zJ (fun K hK=>?_);simp (disch:=omega) only [push_cast,↓iC9,simprocAttr];refine hK _ ?_;clear hK K
   refine zA ?_;exact ⟨3,by simp only [zZ,zR,zP,zQ,zN,zS,zM,zX,zU,Nat.reduceEqDiff,reduceIte,mcE];rfl,⟨by omega,fun _=>h0 (by omega),fun _=>h1 (by omega),fun _=>he⟩,by omega⟩
  ·refine zE ?_;refine zJ (fun K hK=>?_);simp (disch:=omega) only [push_cast,↓iC9,simprocAttr];refine hK _ ?_;clear hK K
   refine zA ?_;refine yD rfl ?_;refine zE ?_;refine zJ (fun K hK=>?_);simp (disch:=omega) only [push_cast,↓iC9,simprocAttr];refine hK _ ?_;clear hK K
   refine zA ?_;refine zW ?_;refine zL ?_;refine zK ?_;refine zK ?_;refine vX ?_;refine vV ?_;simp only [qGy,yH,yE,yK,yJ,zS,zM,Nat.reduceEqDiff,reduceIte,reduceCtorEq]
   have er:fK x y z=cH z:=by rw [fK,if_neg (by rw [h0 (by omega)];simp),if_neg (by rw [h1 (by omega)];simp)]
   exact qSs (.inl ⟨_,⟨by rw [er],by rw [er];exact he⟩,rfl,rfl,rfl⟩)
 ·refine zE ?_;refine zJ (fun K hK=>?_);simp (disch:=omega) only [push_cast,↓iC9,simprocAttr];refine hK _ ?_;clear hK K
  refine zE ?_;refine yC rfl ?_;refine zT ?_;refine zG ?_;refine zG ?_
  have t0:=h0 (by omega)
  have t1:=h1 (by omega)
  have t2:=h2 (by omega)
  have l0:=dX t0
  have l1:=dX t1
  have l2:=dX t2
  refine aP ?_;refine iW [0,1,2] [] (by simp only [zZ,zR,zP,zQ,zN,zS,zM,zX,zU,Nat.reduceEqDiff,reduceIte];exact rfl) ?_
  refine bD ?_;refine zJ (fun K hK=>?_);simp (disch:=omega) only [push_cast,↓iC9,simprocAttr]
  refine hat 264 zCk (qBh x hx) (.cons (.v _) .nil) ?_;rintro _ _ ⟨rfl,rfl⟩;with_reducible refine aH ?_;simp (disch:=omega) only [push_cast,↓iC9,simprocAttr]
  refine hat 280 zCk (qBh y hy) (.cons (.v _) .nil) ?_;rintro _ _ ⟨rfl,rfl⟩;with_reducible refine aH ?_;simp (disch:=omega) only [push_cast,↓iC9,simprocAttr]
  refine hat 296 zCk (qBh z hz) (.cons (.v _) .nil) ?_;rintro _ _ ⟨rfl,rfl⟩;with_reducible refine aH ?_;simp (disch:=omega) only [push_cast,↓iC9,simprocAttr]
  refine hK _ ?_;clear hK K;refine aP ?_;refine bD ?_;refine yB [11,12,13] [264,280,296] (by simp only [zZ,zR,zP,zQ,zN,zS,zM,zX,zU,Nat.reduceEqDiff,reduceIte];exact rfl) ?_
  refine dE 264 rfl (by simp only [bJ,bC,aL,aT,aJ,cC,aX,aY,aK,aW,aV,bK,aZ,aU,bF,bG,bH,Nat.reduceEqDiff,reduceIte,List.map_cons,List.map_nil,List.map_append];exact rfl) ?_
  refine dE 280 rfl (by simp only [bJ,bC,aL,aT,aJ,cC,aX,aY,aK,aW,aV,bK,aZ,aU,bF,bG,bH,Nat.reduceEqDiff,reduceIte,List.map_cons,List.map_nil,List.map_append];exact rfl) ?_
  refine dE 296 rfl (by simp only [bJ,bC,aL,aT,aJ,cC,aX,aY,aK,aW,aV,bK,aZ,aU,bF,bG,bH,Nat.reduceEqDiff,reduceIte,List.map_cons,List.map_nil,List.map_append];exact rfl) ?_
  have hch:cQ x y z=gJ (dA x) (dA y) (dA z):=rfl
  rw [hch];clear hch h0 h1 h2 hx hy hz;generalize hO:dA x=o at *
  generalize hA:dA y=a at *
  generalize hB:dA z=b at *
  refine zJ (fun K hK=>?_);simp (disch:=omega) only [push_cast,↓iC9,simprocAttr]
  refine hat 328 zG8 (qDn o a l0 l1) (.cons (dF (aQ _)) (.cons (dF (aQ _)) .nil)) ?_;rintro _ _ ⟨rfl,rfl⟩;with_reducible refine aH ?_;simp (disch:=omega) only [push_cast,↓iC9,simprocAttr]
  refine hK _ ?_;clear hK K;refine aP ?_;refine aP ?_;refine bD ?_;refine zJ (fun K hK=>?_);simp (disch:=omega) only [push_cast,↓iC9,simprocAttr];refine hK _ ?_;clear hK K
  refine aC ?_;refine bD ?_;refine yC rfl ?_;refine zC ?_;refine aP ?_;refine bD ?_;refine yB [11,12,13,14] [328] (by simp only [zZ,zR,zP,zQ,zN,zS,zM,zX,zU,Nat.reduceEqDiff,reduceIte];exact rfl) ?_
  refine zJ (fun K hK=>?_);simp (disch:=omega) only [push_cast,↓iC9,simprocAttr]
  refine hat 400 zG8 (qDn o b l0 l2) (.cons (dF (aQ _)) (.cons (dF (aQ _)) .nil)) ?_;rintro _ _ ⟨rfl,rfl⟩;with_reducible refine aH ?_;simp (disch:=omega) only [push_cast,↓iC9,simprocAttr]
  refine hK _ ?_;clear hK K;refine aP ?_;refine aP ?_;refine bD ?_;refine zJ (fun K hK=>?_);simp (disch:=omega) only [push_cast,↓iC9,simprocAttr];refine hK _ ?_;clear hK K
  refine aC ?_;refine bD ?_;refine yC rfl ?_;refine zC ?_;refine aP ?_;refine bD ?_;refine yB [11,12,13,14,16] [328,400] (by simp only [zZ,zR,zP,zQ,zN,zS,zM,zX,zU,Nat.reduceEqDiff,reduceIte];exact rfl) ?_
  refine zJ (fun K hK=>?_);simp (disch:=omega) only [push_cast,↓iC9,simprocAttr];refine hK _ ?_;clear hK K
  refine aP ?_;refine aP ?_;refine bD ?_;refine yB [11,12,13,14,16,17] [136,328,400] (by simp only [zZ,zR,zP,zQ,zN,zS,zM,zX,zU,Nat.reduceEqDiff,reduceIte];exact rfl) ?_
  refine zA3 136 6 9000 33 4 (by decide) rfl rfl (by simp only [push_cast,List.set_cons_succ,List.set_cons_zero,Nat.reduceEqDiff,reduceIte,Nat.reduceBEq,cond_false,cond_true];exact rfl) ?_
  refine zGd 9000 rfl (by simp only [mK,kC,List.map_cons,List.map_nil,zFr,qMj,Nat.reduceEqDiff,reduceIte];exact rfl) ?_
  refine zJ (fun K hK=>?_);simp (disch:=omega) only [push_cast,↓iC9,simprocAttr,aA];refine hK _ ?_;clear hK K
  refine aC ?_;refine eM ?_;refine qW3 (cvE o a b) (fun p=>clv p.2.2) (fun p=>CuI o a b p.1 p.2.1∧(p.2.1=none→p.2.2=[])∧∀ s,p.2.1=some s→s.pre=p.2.2.map Prod.fst) (fun p=>o.length - p.1) [11,12,13,14,16,17,61,62] [136,328,400,9000,1000002,1000003,1000004] (0,none,[]) (by simp only [zZ,zR,zP,zQ,zN,zS,zM,zX,zU,Nat.reduceEqDiff,reduceIte,cvE,kS];try rfl) rfl ⟨qWk o a b,fun _=>rfl,fun _ h=>by cases h⟩ ?_
  have px:∀ n,n < o.length→∀ d,(gR (eE o a)).getD n d=[.v (.int .i64 (kJ (kn o a) n))]:=fun n hn d=>by rw [fP (by rw [lU];exact hn)];unfold eE;rw [qSc o a n hn]
  have py:∀ n,n < o.length→∀ d,(gR (eE o b)).getD n d=[.v (.int .i64 (kJ (kn o b) n))]:=fun n hn d=>by rw [fP (by rw [lU];exact hn)];unfold eE;rw [qSc o b n hn]
  have lx:(gR (eE o a)).length=o.length:=by rw [dJ,lU]
  have ly:(gR (eE o b)).length=o.length:=by rw [dJ,lU]
  rintro ⟨n,p,T⟩ ⟨I,hT0,hTs⟩;simp only at I hT0 hTs
  by_cases hn:n < o.length
  ·cases e1:DiffM.look (kn o a) n with
  |none =>
    have v1:kJ (kn o a) n=-1:=by rw [kJ,e1]
    have I':=I.skip hn (.inl e1)
    rcases p with _|s
    all_goals
     simp only [cvE,kS]
     (repeat first|refine aP ?_|refine aC ?_|refine iJ ?_|refine cG ?_|refine eM ?_);refine bD ?_
     (repeat first|refine zE ?_|refine zA ?_|refine zC ?_|refine zB ?_|refine zD ?_);refine zJ (fun K hK=>?_);simp (disch:=omega) only [push_cast,↓iC9,simprocAttr];refine hK _ ?_;clear hK K
     (repeat first|refine aP ?_|refine aC ?_|refine iJ ?_|refine cG ?_|refine eM ?_);refine bD ?_
     refine yD rfl ?_
     (repeat first|refine zK ?_|refine zG ?_|refine zH ?_|refine zF rfl ?_|refine zL ?_|refine zB ?_|refine zE ?_|refine zA ?_|refine zC ?_|refine zT ?_|refine zW ?_)
     (repeat first|refine aP ?_|refine aC ?_|refine iJ ?_|refine cG ?_|refine eM ?_);refine bD ?_
     (repeat first|refine zE ?_|refine zA ?_|refine zC ?_|refine zB ?_|refine zD ?_);refine zJ (fun K hK=>?_);simp (disch:=omega) only [push_cast,↓iC9,simprocAttr];refine hK _ ?_;clear hK K
     (repeat first|refine aP ?_|refine aC ?_|refine iJ ?_|refine cG ?_|refine eM ?_);refine bD ?_
     (repeat first|refine zE ?_|refine zA ?_|refine zC ?_|refine zB ?_|refine zD ?_);refine zJ (fun K hK=>?_);simp (disch:=omega) only [push_cast,↓iC9,simprocAttr,lx,px n hn,v1];refine hK _ ?_;clear hK K
     (repeat first|refine aP ?_|refine aC ?_|refine iJ ?_|refine cG ?_|refine eM ?_);refine bD ?_
     refine yC rfl ?_
     (repeat first|refine zK ?_|refine zG ?_|refine zH ?_|refine zF rfl ?_|refine zL ?_|refine zB ?_|refine zE ?_|refine zA ?_|refine zC ?_|refine zT ?_|refine zW ?_)
     (repeat first|refine aP ?_|refine aC ?_|refine iJ ?_|refine cG ?_|refine eM ?_);refine bD ?_
     (repeat first|refine zE ?_|refine zA ?_|refine zC ?_|refine zB ?_|refine zD ?_);refine zJ (fun K hK=>?_);simp (disch:=omega) only [push_cast,↓iC9,simprocAttr];refine hK _ ?_;clear hK K
     (repeat first|refine vV ?_|refine nR ?_|refine nS ?_|refine qGz rfl ?_|refine vX ?_|refine cG ?_|refine aP ?_|refine aC ?_|refine iJ ?_|refine qW4 ?_|refine xR ?_)
    ·exact ⟨(n + 1,none,T),by simp only [zZ,zR,zP,zQ,zN,zS,zM,zX,zU,Nat.reduceEqDiff,reduceIte,cvE,kS];try rfl,rfl,⟨I',hT0,hTs⟩,by dsimp only;omega⟩
    ·exact ⟨(n + 1,some s,T),by simp only [zZ,zR,zP,zQ,zN,zS,zM,zX,zU,Nat.reduceEqDiff,reduceIte,cvE,kS];try rfl,rfl,⟨I',hT0,hTs⟩,by dsimp only;omega⟩
  |some q =>
    have v1:kJ (kn o a) n=(q:Int):=by rw [kJ,e1]
    cases e2:DiffM.look (kn o b) n with
   |none =>
     have v2:kJ (kn o b) n=-1:=by rw [kJ,e2]
     have I':=I.skip hn (.inr e2)
     rcases p with _|s
     all_goals
      simp only [cvE,kS]
      (repeat first|refine aP ?_|refine aC ?_|refine iJ ?_|refine cG ?_|refine eM ?_);refine bD ?_
      (repeat first|refine zE ?_|refine zA ?_|refine zC ?_|refine zB ?_|refine zD ?_);refine zJ (fun K hK=>?_);simp (disch:=omega) only [push_cast,↓iC9,simprocAttr];refine hK _ ?_;clear hK K
      (repeat first|refine aP ?_|refine aC ?_|refine iJ ?_|refine cG ?_|refine eM ?_);refine bD ?_
      refine yD rfl ?_
      (repeat first|refine zK ?_|refine zG ?_|refine zH ?_|refine zF rfl ?_|refine zL ?_|refine zB ?_|refine zE ?_|refine zA ?_|refine zC ?_|refine zT ?_|refine zW ?_)
      (repeat first|refine aP ?_|refine aC ?_|refine iJ ?_|refine cG ?_|refine eM ?_);refine bD ?_
      (repeat first|refine zE ?_|refine zA ?_|refine zC ?_|refine zB ?_|refine zD ?_);refine zJ (fun K hK=>?_);simp (disch:=omega) only [push_cast,↓iC9,simprocAttr];refine hK _ ?_;clear hK K
      (repeat first|refine aP ?_|refine aC ?_|refine iJ ?_|refine cG ?_|refine eM ?_);refine bD ?_
      (repeat first|refine zE ?_|refine zA ?_|refine zC ?_|refine zB ?_|refine zD ?_);refine zJ (fun K hK=>?_);simp (disch:=omega) only [push_cast,↓iC9,simprocAttr,lx,px n hn,v1,ly,py n hn,v2];refine hK _ ?_;clear hK K
      (repeat first|refine aP ?_|refine aC ?_|refine iJ ?_|refine cG ?_|refine eM ?_);refine bD ?_
      refine yC rfl ?_
      (repeat first|refine zK ?_|refine zG ?_|refine zH ?_|refine zF rfl ?_|refine zL ?_|refine zB ?_|refine zE ?_|refine zA ?_|refine zC ?_|refine zT ?_|refine zW ?_)
      (repeat first|refine aP ?_|refine aC ?_|refine iJ ?_|refine cG ?_|refine eM ?_);refine bD ?_
      (repeat first|refine zE ?_|refine zA ?_|refine zC ?_|refine zB ?_|refine zD ?_);refine zJ (fun K hK=>?_);simp (disch:=omega) only [push_cast,↓iC9,simprocAttr];refine hK _ ?_;clear hK K
      (repeat first|refine vV ?_|refine nR ?_|refine nS ?_|refine qGz rfl ?_|refine vX ?_|refine cG ?_|refine aP ?_|refine aC ?_|refine iJ ?_|refine qW4 ?_|refine xR ?_)
     ·exact ⟨(n + 1,none,T),by simp only [zZ,zR,zP,zQ,zN,zS,zM,zX,zU,Nat.reduceEqDiff,reduceIte,cvE,kS];try rfl,rfl,⟨I',hT0,hTs⟩,by dsimp only;omega⟩
     ·exact ⟨(n + 1,some s,T),by simp only [zZ,zR,zP,zQ,zN,zS,zM,zX,zU,Nat.reduceEqDiff,reduceIte,cvE,kS];try rfl,rfl,⟨I',hT0,hTs⟩,by dsimp only;omega⟩
   |some r =>
     have v2:kJ (kn o b) n=(r:Int):=by rw [kJ,e2]
     have hq:=I.j.lt n q e1
     have hr:=I.k.lt n r e2
     have hqj:=I.j.low n q (Nat.le_refl _) e1
     have hrk:=I.k.low n r (Nat.le_refl _) e2
     have hIi:=I.i
     have hIl:=I.len
     have hsg:o.getD n default=o[n]:=by simp [List.getD_eq_getElem?_getD,hn]
     rcases p with _|s
     ·have hTn:=hT0 rfl
      subst hTn;simp only [cvE,kS];simp only [cuU] at hqj hrk hIi hIl
      have C:=zF5 o a b 0 0 0 n q r [] (by omega) (by omega) (by omega) (by omega) (by omega) (by omega) (by simp)
      refine aP ?_;refine bD ?_;refine zJ (fun K hK=>?_);simp (disch:=omega) only [push_cast,↓iC9,simprocAttr];refine hK _ ?_;clear hK K
      refine aP ?_;refine bD ?_;refine yD rfl ?_;refine zC ?_;refine aP ?_;refine eM ?_;refine aP ?_;refine bD ?_;refine zJ (fun K hK=>?_);simp (disch:=omega) only [push_cast,↓iC9,simprocAttr];refine hK _ ?_;clear hK K
      refine aP ?_;refine bD ?_;refine zJ (fun K hK=>?_);simp (disch:=omega) only [push_cast,↓iC9,simprocAttr,lx,px n hn,v1,ly,py n hn,v2];refine hK _ ?_;clear hK K
      refine aC ?_;refine qW2 rfl ?_;refine aP ?_;refine bD ?_;refine yB [11,12,13,14,16,17,18,61,62] [136,328,400,9000] (by simp only [zZ,zR,zP,zQ,zN,zS,zM,zX,zU,Nat.reduceEqDiff,reduceIte];exact rfl) ?_
      refine HW_drw 9 mixed (by kernel_rfl) (fun K hK=>?_);simp (disch:=omega) only [push_cast,↓iC9,simprocAttr,lx,px n hn,v1,ly,py n hn,v2,eU]
      with_reducible refine aH ?_;simp (disch:=omega) only [push_cast,↓iC9,simprocAttr]
      refine qCp 688 [136,9000] qWn (C) rfl (by decide) (by decide) (by simp only [push_cast,simprocAttr];try rfl) (by simp only [push_cast,simprocAttr];try rfl) ?_
      rintro _ _ ⟨rfl,⟨hps,rfl⟩|⟨hst,rfl⟩⟩
      ·have hbo:btO o a b 0 0 0 n q r []=[⟨false,(o.take n),(a.take q),(b.take r)⟩]:=by rw [btO,gX,if_pos hps];rfl
       refine aH ?_;simp (disch:=omega) only [push_cast,↓iC9,simprocAttr,aE,List.map_append];refine hK _ ?_;clear hK K;refine aC ?_;refine iW [11,12,13,14,16,17,18,61,62] [136,328,400,9000,690,691,692] (by simp only [zZ,zR,zP,zQ,zN,zS,zM,zX,zU,Nat.reduceEqDiff,reduceIte];exact rfl) ?_
       refine eZ 690 (((o.take n)).map Value.string) (by simp only [zX,zU,Nat.reduceEqDiff,reduceIte];exact rfl) (by simp only [List.length_map,bY,aA];try omega) (by intro i k hi hk hv;first|exact lD hi hk hv|simp_all) ?_;intro p1 z1;simp only [bJ,bC,aL,aT,aJ,cC,aX,aY,aK,aW,aV,bK,aZ,aU,bF,bG,bH,Nat.reduceEqDiff,reduceIte,List.map_cons,List.map_nil,List.map_append,bY,aA]
       refine eZ 691 (((a.take q)).map Value.string) (by simp only [zX,zU,Nat.reduceEqDiff,reduceIte];exact rfl) (by simp only [List.length_map,bY,aA];try omega) (by intro i k hi hk hv;first|exact lD hi hk hv|simp_all) ?_;intro p2 z2;simp only [bJ,bC,aL,aT,aJ,cC,aX,aY,aK,aW,aV,bK,aZ,aU,bF,bG,bH,Nat.reduceEqDiff,reduceIte,List.map_cons,List.map_nil,List.map_append,bY,aA]
       refine eZ 692 (((b.take r)).map Value.string) (by simp only [zX,zU,Nat.reduceEqDiff,reduceIte];exact rfl) (by simp only [List.length_map,bY,aA];try omega) (by intro i k hi hk hv;first|exact lD hi hk hv|simp_all) ?_;intro p3 z3;simp only [bJ,bC,aL,aT,aJ,cC,aX,aY,aK,aW,aV,bK,aZ,aU,bF,bG,bH,Nat.reduceEqDiff,reduceIte,List.map_cons,List.map_nil,List.map_append,bY,aA]
       rw [sE [] false ((o.take n)) ((a.take q)) ((b.take r))];obtain ⟨U,hU⟩:∃ U:List CkV,U=[(⟨false,(o.take n),(a.take q),(b.take r)⟩,(p1,z1),(p2,z2),(p3,z3))]:=⟨_,rfl⟩
       have hUm:U.map Prod.fst=btO o a b 0 0 0 n q r []:=by rw [hU,hbo];try rfl
       have hlast:∀ c',U.getLast?=some c'→c'.1.st=false:=fun c' hc'=>by rw [hU] at hc';simp at hc';try (subst hc';rfl)
       have hUl:U.length≤2 * n + 1:=by rw [hU];simp;try omega
       have hlast2:∀ c',(U.map Prod.fst).getLast?=some c'→c'.st=false:=fun c' hc'=>by rw [hU] at hc';simp at hc';try (subst hc';rfl)
       have C2:=qR0 o a b n q r n U hlast hn (by omega) (by omega) (by omega) (by omega) (by omega)
       refine qNb (S':=⟨[(11,.lst true (aD o)),(12,.lst true (aD a)),(13,.lst true (aD b)),(14,.own 328),(16,.own 400),(17,.ptr 136 7 0 0),(18,.v (.int .i64 n)),(61,.v (.int .i64 o.length)),(62,.v (.int .i64 n))],[(136,.bx true 43 [.lst true (aD o),.lst true (aD a),.lst true (aD b),.v (.int .i64 n),.v (.int .i64 q),.v (.int .i64 r),.own 9000]),(328,qB3 (eE o a)),(400,qB3 (eE o b)),(9000,.hl true 33 4 (ckW U))]⟩) (F':=clv U) (by rw [hU];try rfl) (by rw [hU];try rfl) ?_
       clear hU;refine bD ?_;refine zJ (fun K hK=>?_);simp (disch:=omega) only [push_cast,↓iC9,simprocAttr]
       refine qCp 704 [136,9000] qYk (C2) rfl (by decide) (by decide) (by simp only [push_cast,List.map_append,aE,simprocAttr];try rfl) (by simp only [push_cast,List.map_append,aE,simprocAttr];try rfl) ?_
       rintro _ _ ⟨rfl,rfl⟩;refine aH ?_;simp (disch:=omega) only [push_cast,↓iC9,simprocAttr,aE,List.map_append];refine hK _ ?_;clear hK K;refine cG ?_;refine aC ?_;refine bD ?_;refine yB [11,12,13,14,16,17,61,62] [136,328,400,9000,706,707,708] (by simp only [zZ,zR,zP,zQ,zN,zS,zM,zX,zU,Nat.reduceEqDiff,reduceIte];exact rfl) ?_
       refine jB 706 1000002 (by decide) rfl rfl (by simp only [fZ,kW,eY,dW,eP,dL,gS,eC,eB,eF,fQ,eD,dZ,dD,fG,fJ,fH,Nat.reduceMul,Nat.reduceAdd,Nat.reduceEqDiff,reduceIte,List.map_cons,List.map_nil,List.map_append,aE];exact rfl) ?_
       refine jB 707 1000003 (by decide) rfl rfl (by simp only [fZ,kW,eY,dW,eP,dL,gS,eC,eB,eF,fQ,eD,dZ,dD,fG,fJ,fH,Nat.reduceMul,Nat.reduceAdd,Nat.reduceEqDiff,reduceIte,List.map_cons,List.map_nil,List.map_append,aE];exact rfl) ?_
       refine jB 708 1000004 (by decide) rfl rfl (by simp only [fZ,kW,eY,dW,eP,dL,gS,eC,eB,eF,fQ,eD,dZ,dD,fG,fJ,fH,Nat.reduceMul,Nat.reduceAdd,Nat.reduceEqDiff,reduceIte,List.map_cons,List.map_nil,List.map_append,aE];exact rfl) ?_
       refine zJ (fun K hK=>?_);simp (disch:=omega) only [push_cast,↓iC9,simprocAttr];refine hK _ ?_;clear hK K
       refine aC ?_;refine ⟨(n + 1,some ⟨n + 1,q + 1,r + 1,U.map Prod.fst,⟨true,[o[n]],[o[n]],[o[n]]⟩⟩,U),by simp only [zZ,zR,zP,zQ,zN,zS,zM,zX,zU,Nat.reduceEqDiff,reduceIte,cvE,kS];try rfl,rfl,⟨I.step hn e1 e2 _ rfl rfl rfl rfl (by simp) (by simp) (by simp) (by simp;omega) ?_,fun h=>(by cases h),fun s hs=>(by cases hs;rfl)⟩,by dsimp only;omega⟩
       rw [hUm] at hlast2 ⊢;show btO o a b 0 0 0 n q r [] ++ [_]=mG (btO o a b 0 0 0 n q r []) o[n]
       exact (qA8 hlast2 _).symm
      ·have hbo:btO o a b 0 0 0 n q r []=[]:=by rw [btO,gX,if_neg hst]
       refine aH ?_;simp (disch:=omega) only [push_cast,↓iC9,simprocAttr,aE,List.map_append];refine hK _ ?_;clear hK K;refine aC ?_;refine iW [11,12,13,14,16,17,18,61,62] [136,328,400,9000] (by simp only [zZ,zR,zP,zQ,zN,zS,zM,zX,zU,Nat.reduceEqDiff,reduceIte];exact rfl) ?_
       obtain ⟨U,hU⟩:∃ U:List CkV,U=[]:=⟨_,rfl⟩
       have hUm:U.map Prod.fst=btO o a b 0 0 0 n q r []:=by rw [hU,hbo];try rfl
       have hlast:∀ c',U.getLast?=some c'→c'.1.st=false:=fun c' hc'=>by rw [hU] at hc';simp at hc';try (subst hc';rfl)
       have hUl:U.length≤2 * n + 1:=by rw [hU];simp;try omega
       have hlast2:∀ c',(U.map Prod.fst).getLast?=some c'→c'.st=false:=fun c' hc'=>by rw [hU] at hc';simp at hc';try (subst hc';rfl)
       have C2:=qR0 o a b n q r n U hlast hn (by omega) (by omega) (by omega) (by omega) (by omega)
       refine qNb (S':=⟨[(11,.lst true (aD o)),(12,.lst true (aD a)),(13,.lst true (aD b)),(14,.own 328),(16,.own 400),(17,.ptr 136 7 0 0),(18,.v (.int .i64 n)),(61,.v (.int .i64 o.length)),(62,.v (.int .i64 n))],[(136,.bx true 43 [.lst true (aD o),.lst true (aD a),.lst true (aD b),.v (.int .i64 n),.v (.int .i64 q),.v (.int .i64 r),.own 9000]),(328,qB3 (eE o a)),(400,qB3 (eE o b)),(9000,.hl true 33 4 (ckW U))]⟩) (F':=clv U) (by rw [hU];try rfl) (by rw [hU];try rfl) ?_
       clear hU;refine bD ?_;refine zJ (fun K hK=>?_);simp (disch:=omega) only [push_cast,↓iC9,simprocAttr]
       refine qCp 704 [136,9000] qYk (C2) rfl (by decide) (by decide) (by simp only [push_cast,List.map_append,aE,simprocAttr];try rfl) (by simp only [push_cast,List.map_append,aE,simprocAttr];try rfl) ?_
       rintro _ _ ⟨rfl,rfl⟩;refine aH ?_;simp (disch:=omega) only [push_cast,↓iC9,simprocAttr,aE,List.map_append];refine hK _ ?_;clear hK K;refine cG ?_;refine aC ?_;refine bD ?_;refine yB [11,12,13,14,16,17,61,62] [136,328,400,9000,706,707,708] (by simp only [zZ,zR,zP,zQ,zN,zS,zM,zX,zU,Nat.reduceEqDiff,reduceIte];exact rfl) ?_
       refine jB 706 1000002 (by decide) rfl rfl (by simp only [fZ,kW,eY,dW,eP,dL,gS,eC,eB,eF,fQ,eD,dZ,dD,fG,fJ,fH,Nat.reduceMul,Nat.reduceAdd,Nat.reduceEqDiff,reduceIte,List.map_cons,List.map_nil,List.map_append,aE];exact rfl) ?_
       refine jB 707 1000003 (by decide) rfl rfl (by simp only [fZ,kW,eY,dW,eP,dL,gS,eC,eB,eF,fQ,eD,dZ,dD,fG,fJ,fH,Nat.reduceMul,Nat.reduceAdd,Nat.reduceEqDiff,reduceIte,List.map_cons,List.map_nil,List.map_append,aE];exact rfl) ?_
       refine jB 708 1000004 (by decide) rfl rfl (by simp only [fZ,kW,eY,dW,eP,dL,gS,eC,eB,eF,fQ,eD,dZ,dD,fG,fJ,fH,Nat.reduceMul,Nat.reduceAdd,Nat.reduceEqDiff,reduceIte,List.map_cons,List.map_nil,List.map_append,aE];exact rfl) ?_
       refine zJ (fun K hK=>?_);simp (disch:=omega) only [push_cast,↓iC9,simprocAttr];refine hK _ ?_;clear hK K
       refine aC ?_;refine ⟨(n + 1,some ⟨n + 1,q + 1,r + 1,U.map Prod.fst,⟨true,[o[n]],[o[n]],[o[n]]⟩⟩,U),by simp only [zZ,zR,zP,zQ,zN,zS,zM,zX,zU,Nat.reduceEqDiff,reduceIte,cvE,kS];try rfl,rfl,⟨I.step hn e1 e2 _ rfl rfl rfl rfl (by simp) (by simp) (by simp) (by simp;omega) ?_,fun h=>(by cases h),fun s hs=>(by cases hs;rfl)⟩,by dsimp only;omega⟩
       rw [hUm] at hlast2 ⊢;show btO o a b 0 0 0 n q r [] ++ [_]=mG (btO o a b 0 0 0 n q r []) o[n]
       exact (qA8 hlast2 _).symm
     ·obtain ⟨i,j,k,pre,c⟩:=s
      have hpT:=hTs _ rfl
      dsimp only at hpT;subst hpT;simp only [cvE,kS];simp only [cuU] at hqj hrk hIi hIl;obtain ⟨hc,cb,cl,cr⟩:=I.st _ rfl;dsimp only at hc cb cl cr
      have hpl:T.length + 1≤2 * n:=by simpa using hIl
      have C:=zF4 o a b i j k n q r T c (by omega) (by omega) (by omega) (by omega) (by omega) (by omega) (by omega)
      refine aP ?_;refine bD ?_;refine zJ (fun K hK=>?_);simp (disch:=omega) only [push_cast,↓iC9,simprocAttr];refine hK _ ?_;clear hK K
      refine aP ?_;refine bD ?_;refine yD rfl ?_;refine zC ?_;refine aP ?_;refine eM ?_;refine aP ?_;refine bD ?_;refine zJ (fun K hK=>?_);simp (disch:=omega) only [push_cast,↓iC9,simprocAttr];refine hK _ ?_;clear hK K
      refine aP ?_;refine bD ?_;refine zJ (fun K hK=>?_);simp (disch:=omega) only [push_cast,↓iC9,simprocAttr,lx,px n hn,v1,ly,py n hn,v2];refine hK _ ?_;clear hK K
      refine aC ?_;refine qW2 rfl ?_;refine aP ?_;refine bD ?_;refine yB [11,12,13,14,16,17,18,61,62] [136,328,400,9000,1000002,1000003,1000004] (by simp only [zZ,zR,zP,zQ,zN,zS,zM,zX,zU,Nat.reduceEqDiff,reduceIte];exact rfl) ?_
      refine HW_drw 9 mixed (by kernel_rfl) (fun K hK=>?_);simp (disch:=omega) only [push_cast,↓iC9,simprocAttr,lx,px n hn,v1,ly,py n hn,v2,eU]
      with_reducible refine aH ?_;simp (disch:=omega) only [push_cast,↓iC9,simprocAttr]
      refine qCp 688 [136,9000,1000002,1000003,1000004] qWn (C) rfl (by decide) (by decide) (by simp only [push_cast,List.map_append,aE,simprocAttr];try rfl) (by simp only [push_cast,List.map_append,aE,simprocAttr];try rfl) ?_
      rintro _ _ ⟨rfl,⟨hps,rfl⟩|⟨hst,rfl⟩⟩
      ·have hbo:btO o a b i j k n q r (T.map Prod.fst ++ [c])=(T.map Prod.fst ++ [c]) ++ [⟨false,(o.take n).drop i,(a.take q).drop j,(b.take r).drop k⟩]:=by rw [btO,gX,if_pos hps]
       refine aH ?_;simp (disch:=omega) only [push_cast,↓iC9,simprocAttr,aE,bS,List.map_append];refine hK _ ?_;clear hK K;refine aC ?_;refine iW [11,12,13,14,16,17,18,61,62] [136,328,400,9000,1000002,1000003,1000004,693,694,695] (by simp only [zZ,zR,zP,zQ,zN,zS,zM,zX,zU,Nat.reduceEqDiff,reduceIte];exact rfl) ?_
       refine eZ 1000002 (c.b.map Value.string) (by simp only [zX,zU,Nat.reduceEqDiff,reduceIte];exact rfl) (by simp only [List.length_map,bY,aA];try omega) (by intro i k hi hk hv;first|exact lD hi hk hv|simp_all) ?_;intro p4 z4;simp only [bJ,bC,aL,aT,aJ,cC,aX,aY,aK,aW,aV,bK,aZ,aU,bF,bG,bH,Nat.reduceEqDiff,reduceIte,List.map_cons,List.map_nil,List.map_append,bY,aA]
       refine eZ 1000003 (c.l.map Value.string) (by simp only [zX,zU,Nat.reduceEqDiff,reduceIte];exact rfl) (by simp only [List.length_map,bY,aA];try omega) (by intro i k hi hk hv;first|exact lD hi hk hv|simp_all) ?_;intro p5 z5;simp only [bJ,bC,aL,aT,aJ,cC,aX,aY,aK,aW,aV,bK,aZ,aU,bF,bG,bH,Nat.reduceEqDiff,reduceIte,List.map_cons,List.map_nil,List.map_append,bY,aA]
       refine eZ 1000004 (c.r.map Value.string) (by simp only [zX,zU,Nat.reduceEqDiff,reduceIte];exact rfl) (by simp only [List.length_map,bY,aA];try omega) (by intro i k hi hk hv;first|exact lD hi hk hv|simp_all) ?_;intro p6 z6;simp only [bJ,bC,aL,aT,aJ,cC,aX,aY,aK,aW,aV,bK,aZ,aU,bF,bG,bH,Nat.reduceEqDiff,reduceIte,List.map_cons,List.map_nil,List.map_append,bY,aA]
       refine eZ 693 (((o.take n).drop i).map Value.string) (by simp only [zX,zU,Nat.reduceEqDiff,reduceIte];exact rfl) (by simp only [List.length_map,bY,aA];try omega) (by intro i k hi hk hv;first|exact lD hi hk hv|simp_all) ?_;intro p1 z1;simp only [bJ,bC,aL,aT,aJ,cC,aX,aY,aK,aW,aV,bK,aZ,aU,bF,bG,bH,Nat.reduceEqDiff,reduceIte,List.map_cons,List.map_nil,List.map_append,bY,aA]
       refine eZ 694 (((a.take q).drop j).map Value.string) (by simp only [zX,zU,Nat.reduceEqDiff,reduceIte];exact rfl) (by simp only [List.length_map,bY,aA];try omega) (by intro i k hi hk hv;first|exact lD hi hk hv|simp_all) ?_;intro p2 z2;simp only [bJ,bC,aL,aT,aJ,cC,aX,aY,aK,aW,aV,bK,aZ,aU,bF,bG,bH,Nat.reduceEqDiff,reduceIte,List.map_cons,List.map_nil,List.map_append,bY,aA]
       refine eZ 695 (((b.take r).drop k).map Value.string) (by simp only [zX,zU,Nat.reduceEqDiff,reduceIte];exact rfl) (by simp only [List.length_map,bY,aA];try omega) (by intro i k hi hk hv;first|exact lD hi hk hv|simp_all) ?_;intro p3 z3;simp only [bJ,bC,aL,aT,aJ,cC,aX,aY,aK,aW,aV,bK,aZ,aU,bF,bG,bH,Nat.reduceEqDiff,reduceIte,List.map_cons,List.map_nil,List.map_append,bY,aA]
       rw [sE T true c.b c.l c.r,sE _ false ((o.take n).drop i) ((a.take q).drop j) ((b.take r).drop k)];obtain ⟨U,hU⟩:∃ U:List CkV,U=(T ++ [(⟨true,c.b,c.l,c.r⟩,(p4,z4),(p5,z5),(p6,z6))] ++ [(⟨false,(o.take n).drop i,(a.take q).drop j,(b.take r).drop k⟩,(p1,z1),(p2,z2),(p3,z3))]):=⟨_,rfl⟩
       have hUm:U.map Prod.fst=btO o a b i j k n q r (T.map Prod.fst ++ [c]):=by rw [hU,hbo];rw [List.map_append,List.map_append,List.map_singleton,List.map_singleton,show (⟨true,c.b,c.l,c.r⟩:Ck ByteArray)=c by cases c;simp only at hc;subst hc;rfl]
       have hlast:∀ c',U.getLast?=some c'→c'.1.st=false:=fun c' hc'=>by rw [hU] at hc';simp at hc';try (subst hc';rfl)
       have hUl:U.length≤2 * n + 1:=by rw [hU];simp;try omega
       have hlast2:∀ c',(U.map Prod.fst).getLast?=some c'→c'.st=false:=fun c' hc'=>by rw [hU] at hc';simp at hc';try (subst hc';rfl)
       have C2:=qR0 o a b n q r n U hlast hn (by omega) (by omega) (by omega) (by omega) (by omega)
       refine qNb (S':=⟨[(11,.lst true (aD o)),(12,.lst true (aD a)),(13,.lst true (aD b)),(14,.own 328),(16,.own 400),(17,.ptr 136 7 0 0),(18,.v (.int .i64 n)),(61,.v (.int .i64 o.length)),(62,.v (.int .i64 n))],[(136,.bx true 43 [.lst true (aD o),.lst true (aD a),.lst true (aD b),.v (.int .i64 n),.v (.int .i64 q),.v (.int .i64 r),.own 9000]),(328,qB3 (eE o a)),(400,qB3 (eE o b)),(9000,.hl true 33 4 (ckW U))]⟩) (F':=clv U) (by rw [hU];try rfl) (by rw [hU];rw [← qA6,← qA6];rfl) ?_
       clear hU;refine bD ?_;refine zJ (fun K hK=>?_);simp (disch:=omega) only [push_cast,↓iC9,simprocAttr]
       refine qCp 704 [136,9000] qYk (C2) rfl (by decide) (by decide) (by simp only [push_cast,List.map_append,aE,simprocAttr];try rfl) (by simp only [push_cast,List.map_append,aE,simprocAttr];try rfl) ?_
       rintro _ _ ⟨rfl,rfl⟩;refine aH ?_;simp (disch:=omega) only [push_cast,↓iC9,simprocAttr,aE,List.map_append];refine hK _ ?_;clear hK K;refine cG ?_;refine aC ?_;refine bD ?_;refine yB [11,12,13,14,16,17,61,62] [136,328,400,9000,706,707,708] (by simp only [zZ,zR,zP,zQ,zN,zS,zM,zX,zU,Nat.reduceEqDiff,reduceIte];exact rfl) ?_
       refine jB 706 1000002 (by decide) rfl rfl (by simp only [fZ,kW,eY,dW,eP,dL,gS,eC,eB,eF,fQ,eD,dZ,dD,fG,fJ,fH,Nat.reduceMul,Nat.reduceAdd,Nat.reduceEqDiff,reduceIte,List.map_cons,List.map_nil,List.map_append,aE];exact rfl) ?_
       refine jB 707 1000003 (by decide) rfl rfl (by simp only [fZ,kW,eY,dW,eP,dL,gS,eC,eB,eF,fQ,eD,dZ,dD,fG,fJ,fH,Nat.reduceMul,Nat.reduceAdd,Nat.reduceEqDiff,reduceIte,List.map_cons,List.map_nil,List.map_append,aE];exact rfl) ?_
       refine jB 708 1000004 (by decide) rfl rfl (by simp only [fZ,kW,eY,dW,eP,dL,gS,eC,eB,eF,fQ,eD,dZ,dD,fG,fJ,fH,Nat.reduceMul,Nat.reduceAdd,Nat.reduceEqDiff,reduceIte,List.map_cons,List.map_nil,List.map_append,aE];exact rfl) ?_
       refine zJ (fun K hK=>?_);simp (disch:=omega) only [push_cast,↓iC9,simprocAttr];refine hK _ ?_;clear hK K
       refine aC ?_;refine ⟨(n + 1,some ⟨n + 1,q + 1,r + 1,U.map Prod.fst,⟨true,[o[n]],[o[n]],[o[n]]⟩⟩,U),by simp only [zZ,zR,zP,zQ,zN,zS,zM,zX,zU,Nat.reduceEqDiff,reduceIte,cvE,kS];try rfl,rfl,⟨I.step hn e1 e2 _ rfl rfl rfl rfl (by simp) (by simp) (by simp) (by simp;omega) ?_,fun h=>(by cases h),fun s hs=>(by cases hs;rfl)⟩,by dsimp only;omega⟩
       rw [hUm] at hlast2 ⊢;show btO o a b i j k n q r (T.map Prod.fst ++ [c]) ++ [_]=mG (btO o a b i j k n q r (T.map Prod.fst ++ [c])) o[n]
       exact (qA8 hlast2 _).symm
      ·have C2:=zGm o a b n q r n T c hn (by omega) (by omega) (by omega) (by omega) (by omega) (by omega) (by omega) (by omega)
       refine aH ?_;simp (disch:=omega) only [push_cast,↓iC9,simprocAttr,aE,bS,List.map_append];refine hK _ ?_;clear hK K;refine aC ?_;refine bD ?_;refine yB [11,12,13,14,16,17,18,61,62] [136,328,400,9000,1000002,1000003,1000004] (by simp only [zZ,zR,zP,zQ,zN,zS,zM,zX,zU,Nat.reduceEqDiff,reduceIte];exact rfl) ?_
       refine zJ (fun K hK=>?_);simp (disch:=omega) only [push_cast,↓iC9,simprocAttr]
       refine qCp 704 [136,9000,1000002,1000003,1000004] qYk (C2) rfl (by decide) (by decide) (by simp only [push_cast,List.map_append,aE,simprocAttr];try rfl) (by simp only [push_cast,List.map_append,aE,simprocAttr];try rfl) ?_
       rintro _ _ ⟨rfl,rfl⟩;refine aH ?_;simp (disch:=omega) only [push_cast,↓iC9,simprocAttr,aE,bS,List.map_append];refine hK _ ?_;clear hK K;refine cG ?_;refine aC ?_;refine bD ?_;refine zJ (fun K hK=>?_);simp (disch:=omega) only [push_cast,↓iC9,simprocAttr];refine hK _ ?_;clear hK K
       refine aC ?_;refine ⟨(n + 1,some ⟨n + 1,q + 1,r + 1,T.map Prod.fst,⟨true,c.b ++ [o[n]],c.l ++ [o[n]],c.r ++ [o[n]]⟩⟩,T),by simp only [zZ,zR,zP,zQ,zN,zS,zM,zX,zU,Nat.reduceEqDiff,reduceIte,cvE,kS];try rfl,rfl,⟨I.step hn e1 e2 _ rfl rfl rfl rfl (by simp;omega) (by simp;omega) (by simp;omega) (by simp;omega) ?_,fun h=>(by cases h),fun s hs=>(by cases hs;rfl)⟩,by dsimp only;omega⟩
       show T.map Prod.fst ++ [_]=mG (gX o a b ⟨i,j,k,T.map Prod.fst ++ [c]⟩ n q r).out o[n]
       rw [gX,if_neg hst];exact (zAw hc _).symm
  ·have hne:n=o.length:=by have:=I.le;omega
   subst hne
   have hF:gJ o a b=(gX o a b (cuU p) o.length a.length b.length).out:=by
    have:=I.rest
    rw [Nat.sub_self,chI] at this;rw [gJ,← this]
   have hIi:=I.i
   have hIj:=I.j.le
   have hIk:=I.k.le
   have hIl:=I.len
   rcases p with _|s
   ·have hTn:=hT0 rfl
    subst hTn;simp only [cvE,kS]
    have C:=zF5 o a b 0 0 0 o.length a.length b.length [] (by omega) (by omega) (by omega) (by omega) (by omega) (by omega) (by simp)
    refine aP ?_;refine bD ?_;refine zJ (fun K hK=>?_);simp (disch:=omega) only [push_cast,↓iC9,simprocAttr];refine hK _ ?_;clear hK K
    refine aP ?_;refine bD ?_;refine yC rfl ?_;refine zT ?_
    (repeat refine nR ?_);refine nS ?_
    refine aP ?_;refine bD ?_;refine yB [11,12,13,17] [136,9000] (by simp only [zZ,zR,zP,zQ,zN,zS,zM,zX,zU,Nat.reduceEqDiff,reduceIte];exact rfl) ?_
    refine zJ (fun K hK=>?_);simp (disch:=omega) only [push_cast,↓iC9,simprocAttr,aA]
    refine qCp 768 [136,9000] qWn (C) rfl (by decide) (by decide) (by simp only [push_cast,simprocAttr];try rfl) (by simp only [push_cast,simprocAttr];try rfl) ?_
    rintro _ _ ⟨rfl,⟨hps,rfl⟩|⟨hst,rfl⟩⟩
    ·have hbo:gJ o a b=[⟨false,(o.take o.length),(a.take a.length),(b.take b.length)⟩]:=by rw [hF];show (gX o a b ⟨0,0,0,[]⟩ _ _ _).out=_;rw [gX,if_pos hps];rfl
     refine aH ?_;simp (disch:=omega) only [push_cast,↓iC9,simprocAttr,aE,List.map_append];refine hK _ ?_;clear hK K;refine aP ?_;refine iW [17] [136,9000,770,771,772] (by simp only [zZ,zR,zP,zQ,zN,zS,zM,zX,zU,Nat.reduceEqDiff,reduceIte];exact rfl) ?_
     refine eZ 770 (((o.take o.length)).map Value.string) (by simp only [zX,zU,Nat.reduceEqDiff,reduceIte];exact rfl) (by simp only [List.length_map,bY,aA];try omega) (by intro i k hi hk hv;first|exact lD hi hk hv|simp_all) ?_;intro p1 z1;simp only [bJ,bC,aL,aT,aJ,cC,aX,aY,aK,aW,aV,bK,aZ,aU,bF,bG,bH,Nat.reduceEqDiff,reduceIte,List.map_cons,List.map_nil,List.map_append,bY,aA]
     refine eZ 771 (((a.take a.length)).map Value.string) (by simp only [zX,zU,Nat.reduceEqDiff,reduceIte];exact rfl) (by simp only [List.length_map,bY,aA];try omega) (by intro i k hi hk hv;first|exact lD hi hk hv|simp_all) ?_;intro p2 z2;simp only [bJ,bC,aL,aT,aJ,cC,aX,aY,aK,aW,aV,bK,aZ,aU,bF,bG,bH,Nat.reduceEqDiff,reduceIte,List.map_cons,List.map_nil,List.map_append,bY,aA]
     refine eZ 772 (((b.take b.length)).map Value.string) (by simp only [zX,zU,Nat.reduceEqDiff,reduceIte];exact rfl) (by simp only [List.length_map,bY,aA];try omega) (by intro i k hi hk hv;first|exact lD hi hk hv|simp_all) ?_;intro p3 z3;simp only [bJ,bC,aL,aT,aJ,cC,aX,aY,aK,aW,aV,bK,aZ,aU,bF,bG,bH,Nat.reduceEqDiff,reduceIte,List.map_cons,List.map_nil,List.map_append,bY,aA]
     rw [sE [] false ((o.take o.length)) ((a.take a.length)) ((b.take b.length))];refine bD ?_;refine zJ (fun K hK=>?_);simp (disch:=omega) only [push_cast,↓iC9,simprocAttr];refine hK _ ?_;clear hK K
     refine aC ?_;refine xR ?_;simp only [qGy,yH,yE,yK,yJ,zS,zM,Nat.reduceEqDiff,reduceIte,reduceCtorEq];refine qHd rfl (qBt _) (aE _) (.inr ⟨t0,t1,t2,rfl,[(⟨false,(o.take o.length),(a.take a.length),(b.take b.length)⟩,(p1,z1),(p2,z2),(p3,z3))],by rw [hbo];rfl,rfl,by rfl⟩)
    ·have hbo:gJ o a b=[]:=by rw [hF];show (gX o a b ⟨0,0,0,[]⟩ _ _ _).out=_;rw [gX,if_neg hst]
     refine aH ?_;simp (disch:=omega) only [push_cast,↓iC9,simprocAttr,aE,List.map_append];refine hK _ ?_;clear hK K;refine aP ?_;refine iW [17] [136,9000] (by simp only [zZ,zR,zP,zQ,zN,zS,zM,zX,zU,Nat.reduceEqDiff,reduceIte];exact rfl) ?_
     refine bD ?_;refine zJ (fun K hK=>?_);simp (disch:=omega) only [push_cast,↓iC9,simprocAttr];refine hK _ ?_;clear hK K
     refine aC ?_;refine xR ?_;simp only [qGy,yH,yE,yK,yJ,zS,zM,Nat.reduceEqDiff,reduceIte,reduceCtorEq];refine qHd rfl (qBt _) (aE _) (.inr ⟨t0,t1,t2,rfl,[],by rw [hbo];rfl,rfl,by rfl⟩)
   ·obtain ⟨i,j,k,pre,c⟩:=s
    have hpT:=hTs _ rfl
    dsimp only at hpT;subst hpT;simp only [cuU] at hIi hIj hIk hIl;obtain ⟨hc,-,-,-⟩:=I.st _ rfl;dsimp only at hc
    have hce:c=⟨true,c.b,c.l,c.r⟩:=by cases c;simp only at hc;subst hc;rfl
    have hpl:T.length + 1≤2 * o.length:=by simpa using hIl
    have C:=zF4 o a b i j k o.length a.length b.length T c (by omega) (by omega) (by omega) (by omega) (by omega) (by omega) (by omega)
    simp only [cvE,kS];refine aP ?_;refine bD ?_;refine zJ (fun K hK=>?_);simp (disch:=omega) only [push_cast,↓iC9,simprocAttr];refine hK _ ?_;clear hK K
    refine aP ?_;refine bD ?_;refine yC rfl ?_;refine zT ?_
    (repeat refine nR ?_);refine nS ?_
    refine aP ?_;refine bD ?_;refine yB [11,12,13,17] [136,9000,1000002,1000003,1000004] (by simp only [zZ,zR,zP,zQ,zN,zS,zM,zX,zU,Nat.reduceEqDiff,reduceIte];exact rfl) ?_
    refine zJ (fun K hK=>?_);simp (disch:=omega) only [push_cast,↓iC9,simprocAttr,aA]
    refine qCp 768 [136,9000,1000002,1000003,1000004] qWn (C) rfl (by decide) (by decide) (by simp only [push_cast,List.map_append,aE,simprocAttr];try rfl) (by simp only [push_cast,List.map_append,aE,simprocAttr];try rfl) ?_
    rintro _ _ ⟨rfl,⟨hps,rfl⟩|⟨hst,rfl⟩⟩
    ·have hbo:gJ o a b=(T.map Prod.fst ++ [c]) ++ [⟨false,(o.take o.length).drop i,(a.take a.length).drop j,(b.take b.length).drop k⟩]:=by rw [hF];show (gX o a b ⟨i,j,k,T.map Prod.fst ++ [c]⟩ _ _ _).out=_;rw [gX,if_pos hps]
     refine aH ?_;simp (disch:=omega) only [push_cast,↓iC9,simprocAttr,aE,bS,List.map_append];refine hK _ ?_;clear hK K;refine aP ?_;refine iW [17] [136,9000,1000002,1000003,1000004,773,774,775] (by simp only [zZ,zR,zP,zQ,zN,zS,zM,zX,zU,Nat.reduceEqDiff,reduceIte];exact rfl) ?_
     refine eZ 1000002 (c.b.map Value.string) (by simp only [zX,zU,Nat.reduceEqDiff,reduceIte];exact rfl) (by simp only [List.length_map,bY,aA];try omega) (by intro i k hi hk hv;first|exact lD hi hk hv|simp_all) ?_;intro p4 z4;simp only [bJ,bC,aL,aT,aJ,cC,aX,aY,aK,aW,aV,bK,aZ,aU,bF,bG,bH,Nat.reduceEqDiff,reduceIte,List.map_cons,List.map_nil,List.map_append,bY,aA]
     refine eZ 1000003 (c.l.map Value.string) (by simp only [zX,zU,Nat.reduceEqDiff,reduceIte];exact rfl) (by simp only [List.length_map,bY,aA];try omega) (by intro i k hi hk hv;first|exact lD hi hk hv|simp_all) ?_;intro p5 z5;simp only [bJ,bC,aL,aT,aJ,cC,aX,aY,aK,aW,aV,bK,aZ,aU,bF,bG,bH,Nat.reduceEqDiff,reduceIte,List.map_cons,List.map_nil,List.map_append,bY,aA]
     refine eZ 1000004 (c.r.map Value.string) (by simp only [zX,zU,Nat.reduceEqDiff,reduceIte];exact rfl) (by simp only [List.length_map,bY,aA];try omega) (by intro i k hi hk hv;first|exact lD hi hk hv|simp_all) ?_;intro p6 z6;simp only [bJ,bC,aL,aT,aJ,cC,aX,aY,aK,aW,aV,bK,aZ,aU,bF,bG,bH,Nat.reduceEqDiff,reduceIte,List.map_cons,List.map_nil,List.map_append,bY,aA]
     refine eZ 773 (((o.take o.length).drop i).map Value.string) (by simp only [zX,zU,Nat.reduceEqDiff,reduceIte];exact rfl) (by simp only [List.length_map,bY,aA];try omega) (by intro i k hi hk hv;first|exact lD hi hk hv|simp_all) ?_;intro p1 z1;simp only [bJ,bC,aL,aT,aJ,cC,aX,aY,aK,aW,aV,bK,aZ,aU,bF,bG,bH,Nat.reduceEqDiff,reduceIte,List.map_cons,List.map_nil,List.map_append,bY,aA]
     refine eZ 774 (((a.take a.length).drop j).map Value.string) (by simp only [zX,zU,Nat.reduceEqDiff,reduceIte];exact rfl) (by simp only [List.length_map,bY,aA];try omega) (by intro i k hi hk hv;first|exact lD hi hk hv|simp_all) ?_;intro p2 z2;simp only [bJ,bC,aL,aT,aJ,cC,aX,aY,aK,aW,aV,bK,aZ,aU,bF,bG,bH,Nat.reduceEqDiff,reduceIte,List.map_cons,List.map_nil,List.map_append,bY,aA]
     refine eZ 775 (((b.take b.length).drop k).map Value.string) (by simp only [zX,zU,Nat.reduceEqDiff,reduceIte];exact rfl) (by simp only [List.length_map,bY,aA];try omega) (by intro i k hi hk hv;first|exact lD hi hk hv|simp_all) ?_;intro p3 z3;simp only [bJ,bC,aL,aT,aJ,cC,aX,aY,aK,aW,aV,bK,aZ,aU,bF,bG,bH,Nat.reduceEqDiff,reduceIte,List.map_cons,List.map_nil,List.map_append,bY,aA]
     rw [sE T true c.b c.l c.r,sE _ false ((o.take o.length).drop i) ((a.take a.length).drop j) ((b.take b.length).drop k)];refine bD ?_;refine zJ (fun K hK=>?_);simp (disch:=omega) only [push_cast,↓iC9,simprocAttr];refine hK _ ?_;clear hK K
     refine aC ?_;refine xR ?_;simp only [qGy,yH,yE,yK,yJ,zS,zM,Nat.reduceEqDiff,reduceIte,reduceCtorEq];refine qHd rfl (qBt _) (aE _) (.inr ⟨t0,t1,t2,rfl,(T ++ [(⟨true,c.b,c.l,c.r⟩,(p4,z4),(p5,z5),(p6,z6))] ++ [(⟨false,(o.take o.length).drop i,(a.take a.length).drop j,(b.take b.length).drop k⟩,(p1,z1),(p2,z2),(p3,z3))]),by rw [hbo,List.map_append,List.map_append,← hce];rfl,rfl,by rw [← qA6,← qA6];rfl⟩)
    ·have hbo:gJ o a b=T.map Prod.fst ++ [c]:=by rw [hF];show (gX o a b ⟨i,j,k,T.map Prod.fst ++ [c]⟩ _ _ _).out=_;rw [gX,if_neg hst]
     refine aH ?_;simp (disch:=omega) only [push_cast,↓iC9,simprocAttr,aE,bS,List.map_append];refine hK _ ?_;clear hK K;refine aP ?_;refine iW [17] [136,9000,1000002,1000003,1000004] (by simp only [zZ,zR,zP,zQ,zN,zS,zM,zX,zU,Nat.reduceEqDiff,reduceIte];exact rfl) ?_
     refine eZ 1000002 (c.b.map Value.string) (by simp only [zX,zU,Nat.reduceEqDiff,reduceIte];exact rfl) (by simp only [List.length_map,bY,aA];try omega) (by intro i k hi hk hv;first|exact lD hi hk hv|simp_all) ?_;intro p4 z4;simp only [bJ,bC,aL,aT,aJ,cC,aX,aY,aK,aW,aV,bK,aZ,aU,bF,bG,bH,Nat.reduceEqDiff,reduceIte,List.map_cons,List.map_nil,List.map_append,bY,aA]
     refine eZ 1000003 (c.l.map Value.string) (by simp only [zX,zU,Nat.reduceEqDiff,reduceIte];exact rfl) (by simp only [List.length_map,bY,aA];try omega) (by intro i k hi hk hv;first|exact lD hi hk hv|simp_all) ?_;intro p5 z5;simp only [bJ,bC,aL,aT,aJ,cC,aX,aY,aK,aW,aV,bK,aZ,aU,bF,bG,bH,Nat.reduceEqDiff,reduceIte,List.map_cons,List.map_nil,List.map_append,bY,aA]
     refine eZ 1000004 (c.r.map Value.string) (by simp only [zX,zU,Nat.reduceEqDiff,reduceIte];exact rfl) (by simp only [List.length_map,bY,aA];try omega) (by intro i k hi hk hv;first|exact lD hi hk hv|simp_all) ?_;intro p6 z6;simp only [bJ,bC,aL,aT,aJ,cC,aX,aY,aK,aW,aV,bK,aZ,aU,bF,bG,bH,Nat.reduceEqDiff,reduceIte,List.map_cons,List.map_nil,List.map_append,bY,aA]
     rw [sE T true c.b c.l c.r];refine bD ?_;refine zJ (fun K hK=>?_);simp (disch:=omega) only [push_cast,↓iC9,simprocAttr];refine hK _ ?_;clear hK K
     refine aC ?_;refine xR ?_;simp only [qGy,yH,yE,yK,yJ,zS,zM,Nat.reduceEqDiff,reduceIte,reduceCtorEq];refine qHd rfl (qBt _) (aE _) (.inr ⟨t0,t1,t2,rfl,(T ++ [(⟨true,c.b,c.l,c.r⟩,(p4,z4),(p5,z5),(p6,z6))]),by rw [hbo,List.map_append,← hce];rfl,rfl,by rw [← qA6];rfl⟩)
end Go.Proofs.Ytmgilahhnbopmaa
