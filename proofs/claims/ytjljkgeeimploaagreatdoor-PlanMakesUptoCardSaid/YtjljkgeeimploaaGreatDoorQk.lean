/- What the walk of the law stands on. -/
import Derived.Test.YtjljkgeeimploaaGreatDoorQj
set_option linter.defProp false
set_option maxRecDepth 20000
set_option maxHeartbeats 4000000
namespace Go.Proofs.Y
open Go Go.Eng Go.RowKit Go.DiffM
attribute [local push_cast] qGb qB4
def lC (l:List (Nat × Nat)):List Value:=l.flatMap fun r=>[.int .i64 r.1,.int .i64 r.2]
def qL4 (l:List (Nat × Nat)):(lC l).length=l.length * 2:=by
 induction l with
|nil=>rfl
|cons r t ih=>simp only [lC,s9,i8,i6,bAj] at ih ⊢;omega
def qDq (l m:List (Nat × Nat)):lC (l ++ m)=lC l ++ lC m:=by simp [lC]
def qDp (l:List (Nat × Nat)) (k:Nat) (h:k < l.length):(lC l)[k * 2]?=some (.int .i64 l[k].1)∧(lC l)[k * 2 + 1]?=some (.int .i64 l[k].2):=by
 induction l generalizing k with
|nil=>simp at h
|cons r t ih =>
  cases k with
 |zero=>simp [lC]
 |succ k =>
   have:=ih k (by simpa using h)
   simp only [lC,s9,u5,u4,bAe] at this ⊢;rw [show (k + 1) * 2=k * 2 + 1 + 1 by omega]
   exact this
def zFr (w:World) (base:Nat) (v:Value) (l:List (Nat × Nat)):Prop:=Own w base 193 2 v l.length (lC l)
def yGp:eV Tryz.prog 193 0=some 0:=by kernel_rfl
def yGo:eV Tryz.prog 193 1=some 1:=by kernel_rfl
def zZk (x y:Int):∀ w:World,(Instr.build 193 #[(0,.int .i64 x),(1,.int .i64 y)]).run Tryz.prog w=.ok (.agg #[.int .i64 x,.int .i64 y]) w:=fun w=>by kernel_rfl
def qWf (l:List (Nat × Nat)) (o c d:Nat):(lC (l ++ [(o,c)])).set (l.length * 2 + 1) (.int .i64 d)=lC (l ++ [(o,d)]):=by
 rw [qDq,qDq,bDy _ _ (by rw [qL4];omega),qL4,show l.length * 2 + 1 - l.length * 2=1 by omega]
 rfl
def yGr (x y:Int):Instr.fill (fun i=>some (i * 2,2)) ((Array.range (1 * 2)).map ((#[.int .i64 0,.int .i64 0]:Array Value)[· % (#[.int .i64 0,.int .i64 0]:Array Value).size]!)) #[(0,Value.agg #[.int .i64 x,.int .i64 y])].toList=some #[.int .i64 x,.int .i64 y]:=by kernel_rfl
def qQ1 (w0:World) (va vb:Value) (a b:List Ba) (ha:SlS w0 va a) (hb:SlS w0 vb b) :
  Calls Tryz.prog 150 #[va,vb] w0 (Ret fun r w'=>Below w0.heap.size w0 w'∧((400 < a.length∨400 < b.length)∧r=.tuple #[.slice none 0 0,.int .i64 4] ∨
   a.length≤400∧b.length≤400∧∃ v,r=.tuple #[v,.int .i64 0]∧zFr w' w0.heap.size v (fX a b))):=by
 refine nQ (args:=[_,_]) Tryz.func150 rfl Tryz.ntmps150 Tryz.results150 (by simp) ?_
 have ha0:=ha
 have hb0:=hb
 obtain ⟨aa,ca,rfl,ha1,ha2,ha3⟩:=ha;obtain ⟨ab,cb,rfl,hb1,hb2,hb3⟩:=hb;generalize hla':a.length=la at *
 generalize hlb':b.length=lb at *
 (repeat first|refine aF ?_|refine zV ?_|refine aA ?_|refine zY ?_);refine bF (fun K hK=>?_);push_cast;refine hK _ _ ?_;clear hK K
 cases hA:decide ((400:Int) < (la:Int))
 rotate_left
 ·(repeat first|refine aF ?_|refine zV ?_|refine aA ?_|refine zY ?_);refine bF (fun K hK=>?_);push_cast[qCw,hA];refine hK _ _ ?_;clear hK K
  (repeat first|refine aF ?_|refine zV ?_|refine aA ?_|refine zY ?_)
  refine qSn rfl ?_
  (repeat first|refine aF ?_|refine zV ?_|refine aA ?_|refine zY ?_);refine bF (fun K hK=>?_);push_cast;refine hK _ _ ?_;clear hK K
  (repeat first|refine yN ?_|refine yP ?_|refine yQ ?_|refine yR rfl ?_|refine yS ?_|refine zY ?_|refine aF ?_|refine zV ?_|refine aA ?_|refine bW ?_|refine dB ?_)
  simp only [qDn,jE,tup,lk,Nat.reduceEqDiff,reduceIte,reduceCtorEq];exact ⟨Below.refl _ _,.inl ⟨.inl (by have:=u7 hA;omega),trivial⟩⟩
 have hA':=x8 hA
 cases hB:decide ((400:Int) < (lb:Int))
 rotate_left
 ·(repeat first|refine aF ?_|refine zV ?_|refine aA ?_|refine zY ?_);refine bF (fun K hK=>?_);push_cast[qCw,hA,hB];refine hK _ _ ?_;clear hK K
  (repeat first|refine aF ?_|refine zV ?_|refine aA ?_|refine zY ?_)
  refine qSn rfl ?_
  (repeat first|refine aF ?_|refine zV ?_|refine aA ?_|refine zY ?_);refine bF (fun K hK=>?_);push_cast;refine hK _ _ ?_;clear hK K
  (repeat first|refine yN ?_|refine yP ?_|refine yQ ?_|refine yR rfl ?_|refine yS ?_|refine zY ?_|refine aF ?_|refine zV ?_|refine aA ?_|refine bW ?_|refine dB ?_)
  simp only [qDn,jE,tup,lk,Nat.reduceEqDiff,reduceIte,reduceCtorEq];exact ⟨Below.refl _ _,.inl ⟨.inr (by have:=u7 hB;omega),trivial⟩⟩
 have hB':=x8 hB
 (repeat first|refine aF ?_|refine zV ?_|refine aA ?_|refine zY ?_);refine bF (fun K hK=>?_);push_cast[qCw,hA,hB];refine hK _ _ ?_;clear hK K
 (repeat first|refine aF ?_|refine zV ?_|refine aA ?_|refine zY ?_)
 refine qCp rfl ?_
 (repeat first|refine aF ?_|refine zV ?_|refine aA ?_|refine zY ?_);refine bF (fun K hK=>?_);push_cast
 obtain ⟨w1,hr,ho,hb1,hlt⟩:=tF (P:=Tryz.prog) (w:=w0) (parts:=#[]) (len:=0) #[] zD8 (by omega) (by omega) (by kernel_rfl) rfl
 refine ⟨_,w1,hr,?_⟩;clear hr;refine v2s ?_;try push_cast
 refine hK _ _ ?_;clear hK K
 (repeat first|refine aF ?_|refine zV ?_|refine aA ?_|refine zY ?_);refine bF (fun K hK=>?_);push_cast
 refine ⟨yG7,Ret.mono (qNb w1 _ _ a b (by omega) (by omega) (ha0.up hb1) (hb0.up hb1)) ?_⟩
 rintro _ w2 ⟨g,n,cs,rfl,hn,hRg,hg,hT,hb2⟩
 have ho:=ho.up hb2
 have hB:=hb1.trans (hb2.mono hb1.size)
 refine v2s ?_;try push_cast[qSr]
 have hs0:=Blk.new w2 #[.int .i64 0,.slice none 0 0] 206
 have hgs:=hg.lt
 have hb3:=(Below.refl w2.heap.size w2).alloc (a7 _) (.cells #[.int .i64 0,.slice none 0 0] 206)
 have hg:=hg.up hb3
 have ho:=ho.up hb3
 have hB:=hB.trans (hb3.mono hB.size)
 generalize hw3:w2.alloc (.cells #[.int .i64 0,.slice none 0 0] 206)=w3 at *
 generalize hS:w2.heap.size=s at *
 obtain ⟨w4,hr,hs,ho4⟩:=qJ8 (P:=Tryz.prog) (ty:=206) (vs:=#[.int .i64 (b.length + 1:Nat),.slice (some ⟨g,0,none⟩) n n]) hs0 qAq (by simp [Value.oneCell']) rfl
 refine ⟨w4,hr,?_⟩
 have hg:=hg.only ho4 (by omega)
 refine v2s ?_;try push_cast
 refine hK _ _ ?_;clear hK K;clear hr
 have ho:=ho.only ho4 (by simp only [Value.ownBlock];intro e;injection e with e;omega)
 have hB:=ho4.below hB (by have:=hB.size;omega)
 have ha4:=ha0.up hB
 have hb4:=hb0.up hB
 generalize hR:w0.heap.size=R at *
 generalize hv0:Value.slice (some ⟨R,0,none⟩) 0 0=v0 at *
 obtain ⟨wd,hwd⟩:∃ wd,wd=b.length + 1:=⟨_,rfl⟩;rw [← hwd] at hs hT hn
 have hwl:wd=lb + 1:=by rw [hwd,hlb']
 have hn1:n=(la + 1) * wd:=by rw [hn,hla']
 have hn2:n≤401 * 401:=by rw [hn1];exact bDd (by omega) (by omega)
 have hm:maxLen ≥ 1000000:=by decide
 (repeat first|refine aF ?_|refine zV ?_|refine aA ?_|refine zY ?_);refine bF (fun K hK=>?_);push_cast;refine hK _ _ ?_;clear hK K
 (repeat first|refine aF ?_|refine zV ?_|refine aA ?_|refine zY ?_)
 refine eC ?_;refine oU (fun x:Nat × Nat × List (Nat × Nat) × Value=>[(0,.slice aa la ca),(1,.slice ab lb cb),(6,x.2.2.2),(7,.pointer (some ⟨s,0,none⟩)),(8,.int .i64 x.1),(9,.int .i64 x.2.1)])
  (fun x w=>x.1≤la∧x.2.1≤lb∧x.2.2.1.length≤x.1 + x.2.1∧(∀ r ∈ x.2.2.1,r.2≤x.1 + x.2.1)∧(steps (a.drop x.1) (b.drop x.2.1)).foldl fJ x.2.2.1=fX a b∧zFr w R x.2.2.2 x.2.2.1 ∧
   Blk w g cs 208∧Blk w s #[.int .i64 wd,.slice (some ⟨g,0,none⟩) n n] 206∧Below R w0 w) (fun x=>(la - x.1) + (lb - x.2.1)) [0,1,6,7,8,9] (0,0,[],v0) rfl
  ⟨g7 _,g7 _,a7 _,by simp,rfl,ho,hg,hs,hB⟩ ?_
 clear ho hg hs hB hb3 hs0 ho4 hw3 hlt hb1 hb2 ha4 hb4;rintro ⟨i,j,acc,v⟩ w ⟨hi,hj,hal,hac,hf,ho,hg,hs,hB⟩;simp only at hi hj hal hac hf ho
 have endI:decide ((i:Int) < la)=false→decide ((j:Int) < lb)=false→steps (a.drop i) (b.drop j)=[]:=fun h1 h2=>by
  have h1:=x8 h1
  have h2:=x8 h2
  exact qFt a b i j (by omega) (by omega)
 have g0:=hs.cell 0
 have g1:=hs.cell 1
 simp only [r8,q8,bA2] at g0 g1
 have cellA:i < la→∃ ba oa,aa=some ⟨ba,oa,none⟩∧w.cell? ⟨ba,oa + i,none⟩=some (.string (a.getD i ByteArray.empty)):=fun h=>by
  obtain ⟨ba,oa,h1,h2⟩:=ha3 (by omega)
  exact ⟨ba,oa,h1,dR (by rw [hR];exact hB) (h2 i (by omega))⟩
 have cellB:j < lb→∃ ba oa,ab=some ⟨ba,oa,none⟩∧w.cell? ⟨ba,oa + j,none⟩=some (.string (b.getD j ByteArray.empty)):=fun h=>by
  obtain ⟨ba,oa,h1,h2⟩:=hb3 (by omega)
  exact ⟨ba,oa,h1,dR (by rw [hR];exact hB) (h2 j (by omega))⟩
 refine qP7 (ι:=Unit) (fun _=>[(0,.slice aa la ca),(1,.slice ab lb cb),(6,v),(7,.pointer (some ⟨s,0,none⟩)),(8,.int .i64 i),(9,.int .i64 j)]) (fun _ w'=>w=w'∧(i < la∨j < lb)) [0,1,6,7,8,9] ?_ ?_
 ·cases hIA:decide ((i:Int) < (la:Int))
  ·(repeat first|refine aF ?_|refine zV ?_|refine aA ?_|refine zY ?_);refine bF (fun K hK=>?_);push_cast[qCw,hIA];refine hK _ _ ?_;clear hK K
   (repeat first|refine aF ?_|refine zV ?_|refine aA ?_|refine zY ?_)
   refine dZ rfl (fun hJB=>?_) (fun hJB=>?_)
   ·(repeat first|refine aF ?_|refine zV ?_|refine aA ?_|refine zY ?_)
    exact ⟨(),rfl,rfl,.inr (by have:=u7 hJB;omega)⟩
   ·(repeat first|refine yN ?_|refine yP ?_|refine yQ ?_|refine yR rfl ?_|refine yS ?_|refine zY ?_|refine aF ?_|refine zV ?_|refine aA ?_|refine bW ?_|refine dB ?_)
    (repeat first|refine aF ?_|refine zV ?_|refine aA ?_|refine zY ?_);refine bF (fun K hK=>?_);push_cast;refine hK _ _ ?_;clear hK K
    (repeat first|refine yN ?_|refine yP ?_|refine yQ ?_|refine yR rfl ?_|refine yS ?_|refine zY ?_|refine aF ?_|refine zV ?_|refine aA ?_|refine bW ?_|refine dB ?_)
    simp only [qDn,jE,tup,lk,Nat.reduceEqDiff,reduceIte,reduceCtorEq];refine ⟨hB,.inr ⟨by omega,by omega,v,rfl,?_⟩⟩
    rw [endI hIA hJB] at hf;rw [← hf];exact ho
  ·(repeat first|refine aF ?_|refine zV ?_|refine aA ?_|refine zY ?_);refine bF (fun K hK=>?_);push_cast[qCw,hIA];refine hK _ _ ?_;clear hK K
   (repeat first|refine aF ?_|refine zV ?_|refine aA ?_|refine zY ?_)
   refine qSn rfl ?_
   (repeat first|refine aF ?_|refine zV ?_|refine aA ?_|refine zY ?_)
   exact ⟨(),rfl,rfl,.inl (by have:=u7 hIA;omega)⟩
 rintro - w' ⟨rfl,hany⟩;refine eC ?_
 (repeat first|refine aF ?_|refine zV ?_|refine aA ?_|refine zY ?_);refine bF (fun K hK=>?_);push_cast;refine hK _ _ ?_;clear hK K
 refine zV ?_;refine qP7 (ι:=Nat) (fun op=>[(0,.slice aa la ca),(1,.slice ab lb cb),(6,v),(7,.pointer (some ⟨s,0,none⟩)),(8,.int .i64 i),(9,.int .i64 j),(10,.int .i64 op)])
  (fun op w'=>Below w.heap.size w w'∧op≤2∧(op≠2→i < la)∧(op≠1→j < lb)∧steps (a.drop i) (b.drop j)=op :: steps (a.drop (if op=2 then i else i + 1)) (b.drop (if op=1 then j else j + 1))) [0,1,6,7,8,9,10] ?_ ?_
 ·(repeat first|refine aF ?_|refine zV ?_|refine aA ?_|refine zY ?_)
  refine eC ?_
  cases hIA:decide ((i:Int) < (la:Int))
  ·have hil:=x8 hIA
   have hjl:j < lb:=by omega
   have hJE:decide ((j:Int)=(lb:Int))=false:=by simp;omega
   (repeat first|refine aF ?_|refine zV ?_|refine aA ?_|refine zY ?_);refine qFm [10,0,1,6,7,8,9] 22 mixed rfl (by kernel_rfl) (fun K hK=>?_);push_cast[qCw,kt9,hIA]
   intro w5 hw5;refine v2s ?_;try push_cast
   refine hK _ _ ?_;clear hK K;refine zV ?_;refine qCp rfl ?_;refine kB (l':=_) [10,0,1,6,7,8,9] (by simp only [keep,lk,Nat.reduceEqDiff,reduceIte];exact rfl) ?_
   (repeat first|refine aF ?_|refine zV ?_|refine aA ?_|refine zY ?_);refine qFm [10,0,1,6,7,8,9] 24 mixed rfl (by kernel_rfl) (fun K hK=>?_);push_cast[qCw,kt9,hIA,hJE]
   intro w6 hw6;refine v2s ?_;try push_cast
   refine hK _ _ ?_;clear hK K;refine zV ?_;refine qCp rfl ?_
   (repeat first|refine yN ?_|refine yP ?_|refine yQ ?_|refine yR rfl ?_|refine yS ?_|refine zY ?_|refine aF ?_|refine zV ?_|refine aA ?_|refine bW ?_|refine dB ?_)
   refine ⟨2,rfl,hw5.trans (hw6.mono hw5.size),by omega,by omega,fun _=>hjl,?_⟩
   rw [g8 rfl,b7 (by decide)]
   exact qQ a b i j (by omega) (.inl (by omega))
  ·have hil:i < la:=by have:=u7 hIA;omega
   obtain ⟨ba,oa,rfl,cA⟩:=cellA hil
   cases hJB:decide ((j:Int) < (lb:Int))
   ·have hJE:decide ((j:Int)=(lb:Int))=true:=by have:=x8 hJB;simp;omega
    (repeat first|refine aF ?_|refine zV ?_|refine aA ?_|refine zY ?_);refine qFm [10,0,1,6,7,8,9] 22 mixed rfl (by kernel_rfl) (fun K hK=>?_);push_cast[qCw,kt9,hIA,hJB]
    intro w5 hw5;refine v2s ?_;try push_cast
    refine hK _ _ ?_;clear hK K;refine zV ?_;refine qCp rfl ?_;refine kB (l':=_) [10,0,1,6,7,8,9] (by simp only [keep,lk,Nat.reduceEqDiff,reduceIte];exact rfl) ?_
    (repeat first|refine aF ?_|refine zV ?_|refine aA ?_|refine zY ?_);refine qFm [10,0,1,6,7,8,9] 24 mixed rfl (by kernel_rfl) (fun K hK=>?_);push_cast[qCw,kt9,hIA,hJE]
    intro w6 hw6;refine v2s ?_;try push_cast
    refine hK _ _ ?_;clear hK K;refine zV ?_;refine qSn rfl ?_
    (repeat first|refine aF ?_|refine zV ?_|refine aA ?_|refine zY ?_);refine bF (fun K hK=>?_);push_cast;refine hK _ _ ?_;clear hK K
    (repeat first|refine yN ?_|refine yP ?_|refine yQ ?_|refine yR rfl ?_|refine yS ?_|refine zY ?_|refine aF ?_|refine zV ?_|refine aA ?_|refine bW ?_|refine dB ?_)
    refine ⟨1,rfl,hw5.trans (hw6.mono hw5.size),by omega,fun _=>hil,by omega,?_⟩
    rw [g8 rfl,b7 (by decide)]
    exact oA a b i j (by omega) (.inl (by have:=x8 hJB;omega))
   ·have hjl:j < lb:=by have:=u7 hJB;omega
    have hJE:decide ((j:Int)=(lb:Int))=false:=by simp;omega
    obtain ⟨bb,ob,rfl,cB⟩:=cellB hjl
    have bA:(0:Int)≤i∧(i:Int) < la:=by omega
    have bB:(0:Int)≤j∧(j:Int) < lb:=by omega
    have ga:a.getD i ByteArray.empty=a[i]'(by omega):=by simp [b6,c9 (show i < a.length by omega)]
    have gb:b.getD j ByteArray.empty=b[j]'(by omega):=by simp [b6,c9 (show j < b.length by omega)]
    (repeat first|refine aF ?_|refine zV ?_|refine aA ?_|refine zY ?_);refine qFm [10,0,1,6,7,8,9] 22 mixed rfl (by kernel_rfl) (fun K hK=>?_);push_cast[qCw,kt9,hIA,hJB,cA,cB,bA,bB]
    intro w5 hw5;refine v2s ?_;try push_cast
    refine hK _ _ ?_;clear hK K;refine zV ?_;refine dZ rfl (fun he=>?_) (fun he=>?_)
    ·have he:a.getD i ByteArray.empty=b.getD j ByteArray.empty:=u7 he
     (repeat first|refine aF ?_|refine zV ?_|refine aA ?_|refine zY ?_);refine bF (fun K hK=>?_);push_cast;refine hK _ _ ?_;clear hK K
     (repeat first|refine yN ?_|refine yP ?_|refine yQ ?_|refine yR rfl ?_|refine yS ?_|refine zY ?_|refine aF ?_|refine zV ?_|refine aA ?_|refine bW ?_|refine dB ?_)
     refine ⟨0,rfl,hw5,by omega,fun _=>hil,fun _=>hjl,?_⟩
     rw [b7 (by decide),b7 (by decide)]
     exact qDa a b i j (by omega) (by omega) (by rw [← ga,← gb];exact he)
    ·have he:¬ a.getD i ByteArray.empty=b.getD j ByteArray.empty:=x8 he
     rw [ga,gb] at he;refine kB (l':=_) [10,0,1,6,7,8,9] (by simp only [keep,lk,Nat.reduceEqDiff,reduceIte];exact rfl) ?_
     have hg:=hg.up hw5
     have hs:=hs.up hw5
     obtain ⟨i1,hi1⟩:∃ i1,i1=i + 1:=⟨_,rfl⟩;obtain ⟨j1,hj1⟩:∃ j1,j1=j + 1:=⟨_,rfl⟩
     have f3:IntKind.i64.wrap ((i:Int) + 1)=(i1:Int):=by rw [gY (by omega) (by omega)];omega
     have f4:IntKind.i64.wrap ((j:Int) + 1)=(j1:Int):=by rw [gY (by omega) (by omega)];omega
     have near:∀ x y,x≤la→y < wd→w5.cell? ⟨g,x * wd + y,none⟩=some (.int .i16 (at2 a b x y)):=fun x y hx hy=>by
      rw [hg.cell];exact hT.2 x y (by omega) hy (by omega)
     have bound:∀ x y,x≤la→y < wd→x * wd + y < n:=fun x y hx hy=>by rw [hn1];exact qLo hy (by omega)
     (repeat first|refine aF ?_|refine zV ?_|refine aA ?_|refine zY ?_);refine qFm [10,0,1,6,7,8,9] 24 mixed rfl (by kernel_rfl) (fun K hK=>?_);push_cast[qCw,kt9,qAq,hIA,hJE,f3,f4]
     refine ⟨_,hs.cells rfl,?_⟩;refine vqs ?_;try push_cast[f3,f4]
     refine ⟨qWq,_,pP (fun w' hw'=>qA8 w' g n wd i1 j _ (by omega) (by omega) (by omega) (by omega) (bound i1 j (by omega) (by omega)) (dR hw' (near i1 j (by omega) (by omega)))),?_⟩
     refine vqs ?_;try push_cast[qAq]
     refine ⟨_,hs.cells rfl,?_⟩;refine vqs ?_;try push_cast[f3,f4]
     refine ⟨qWq,_,pP (fun w' hw'=>qA8 w' g n wd i j1 _ (by omega) (by omega) (by omega) (by omega) (bound i j1 (by omega) (by omega)) (dR hw' (near i j1 (by omega) (by omega)))),?_⟩
     refine vqs ?_;try push_cast
     intro w6 hw6;refine v2s ?_;try push_cast
     refine hK _ _ ?_;clear hK K;refine zV ?_;refine dZ rfl (fun hc=>?_) (fun hc=>?_)
     ·have hc:=u7 hc
      (repeat first|refine aF ?_|refine zV ?_|refine aA ?_|refine zY ?_);refine bF (fun K hK=>?_);push_cast;refine hK _ _ ?_;clear hK K
      (repeat first|refine yN ?_|refine yP ?_|refine yQ ?_|refine yR rfl ?_|refine yS ?_|refine zY ?_|refine aF ?_|refine zV ?_|refine aA ?_|refine bW ?_|refine dB ?_)
      refine ⟨1,rfl,hw5.trans (hw6.mono hw5.size),by omega,fun _=>hil,fun _=>hjl,?_⟩
      rw [g8 rfl,b7 (by decide)]
      exact oA a b i j (by omega) (.inr ⟨by omega,he,by subst hi1;subst hj1;omega⟩)
     ·have hc:=x8 hc
      (repeat first|refine yN ?_|refine yP ?_|refine yQ ?_|refine yR rfl ?_|refine yS ?_|refine zY ?_|refine aF ?_|refine zV ?_|refine aA ?_|refine bW ?_|refine dB ?_)
      refine ⟨2,rfl,hw5.trans (hw6.mono hw5.size),by omega,by omega,fun _=>hjl,?_⟩
      rw [g8 rfl,b7 (by decide)]
      exact qQ a b i j (by omega) (.inr ⟨by omega,he,by subst hi1;subst hj1;omega⟩)
 rintro op wA ⟨hbA,hop,hoi,hoj,hst⟩
 have ho:=ho.up hbA
 have hg:=hg.up hbA
 have hs:=hs.up hbA
 have hB:=hB.trans (hbA.mono (by rw [← hR];exact hB.size))
 clear hbA g0 g1 cellA cellB;obtain ⟨ni,hni⟩:∃ ni,ni=if op=2 then i else i + 1:=⟨_,rfl⟩
 obtain ⟨nj,hnj⟩:∃ nj,nj=if op=1 then j else j + 1:=⟨_,rfl⟩
 rw [← hni,← hnj] at hst;rw [hst,bAu] at hf
 have bi:ni≤la∧i≤ni∧ni≤i + 1:=by split at hni <;> omega
 have bj:nj≤lb∧j≤nj∧nj≤j + 1:=by split at hnj <;> omega
 have bij:i + j + 1≤ni + nj:=by split at hni <;> split at hnj <;> omega
 have f3:IntKind.i64.wrap ((i:Int) + 1)=(i:Int) + 1:=by rw [gY (by omega) (by omega)]
 have f4:IntKind.i64.wrap ((j:Int) + 1)=(j:Int) + 1:=by rw [gY (by omega) (by omega)]
 refine qP7 (ι:=Unit) (fun _=>[(0,.slice aa la ca),(1,.slice ab lb cb),(6,v),(7,.pointer (some ⟨s,0,none⟩)),(8,.int .i64 ni),(9,.int .i64 j),(10,.int .i64 op)]) (fun _ w'=>wA=w') [0,1,6,7,8,9,10] ?_ ?_
 ·(repeat first|refine aF ?_|refine zV ?_|refine aA ?_|refine zY ?_);refine bF (fun K hK=>?_);push_cast;refine hK _ _ ?_;clear hK K
  (repeat first|refine aF ?_|refine zV ?_|refine aA ?_|refine zY ?_)
  refine dZ rfl (fun h=>?_) (fun h=>?_)
  ·have e:(ni:Int)=(i:Int) + 1:=by
    have h:¬ op=2:=by simp at h;omega
    rw [hni,b7 h];simp
   rw [e]
   (repeat first|refine aF ?_|refine zV ?_|refine aA ?_|refine zY ?_);refine bF (fun K hK=>?_);push_cast[f3];refine hK _ _ ?_;clear hK K
   exact ⟨(),rfl,rfl⟩
  ·have e:ni=i:=by
    have h:op=2:=by simp at h;omega
    rw [hni,g8 h]
   rw [e]
   (repeat first|refine aF ?_|refine zV ?_|refine aA ?_|refine zY ?_)
   exact ⟨(),rfl,rfl⟩
 rintro - _ rfl;refine qP7 (ι:=Unit) (fun _=>[(0,.slice aa la ca),(1,.slice ab lb cb),(6,v),(7,.pointer (some ⟨s,0,none⟩)),(8,.int .i64 ni),(9,.int .i64 nj),(10,.int .i64 op)]) (fun _ w'=>wA=w') [0,1,6,7,8,9,10] ?_ ?_
 ·(repeat first|refine aF ?_|refine zV ?_|refine aA ?_|refine zY ?_);refine bF (fun K hK=>?_);push_cast;refine hK _ _ ?_;clear hK K
  (repeat first|refine aF ?_|refine zV ?_|refine aA ?_|refine zY ?_)
  refine dZ rfl (fun h=>?_) (fun h=>?_)
  ·have e:(nj:Int)=(j:Int) + 1:=by
    have h:¬ op=1:=by simp at h;omega
    rw [hnj,b7 h];simp
   rw [e]
   (repeat first|refine aF ?_|refine zV ?_|refine aA ?_|refine zY ?_);refine bF (fun K hK=>?_);push_cast[f4];refine hK _ _ ?_;clear hK K
   exact ⟨(),rfl,rfl⟩
  ·have e:nj=j:=by
    have h:op=1:=by simp at h;omega
    rw [hnj,g8 h]
   rw [e]
   (repeat first|refine aF ?_|refine zV ?_|refine aA ?_|refine zY ?_)
   exact ⟨(),rfl,rfl⟩
 rintro - _ rfl;obtain ⟨ad,cap,rfl,hcell⟩:=Own.form ho;obtain ⟨n0,hn0⟩:∃ n0,n0=acc.length:=⟨_,rfl⟩;rw [← hn0] at hcell;rw [← hn0]
 (repeat first|refine aF ?_|refine zV ?_|refine aA ?_|refine zY ?_);refine bF (fun K hK=>?_);push_cast[qNk];refine hK _ _ ?_;clear hK K
 refine qP7 (ι:=Bool) (fun z=>[(0,.slice aa la ca),(1,.slice ab lb cb),(6,.slice ad n0 cap),(7,.pointer (some ⟨s,0,none⟩)),(8,.int .i64 ni),(9,.int .i64 nj),(10,.int .i64 op),(11,.int .i64 n0),(101,.bool z)])
  (fun z w'=>wA=w'∧(z=true→∃ acc' c,acc=acc' ++ [(op,c)])∧(z=false→fJ acc op=acc ++ [(op,1)])) [0,1,6,7,8,9,10,11,101] ?_ ?_
 ·cases hpos:decide ((0:Int) < (n0:Int))
  ·(repeat first|refine aF ?_|refine zV ?_|refine aA ?_|refine zY ?_);refine bF (fun K hK=>?_);push_cast[qNk,hpos];refine hK _ _ ?_;clear hK K
   refine ⟨false,rfl,rfl,by simp,fun _=>?_⟩
   have h0:acc.length=0:=by have:=x8 hpos;omega
   rw [o5 h0];rfl
  ·have hp:0 < n0:=by have:=u7 hpos;omega
   obtain ⟨gg,rfl,hgg1,hgg2,hcell⟩:=hcell hp
   rcases bBp acc with rfl|⟨acc',⟨o,c⟩,hacc⟩
   ·simp at hn0;omega
   rw [bBq] at hacc
   have hk:n0=acc'.length + 1:=by rw [hn0,hacc];simp
   obtain ⟨k,hkk⟩:∃ k,k=acc'.length:=⟨_,rfl⟩
   have e7:IntKind.i64.wrap ((n0:Int) - 1)=(k:Int):=by rw [gY (by omega) (by omega)];omega
   have bk:(0:Int)≤k∧(k:Int) < n0:=by omega
   have hc0:=hcell (k * 2) (.int .i64 o) (by
    have:=(qDp acc k (by omega)).1
    rw [this];simp [hacc,hkk])
   (repeat first|refine aF ?_|refine zV ?_|refine aA ?_|refine zY ?_);refine bF (fun K hK=>?_);push_cast[qNk,hpos,e7,bk,yGp,kt3,hc0]
   refine hK _ _ ?_;clear hK K;refine ⟨_,rfl,rfl,fun hz=>?_,fun hz=>?_⟩
   ·have hz:=u7 hz
    exact ⟨acc',c,by rw [hacc];congr 3;omega⟩
   ·have hz:=x8 hz
    rw [hacc,qFl,b7 (by omega)];simp
 rintro z _ ⟨rfl,hzt,hzf⟩;refine dZ rfl (fun hz=>?_) (fun hz=>?_)
 ·obtain ⟨acc',c,rfl⟩:=hzt hz;obtain ⟨k,hkk⟩:∃ k,k=acc'.length:=⟨_,rfl⟩
  have hk:n0=k + 1:=by rw [hn0,hkk];simp
  obtain ⟨gg,rfl,hgg1,hgg2,hcell⟩:=hcell (by omega)
  have e7:IntKind.i64.wrap ((n0:Int) - 1)=(k:Int):=by rw [gY (by omega) (by omega)];omega
  have bk:(0:Int)≤k∧(k:Int) < n0:=by omega
  have hcb:=hac (op,c) (by simp)
  simp only at hcb
  have e8:IntKind.i64.wrap ((c:Int) + 1)=(c:Int) + 1:=gY (by omega) (by omega)
  have hc1:=hcell (k * 2 + 1) (.int .i64 c) (by
   have:=(qDp (acc' ++ [(op,c)]) k (by rw [← hn0];omega)).2
   rw [this];simp [hkk])
  rw [← hn0] at ho;obtain ⟨wB,hr,ho',hon⟩:=zHh (P:=Tryz.prog) (ty:=3) (i:=k * 2 + 1) (u:=.int .i64 ((c:Int) + 1)) ho kt3 rfl (by omega)
  have hng:=Own.ne_blk ho hg (by decide)
  have hns:=Own.ne_blk ho hs (by decide)
  simp only [Value.ownBlock] at hng hns
  (repeat first|refine aF ?_|refine zV ?_|refine aA ?_|refine zY ?_);refine bF (fun K hK=>?_);push_cast[qNk,e7,bk,yGo,kt3,hc1,e8]
  refine ⟨wB,hr,?_⟩;refine v2s ?_;try push_cast
  refine hK _ _ ?_;clear hK K;clear hr
  (repeat first|refine yN ?_|refine yP ?_|refine yQ ?_|refine yR rfl ?_|refine yS ?_|refine zY ?_|refine aF ?_|refine zV ?_|refine aA ?_|refine bW ?_|refine dB ?_)
  have hl:(acc' ++ [(op,c + 1)]).length=n0:=by rw [hn0];simp
  refine ⟨(ni,nj,acc' ++ [(op,c + 1)],.slice (some ⟨gg,0,none⟩) n0 cap),rfl,⟨bi.1,bj.1,?_,?_,?_,?_,hg.only hon (fun e=>hng (by rw [e])),hs.only hon (fun e=>hns (by rw [e])),hon.below hB hgg1⟩,?_⟩
  ·show (acc' ++ [(op,c + 1)]).length≤ni + nj
   rw [hl,hn0];omega
  ·intro r hr;show r.2≤ni + nj
   rcases m8.1 hr with h|h
   ·have:=hac r (m8.2 (.inl h));omega
   ·have:=q6.1 h
    subst this;show c + 1≤_;omega
  ·show List.foldl fJ (acc' ++ [(op,c + 1)]) _=_
   rw [qFl,g8 rfl] at hf;exact hf
  ·show Own wB R 193 2 _ (acc' ++ [(op,c + 1)]).length (lC (acc' ++ [(op,c + 1)]))
   rw [hl,← qWf acc' op c (c + 1),← hkk];exact ho'
  ·show (la - ni) + (lb - nj) < (la - i) + (lb - j)
   omega
 ·replace hzf:=hzf hz
  (repeat first|refine aF ?_|refine zV ?_|refine aA ?_|refine zY ?_);refine bF (fun K hK=>?_);push_cast[qNk]
  refine ⟨_,zZk _ _,?_⟩;refine v2s ?_;try push_cast
  obtain ⟨wB,hr,hoB,hbB,hltB⟩:=tF (P:=Tryz.prog) (w:=wA) (len:=1) #[.int .i64 op,.int .i64 1] zD8 (by omega) (by omega) (yGr op 1) rfl
  refine ⟨_,wB,hr,?_⟩;clear hr;refine v2s ?_;try push_cast
  obtain ⟨ad1,cap1,had1,hcell1⟩:=Own.form hoB;obtain ⟨gl,rfl,-,-,hcell1⟩:=hcell1 (by omega)
  injection had1 with h1 h2 h3
  injection h1 with h1
  injection h1 with h1
  subst h1
  have hoA:=ho.up hbB
  have hgA:=hg.up hbB
  have hsA:=hs.up hbB
  have hBA:=hB.trans (hbB.mono (by rw [← hR];exact hB.size))
  rw [← hn0] at ho hoA
  have hRs:R≤wB.heap.size:=by have:=hBA.size;omega
  obtain ⟨v',wC,hr,hoC,hgr⟩:=qK0 (P:=Tryz.prog) (ty:=189) zD8 rfl (by omega) hoA ⟨wA.heap.size,0,none⟩ 1 1 [.int .i64 op,.int .i64 1] rfl (fun j u hu=>by rw [y8,s7];exact hcell1 j u hu) (by simp [Value.oneCell']) (by omega) (by omega) hRs
  refine ⟨v',wC,hr,?_⟩;clear hr;refine v2s ?_;try push_cast
  refine hK _ _ ?_;clear hK K
  (repeat first|refine yN ?_|refine yP ?_|refine yQ ?_|refine yR rfl ?_|refine yS ?_|refine zY ?_|refine aF ?_|refine zV ?_|refine aA ?_|refine bW ?_|refine dB ?_)
  have hl:(acc ++ [(op,1)]).length=n0 + 1:=by rw [hn0];simp
  refine ⟨(ni,nj,acc ++ [(op,1)],v'),rfl,⟨bi.1,bj.1,?_,?_,?_,?_,qPp hgA hgr (Own.ne_blk hoA hgA (by decide)),qPp hsA hgr (Own.ne_blk hoA hsA (by decide)),qV5 hBA hgr hRs (fun k hk=>Own.base_le hoA k hk)⟩,?_⟩
  ·show (acc ++ [(op,1)]).length≤ni + nj
   rw [hl,hn0];omega
  ·intro r hr;show r.2≤ni + nj
   rcases m8.1 hr with h|h
   ·have:=hac r h;omega
   ·have:=q6.1 h
    subst this;show 1≤_;omega
  ·show List.foldl fJ (acc ++ [(op,1)]) _=_
   rw [hzf] at hf;exact hf
  ·show Own wC R 193 2 _ (acc ++ [(op,1)]).length (lC (acc ++ [(op,1)]))
   rw [hl,qDq];exact hoC
  ·show (la - ni) + (lb - nj) < (la - i) + (lb - j)
   omega
end Go.Proofs.Y
namespace Go.DiffM
variable {α:Type} [DecidableEq α]
def jY (l:List (Nat × Nat)):List Nat:=l.flatMap fun r=>List.replicate r.2 r.1
theorem pM (r:Nat × Nat) (l:List (Nat × Nat)):jY (r :: l)=List.replicate r.2 r.1 ++ jY l:=by simp [jY]
inductive Fine:List (Nat × Nat)→Prop
|nil:Fine []
|one (o n):1≤n→Fine [(o,n)]
|cons (o n p m t):1≤n→o≠p→Fine ((p,m) :: t)→Fine ((o,n) :: (p,m) :: t)
theorem qR9 {l:List (Nat × Nat)} (h:Fine l) (op:Nat):Fine (fJ l op)∧jY (fJ l op)=jY l ++ [op]∧(∀ o n t,l=(o,n) :: t→∃ n' t',fJ l op=(o,n') :: t'):=by
 induction h with
|nil=>exact ⟨.one _ _ (by omega),by simp [fJ,jY],fun _ _ _ h=>by cases h⟩
|one o n hn =>
  by_cases he:o=op
  ·subst he;rw [fJ,g8 rfl];refine ⟨.one _ _ (by omega),?_,fun o' n' t h=>by cases h;exact ⟨_,_,rfl⟩⟩
   simp [jY,bD3]
  ·rw [fJ,b7 he];exact ⟨.cons _ _ _ _ _ hn he (.one _ _ (by omega)),by simp [jY],fun o' n' t h=>by cases h;exact ⟨_,_,rfl⟩⟩
|cons o n p m t hn hne ht ih =>
  rw [fJ];obtain ⟨h1,h2,h3⟩:=ih;obtain ⟨n',t',e⟩:=h3 p m t rfl;rw [e] at h1 h2 ⊢;refine ⟨.cons _ _ _ _ _ hn hne h1,?_,fun o' n'' t'' h=>by cases h;exact ⟨_,_,rfl⟩⟩
  rw [pM,h2,pM (o,n) ((p,m) :: t),u6]
theorem zC2 (l:List Nat):∀ (acc:List (Nat × Nat)),Fine acc→Fine (l.foldl fJ acc)∧jY (l.foldl fJ acc)=jY acc ++ l:=by
 induction l with
|nil=>intro acc h;exact ⟨h,by simp⟩
|cons x t ih =>
  intro acc h;obtain ⟨h1,h2,-⟩:=qR9 h x;obtain ⟨h3,h4⟩:=ih _ h1;exact ⟨h3,by rw [bAu,h4,h2];simp⟩
theorem qHe (a b:List α):Fine (fX a b)∧jY (fX a b)=steps a b:=by
 have:=zC2 (steps a b) [] .nil
 simpa [fX,zNn,jY] using this
theorem Fine.tail {r:Nat × Nat} {l:List (Nat × Nat)} (h:Fine (r :: l)):Fine l:=by
 cases h with
|one=>exact .nil
|cons _ _ _ _ _ _ _ h=>exact h
theorem Fine.head {r:Nat × Nat} {l:List (Nat × Nat)} (h:Fine (r :: l)):1≤r.2:=by
 cases h with
|one _ _ h=>exact h
|cons _ _ _ _ _ h _ _=>exact h
theorem Fine.drop {l:List (Nat × Nat)} (h:Fine l):∀ k,Fine (l.drop k)
|0=>by simpa using h
|k + 1=>by
  have ih:=Fine.drop h k
  by_cases hk:k < l.length
  ·rw [l4 hk] at ih;exact ih.tail
  ·rw [u0 (by omega)];exact .nil
theorem Fine.next {l:List (Nat × Nat)} (h:Fine l) (k:Nat) (hk:k + 1 < l.length):l[k].1≠l[k + 1].1:=by
 have:=Fine.drop h k
 rw [l4 (by omega),l4 hk] at this
 cases hh:l[k] with
|mk o n =>
  cases hh2:l[k + 1] with
 |mk p m =>
   rw [hh,hh2] at this
   cases this with
  |cons _ _ _ _ _ _ h _=>exact h
theorem zF9 (a b:List α) (i j op:Nat) (rest:List Nat) (h:steps (a.drop i) (b.drop j)=op :: rest) :
  (op=0∧∃ (hi:i < a.length) (hj:j < b.length),a[i]=b[j]∧rest=steps (a.drop (i + 1)) (b.drop (j + 1)))∨(op=1∧i < a.length∧rest=steps (a.drop (i + 1)) (b.drop j))∨(op=2∧j < b.length∧rest=steps (a.drop i) (b.drop (j + 1))):=by
 by_cases hi:i < a.length
 ·by_cases hj:j < b.length
  ·by_cases he:a[i]=b[j]
   ·rw [qDa a b i j hi hj he] at h
    cases h
    exact .inl ⟨rfl,hi,hj,he,rfl⟩
   ·by_cases hc:at2 a b i (j + 1)≤at2 a b (i + 1) j
    ·rw [oA a b i j hi (.inr ⟨hj,he,hc⟩)] at h
     cases h
     exact .inr (.inl ⟨rfl,hi,rfl⟩)
    ·rw [qQ a b i j hj (.inr ⟨hi,he,by omega⟩)] at h
     cases h
     exact .inr (.inr ⟨rfl,hj,rfl⟩)
  ·rw [oA a b i j hi (.inl (by omega))] at h
   cases h
   exact .inr (.inl ⟨rfl,hi,rfl⟩)
 ·by_cases hj:j < b.length
  ·rw [qQ a b i j hj (.inl (by omega))] at h
   cases h
   exact .inr (.inr ⟨rfl,hj,rfl⟩)
  ·rw [qFt a b i j (by omega) (by omega)] at h
   cases h
theorem mK:∀ (n:Nat) (a b:List α),a.length + b.length≤n→(steps a b).length≤a.length + b.length
|n,[],[],_=>by simp [steps]
|0,x :: xs,_,h=>by simp at h
|0,_,y :: ys,h=>by simp at h
|n + 1,x :: xs,[],h=>by
  have:=mK n xs [] (by simp at h ⊢;omega)
  rw [steps];simp at this ⊢;omega
|n + 1,[],y :: ys,h=>by
  have:=mK n [] ys (by simp at h ⊢;omega)
  rw [steps];simp at this ⊢;omega
|n + 1,x :: xs,y :: ys,h=>by
  simp only [i6] at h
  have h1:=mK n xs ys (by omega)
  have h2:=mK n xs (y :: ys) (by simp only [i6];omega)
  have h3:=mK n (x :: xs) ys (by simp only [i6];omega)
  rw [steps];simp only [i6] at *
  split
  ·simp only [i6];omega
  ·split <;> simp only [i6] <;> omega
theorem Fine.len {l:List (Nat × Nat)} (h:Fine l):l.length≤(jY l).length:=by
 induction h with
|nil=>simp
|one o n hn=>simp [jY];omega
|cons o n p m t hn hne ht ih=>rw [pM];simp at ih ⊢;omega
theorem zC4 {l:List (Nat × Nat)} (k:Nat) (hk:k < l.length):l[k].2≤(jY l).length:=by
 induction l generalizing k with
|nil=>simp at hk
|cons r t ih =>
  rw [pM]
  cases k with
 |zero=>simp
 |succ k=>have:=ih k (by simpa using hk);simp at this ⊢;omega
theorem qYg (a b:List α):(fX a b).length≤a.length + b.length∧∀ k (hk:k < (fX a b).length),(fX a b)[k].2≤a.length + b.length:=by
 obtain ⟨h1,h2⟩:=qHe a b
 have h3:=mK _ a b (a7 _)
 rw [← h2] at h3;exact ⟨l5 h1.len h3,fun k hk=>l5 (zC4 k hk) h3⟩
end Go.DiffM
namespace Go.Proofs.Y
open Go Go.Eng Go.RowKit Go.DiffM
def zE8 (r:Nat × Nat):List FV:=[.v (.int .i64 r.1),.v (.int .i64 r.2)]
def qAd (l:List (Nat × Nat)):List (List FV):=l.map zE8
def wS (l:List (Nat × Nat)):(qAd l).length=l.length:=by simp [qAd]
def zLy {l:List (Nat × Nat)} {i:Nat} {d:List FV} (h:i < l.length):(qAd l).getD i d=[.v (.int .i64 (l[i].1:Nat)),.v (.int .i64 (l[i].2:Nat))]:=by unfold qAd;rw [fQ h];rfl
def zG0 {w:World} {v:Value} {fr:Bool} {a:List Ba} {A:Nat→Prop} {n0:Nat} (h:RepF w A n0 v (.lst fr (aR a))):SlS w v a:=by
  cases h with
 |lst sz vals hn hc hm hnil hsz ha h1 hr =>
  rw [aJ] at hn;subst hn;refine ⟨_,_,rfl,hc,hm,fun h0=>?_⟩
  obtain ⟨b,off,rfl,-,-,-,hcell⟩:=ha h0;refine ⟨b,off,rfl,fun j hj=>?_⟩
  have hj':j < a.length:=by omega
  have hsz1:sz=1:=by rw [← hsz _ (c7 (show 0 < (aR a).length by rw [aJ];omega))];simp [aR,uJ]
  subst hsz1
  have:=hcell j 0 hj' (by omega)
  simp only [bCm,bAy] at this;rw [this]
  have hr':=hr j 0 (by rw [aJ];exact hj') (by simp [aR,uJ])
  simp only [aR,d9,uJ,l6] at hr'
  have e:vals j 0=.string a[j]:=by
    generalize vals j 0=u at hr'
    cases hr';rfl
  rw [e];simp [b6,hj']
def qTw {w:World} {v:Value} {fr:Bool} {a:List Ba} {A:Nat→Prop} {n0:Nat} {ρ:Nat→Value} (h:RepH w A n0 ρ v (.lst fr (aR a))):SlS w v a:=by
  cases h with
 |lst h=>exact zG0 h
def zNl (a b : List Ba) : HFun Tryz.prog 150 [.lst false (aR a), .lst false (aR b)] (fun h st =>
    (400 < a.length∨400 < b.length)∧h=.tup [.v (.slice none 0 0),.v (.int .i64 4)]∧st=[] ∨
    a.length≤400∧b.length≤400∧h=.tup [.own 0,.v (.int .i64 0)]∧st=[(0,.sl true 193 2 (qAd (fX a b)))]):=by
  intro w vs R;obtain ⟨v1,v2,rfl⟩:∃ v1 v2,vs=[v1,v2]:=by
    match vs,R.1 with
   |[x,y],_=>exact ⟨x,y,rfl⟩
  refine Ret.mono (qQ1 w v1 v2 a b (qTw (R.2 0 (by simp) (by simp))) (qTw (R.2 1 (by simp) (by simp)))) fun v w' ⟨B,h⟩=>⟨B,?_⟩
  rcases h with ⟨h1,rfl⟩|⟨h1,h2,x,rfl,hE⟩
  · refine ⟨_,_,fun i r hi=>?_,.inl ⟨h1,rfl,rfl⟩,fun _=>undef,fun _=>[],⟨fun id r hr=>by simp [rlk] at hr,fun i j r s b hne hi=>by simp [rlk] at hi,fun k x hk=>by simp [hlk] at hk,⟨B.os,B.tape,B.output,B.size,fun b hlt _=>B.block b hlt⟩,fun b hb=>⟨hb,fun h=>h⟩⟩,?_⟩
    · simp [rlk] at hi
    · exact .tup rfl fun j p q => by
        match j,q with
       |0,_=>exact .v _
       |1,_=>exact .v _
  · obtain ⟨ρ, xs, G, hρ⟩ := zEb (P := Tryz.prog) (els := qAd (fX a b)) B (show Own w' w.heap.size 193 2 x (qAd (fX a b)).length (lC (fX a b)) by rw [wS]; exact hE) (fun y hy => by
      obtain ⟨r,-,rfl⟩:=m6.1 hy;rfl) (fun i k hi hk=>by
      rw [wS] at hi
      have h1:=qDp (fX a b) i hi
      have hk':k < 2:=by simpa [qAd,zE8] using hk
      have:k=0∨k=1:=by omega
      rcases this with rfl|rfl
      · exact ⟨_,h1.1,rfl,by simp [qAd,zE8]⟩
      · exact ⟨_,h1.2,rfl,by simp [qAd,zE8]⟩)
    refine ⟨_,_,fun i r hi=>?_,.inr ⟨h1,h2,rfl,rfl⟩,ρ,xs,G,?_⟩
    · simp only [rlk] at hi
      split at hi
      · omega
      · cases hi
    · refine .tup rfl fun j p q=>?_
      match j,q with
     |0,_ =>
        have hs:x.oneCell'=true:=by obtain ⟨a,c,e⟩:=cW (base:=w.heap.size) hE;rw [e];rfl
        have:=RepH.own (w:=w') (A:=Ctx.A (cx w (fun _=>False) (fun b=>b < w.heap.size)) ρ [(0,.sl true 193 2 (qAd (fX a b)))]) (n0:=w.heap.size) (ρ:=ρ) 0 (by rw [hρ];exact hs)
        rw [hρ] at this;exact this
     |1,_=>exact .v _
def tP:List (Nat × Nat)→Nat→Nat→List (Int × Int)
 |[],_,_=>[]
 |(op,n) :: r,i,j=>if op=0 then (List.range n).map (fun (k:Nat)=>(((i + k:Nat):Int),((j + k:Nat):Int))) ++ tP r (i + n) (j + n) else if op=1 then tP r (i + n) j else if op=2 then tP r i (j + n) else tP r i j
def qPh (a b:List Ba):List (Int × Int):=tP (fX a b) 0 0
abbrev yAe (l:List (Nat × Nat)):Row:=.sl true 193 2 (qAd l)
abbrev vD (l:List (Int × Int)):Row:=.sl true 165 2 (mT l)
def yCb (a b : List Ba) : HFun Tryz.prog 127 [.lst false (aR a), .lst false (aR b)] (fun h st =>
    (400 < a.length∨400 < b.length)∧h=.tup [.v (.slice none 0 0),.v (.int .i64 4)]∧st=[] ∨
    a.length≤400∧b.length≤400∧h=.tup [.own 0,.v (.int .i64 0)]∧st=[(0,vD (qPh a b))]):=by
  refine bP (N:=72) Tryz.func127 rfl Tryz.ntmps127 Tryz.results127 (by simp) ?_
  refine goA 5 ?_;push_cast;refine zMg 136 yHa (zNl a b) (.cons (aD (aU _)) (.cons (aD (aU _)) .nil)) ?_;rintro _ _ (⟨hlim,rfl,rfl⟩|⟨h1,h2,rfl,rfl⟩)
  · push_cast;refine goA 5 ?_;push_cast
    exact lU (.inl ⟨hlim,rfl,rfl⟩)
  · push_cast[wS];refine goA 9 ?_;push_cast[wS]
    obtain ⟨hlen,hcnt⟩:=qYg a b
    have hd:qPh a b=[] ++ tP ((fX a b).drop 0) 0 0:=rfl
    generalize fX a b=l at *
    have hcnt:∀ k (hk:k < l.length),l[k].2≤800:=fun k hk=>by have:=hcnt k hk;omega
    have hlen:l.length≤800:=by omega
    generalize qPh a b=P at *
    refine goL (fun x:Nat × Nat × Nat × List (Int × Int)=>⟨[(8,.own 184),(9,.v (.int .i64 x.2.1)),(10,.v (.int .i64 x.2.2.1)),(24,.own 136),(25,.v (.int .i64 l.length)),(26,.v (.int .i64 x.1))],[(136,yAe l),(184,vD x.2.2.2)]⟩)
      (fun x=>x.1≤l.length∧x.2.1≤x.1 * 800∧x.2.2.1≤x.1 * 800∧x.2.2.2.length≤x.1 * 800∧P=x.2.2.2 ++ tP (l.drop x.1) x.2.1 x.2.2.1) (fun x=>l.length - x.1) [8,9,10,24,25,26] [136,184] (0,0,0,[]) rfl
      ⟨g7 _,g7 _,g7 _,g7 _,hd⟩ ?_
    rintro ⟨n,i,j,out⟩ ⟨hn,hi,hj,ho,hP⟩;simp only at hn hi hj ho hP;refine goA 3 ?_;push_cast;refine tR (fun hlt=>?_) (fun hge=>?_)
    · have hnl:n < l.length:=by simpa using hlt
      have hc:=hcnt n hnl
      rw [l4 hnl] at hP;obtain ⟨op,c,hx⟩:∃ op c,l[n]=(op,c):=⟨l[n].1,l[n].2,rfl⟩;rw [hx] at hP hc;simp only at hc;refine goA 5 ?_;push_cast(disch:=omega)[wS,zLy,hx]
      by_cases o0:op=0
      · subst o0
        refine goA 5 ?_;push_cast;refine goP [8,9,10,12,24,25,26,35,36] [96,136,184] ?_;refine goL (fun x:Nat × List (Int × Int)=>⟨[(8,.own 184),(9,.v (.int .i64 i)),(10,.v (.int .i64 j)),(12,.ptr 96 2 0 0),(24,.own 136),(25,.v (.int .i64 l.length)),(26,.v (.int .i64 n)),(35,.v (.int .i64 c)),(36,.v (.int .i64 x.1))],[(96,.bx true 193 [.v (.int .i64 (0:Nat)),.v (.int .i64 c)]),(136,yAe l),(184,vD x.2)]⟩)
          (fun x=>x.1≤c∧x.2=out ++ (List.range x.1).map (fun (k:Nat)=>(((i + k:Nat):Int),((j + k:Nat):Int)))) (fun x=>c - x.1) [8,9,10,12,24,25,26,35,36] [96,136,184] (0,out) rfl
          ⟨g7 _,by simp⟩ ?_
        rintro ⟨k,out'⟩ ⟨hk,hout⟩;simp only at hk hout
        have hol:out'.length≤640000 + 800:=by rw [hout];simp;omega
        refine goA 3 ?_;push_cast;refine tR (fun hlt2=>?_) (fun hge2=>?_)
        · have hkc:k < c:=by simpa using hlt2
          refine goA 7 ?_;push_cast(disch:=omega)[oK,qLn];refine ⟨(k + 1,out' ++ [((i:Int) + (k:Int),(j:Int) + (k:Int))]),rfl,⟨hkc,?_⟩,by show c - (k + 1) < c - k;omega⟩
          rw [hout,List.range_succ,d6,u6];rfl
        · have hkc : k = c := by have : c ≤ k := by simpa using hge2
                                 omega
          subst hkc;refine goA 7 ?_;push_cast(disch:=omega);refine ⟨(n + 1,i + k,j + k,out'),rfl,⟨hnl,by show i + k≤(n + 1) * 800;omega,by show j + k≤(n + 1) * 800;omega,by show out'.length≤(n + 1) * 800;rw [hout];simp;omega,?_⟩,by show l.length - (n + 1) < l.length - n;omega⟩
          rw [hP,tP,g8 rfl,hout,u6]
      · refine goA 3 ?_;push_cast(disch:=omega)
        by_cases o1:op=1
        · subst o1
          refine goA 7 ?_;push_cast(disch:=omega);refine ⟨(n + 1,i + c,j,out),rfl,⟨hnl,by show i + c≤(n + 1) * 800;omega,by show j≤(n + 1) * 800;omega,by show out.length≤(n + 1) * 800;omega,?_⟩,by show l.length - (n + 1) < l.length - n;omega⟩
          rw [hP,tP,b7 (by omega),g8 rfl]
        · refine goA 3 ?_;push_cast(disch:=omega)
          by_cases o2:op=2
          · subst o2
            refine goA 7 ?_;push_cast(disch:=omega);refine ⟨(n + 1,i,j + c,out),rfl,⟨hnl,by show i≤(n + 1) * 800;omega,by show j + c≤(n + 1) * 800;omega,by show out.length≤(n + 1) * 800;omega,?_⟩,by show l.length - (n + 1) < l.length - n;omega⟩
            rw [hP,tP,b7 (by omega),b7 (by omega),g8 rfl]
          · refine goA 5 ?_;push_cast(disch:=omega)
            refine ⟨(n + 1,i,j,out),rfl,⟨hnl,by show i≤(n + 1) * 800;omega,by show j≤(n + 1) * 800;omega,by show out.length≤(n + 1) * 800;omega,?_⟩,by show l.length - (n + 1) < l.length - n;omega⟩
            rw [hP,tP,b7 o0,b7 o1,b7 o2]
    · have hge' : n = l.length := by have : l.length ≤ n := by simpa using hge
                                     omega
      subst hge';refine goA 3 ?_;push_cast(disch:=omega);refine gX rfl (qHn _) (.inr ⟨h1,h2,rfl,?_⟩);rw [hP,u0 (a7 _),tP,x4]
def msk (n:Nat) (h:n≤100000):bits .and .u64 (n:Int) 4294967295=(n:Int):=by
 have e:=bits_and_u64_nat n 4294967295 (by omega) (by omega)
 have e2:n &&& 4294967295=n % 4294967296:=Nat.and_two_pow_sub_one_eq_mod n 32
 rw [e2] at e;rw [show ((4294967295:Nat):Int)=4294967295 from rfl] at e
 rw [e];omega
def yJz:bits .and .u64 1 4294967295=1:=by have:=msk 1 (by omega);simpa using this
def yJy:bits .and .u64 0 4294967295=0:=by have:=msk 0 (by omega);simpa using this
def yAy (n:Nat) (h:n≤100000):(n:Int).fdiv (2 ^ (min 32 (IntKind.bits .u64)))=0:=by
 have:(2:Int) ^ (min 32 (IntKind.bits .u64))=4294967296:=by decide
 rw [this,Int.fdiv_eq_ediv_of_nonneg _ (by omega)];omega
def wu (n:Nat) (h:n≤100000):IntKind.u64.wrap (n:Int)=(n:Int):=by rw [IntKind.wrap_u64];omega
def zWp (n:Nat) (h:n≤100000):HFun Tryz.prog 163 [.v (.int .u64 1),.v (.int .u64 n)] (fun h st=>h=.tup [.v (.int .u64 0),.v (.int .u64 n)]):=by
 refine bP (N:=51) Tryz.func163 rfl Tryz.ntmps163 Tryz.results163 (by simp) ?_
 have w1:=wu n h
 have w0:IntKind.u64.wrap 0=0:=wu 0 (by omega)
 have m1:=msk n h
 have s1:=yAy n h
 have s0:(0:Int).fdiv (2 ^ (min 32 (IntKind.bits .u64)))=0:=yAy 0 (by omega)
 have s2:(1:Int).fdiv (2 ^ (min 32 (IntKind.bits .u64)))=0:=yAy 1 (by omega)
 refine goA 25 ?_;push_cast[yJz,s2,m1,s1,w1,Int.one_mul,w0,Int.zero_mul,Int.add_zero,yJy,s0,Int.mul_zero];(repeat ((with_reducible refine bJa ?_ ?_);focus first|omega|decide))
 exact lU rfl
def yFx (n:Nat) (h:n≤100000):HFun Tryz.prog 151 [.v (.int .u64 1),.v (.int .u64 n)] (fun h st=>h=.tup [.v (.int .u64 0),.v (.int .u64 n)]):=by
 refine bP (N:=30) Tryz.func151 rfl Tryz.ntmps151 Tryz.results151 (by simp) ?_
 refine goA 7 ?_;push_cast;refine qH8 (xs:=[.int .u64 0,.int .u64 n]) yG6 (zWp n h) (.cons (.v _) (.cons (.v _) .nil)) ?_;with_reducible refine aS ?_;push_cast
 exact lU rfl
def rp (c:Int) (n bp:Nat):List (List FV):=List.replicate bp [.v (.int .i64 c)] ++ List.replicate (n - bp) [.v (.int .i64 0)]
def qQ3 {c:Int} {n bp:Nat} (h:bp≤n):(rp c n bp).length=n:=by simp [rp];omega
def zUz {c:Int} {n bp m:Nat} (h:m≤bp):(rp c n bp).take m=List.replicate m [.v (.int .i64 c)]:=by
 rw [rp,bD1 (by simpa using h),List.take_replicate,bBo h]
def qNy {c:Int} {n bp m:Nat} (h:bp + m≤n) (q:Nat) (hq:q=bp∨q=bp + m):splice (rp c n q) bp (List.replicate m [.v (.int .i64 c)])=rp c n (bp + m):=by
 apply bBx
 intro j;rw [dQ _ _ _ (by rw [qQ3 (by omega)];simpa using h)]
 simp only [z7];unfold rp;simp only [List.getElem?_append,z7,List.getElem?_replicate]
 rcases hq with rfl|rfl
 all_goals
  repeat' split
  all_goals first|rfl|omega
def rpS (c:Int) (n bp:Nat):HS:=⟨[(7,.own 240),(8,.v (.int .i64 bp))],[(240,.sl true 3 1 (rp c n bp))]⟩
def zNv (c:Int) (n:Nat) (h:n≤100000):HFun Tryz.prog 128 [.lst false (fN [c]),.v (.int .i64 n)] (fun h st=>h=.own 0∧st=[(0,.sl true 3 1 (fN (List.replicate n c)))]):=by
 refine bP (N:=48) Tryz.func128 rfl Tryz.ntmps128 Tryz.results128 (by simp) ?_
 have w1:=wu n h
 have e1:IntKind.u64.wrap ((fN [c]).length:Int)=1:=by rw [dJ];exact wu 1 (by omega)
 have e2:IntKind.u64.wrap (n:Int)=(n:Int):=wu n h
 refine goA 7 ?_;push_cast(disch:=omega);(repeat ((with_reducible refine bJa ?_ ?_);focus first|omega|decide))
 rw [e1,e2];refine qH8 (xs:=[.int .u64 0,.int .u64 n]) yG9 (yFx n h) (.cons (.v _) (.cons (.v _) .nil)) ?_
 have e3:IntKind.i64.wrap (n:Int)=(n:Int):=by rw [IntKind.wrap_i64];omega
 with_reducible refine aS ?_;push_cast[e3];refine goA 5 ?_;push_cast(disch:=omega)[e3];(repeat ((with_reducible refine bJa ?_ ?_);focus first|omega|decide))
 refine ⟨by unfold cE maxLen;omega,?_⟩
 refine goP [0,7] [240] ?_
 have f0:cpy (List.replicate n [FV.v (.int .i64 0)]) 0 (fN [c]) n=rp c n (min 1 n):=by
  have e:(fN [c]).take n=List.replicate (min 1 n) [FV.v (.int .i64 c)]:=by
   rcases n with _|n
   ·rfl
   ·simp [fN,qRv]
  rw [cpy,e]
  have:=qNy (c:=c) (n:=n) (bp:=0) (m:=min 1 n) (by omega) 0 (.inl rfl)
  simpa [rp] using this
 have f1:cpn (fN [c]) n=min 1 n:=by rw [cpn,dJ];rfl
 obtain ⟨m0,hm0⟩:∃ m0,m0=min 1 n:=⟨_,rfl⟩;rw [← hm0] at f0 f1;refine goA 3 ?_;push_cast(disch:=omega)[eW,z7,f0,f1];(repeat ((with_reducible refine bJa ?_ ?_);focus first|omega|decide))
 refine goL (rpS c n) (fun bp=>bp≤n∧(0 < n→0 < bp)) (fun bp=>n - bp) [7,8] [240] m0 (by push_cast[rpS] <;> rfl) ⟨by omega,by omega⟩ ?_
 rintro bp ⟨hb,hp⟩;simp only [rpS]
 by_cases hlt:bp < n
 ·have hl:=qQ3 (c:=c) hb
  refine goA 3 ?_;push_cast(disch:=omega)[hl];obtain ⟨m,hm⟩:∃ m,m=min bp (n - bp):=⟨_,rfl⟩
  have again:∀ q,q=bp∨q=bp + m→cpy (rp c n q) bp ((rp c n q).take bp) (n - bp)=rp c n (bp + m):=fun q hq=>by
   rw [cpy,zUz (by omega),List.take_replicate,Nat.min_comm,← hm]
   exact qNy (by omega) q hq
  have hl2:(rp c n (bp + m)).length=n:=qQ3 (by omega)
  have f2:cpn ((rp c n bp).take bp) (n - bp)=m:=by rw [cpn,l7,hl];omega
  have f3:cpn ((rp c n (bp + m)).take bp) (n - bp)=m:=by rw [cpn,l7,hl2];omega
  refine fT 8 [(7,none)] [[(240,.sl true 3 1 (rp c n bp))],[(240,.sl true 3 1 (rp c n (bp + m)))]] [(3,0,0),(6,0,0)] mixed (by kernel_rfl) (by kernel_rfl) rfl (fun K hK K1 hK1=>?_);push_cast(disch:=omega)[hl,t8,again bp (.inl rfl),f2]
  refine hK1 _ ?_;(try clear hK1 K1);with_reducible refine aS ?_;push_cast(disch:=omega)
  refine hK _ ?_;clear hK K;refine goK 1 ?_;push_cast;refine ⟨bp + m,?_,⟨by omega,by omega⟩,by omega⟩
  push_cast[rpS] <;> rfl
 ·have hbn:bp=n:=by omega
  subst hbn
  have hl:=qQ3 (c:=c) hb
  refine goA 5 ?_;push_cast(disch:=omega)[hl]
  have e9:rp c bp bp=fN (List.replicate bp c):=by simp [rp,fN,qRv]
  rw [e9];exact iQ rfl (xT _) ⟨rfl,rfl⟩
end Go.Proofs.Y
namespace Go.DiffM
section
variable {α:Type} [DecidableEq α]
def knS:List Nat→Nat→Nat→List (Nat × Nat)
|[],_,_=>[]
|x :: r,i,j=>(if x=0 then [(i,j)] else []) ++ knS r (if x=2 then i else i + 1) (if x=1 then j else j + 1)
def kn (a b:List α):List (Nat × Nat):=knS (steps a b) 0 0
end
section
variable {α:Type}
def KN (a b:List α):List (Nat × Nat)→Nat→Nat→Prop
|[],_,_=>True
|(p,q) :: r,i,j=>i≤p∧j≤q∧(∃ (h1:p < a.length) (h2:q < b.length),a[p]=b[q])∧KN a b r (p + 1) (q + 1)
theorem KN.low {a b:List α}:∀ {l:List (Nat × Nat)} {i j i' j':Nat},KN a b l i j→i'≤i→j'≤j→KN a b l i' j'
|[],_,_,_,_,_,_,_=>trivial
|(p,q) :: r,i,j,i',j',⟨h1,h2,h3,h4⟩,hi,hj=>⟨by omega,by omega,h3,h4⟩
theorem KN.len {a b:List α}:∀ {l:List (Nat × Nat)} {i j:Nat},KN a b l i j→l.length≤a.length - i
|[],_,_,_=>g7 _
|(x,y) :: r,i,j,⟨h1,h2,⟨h3,h4,_⟩,h5⟩=>by
  have:=h5.len
  simp only [i6];omega
theorem KN.mem {a b:List α}:∀ {l:List (Nat × Nat)} {i j:Nat},KN a b l i j→∀ p ∈ l,i≤p.1∧j≤p.2∧p.1 < a.length∧p.2 < b.length
|[],_,_,_,p,hp=>by simp at hp
|(x,y) :: r,i,j,⟨h1,h2,⟨h3,h4,_⟩,h5⟩,p,hp=>by
  rcases l3.1 hp with rfl|hp
  ·exact ⟨h1,h2,h3,h4⟩
  ·have:=h5.mem p hp;exact ⟨by omega,by omega,this.2.2.1,this.2.2.2⟩
end
section
variable {α:Type} [DecidableEq α]
theorem qRt (a b:List α):∀ (L:List Nat) (i j:Nat),L=steps (a.drop i) (b.drop j)→KN a b (knS L i j) i j
|[],_,_,_=>trivial
|op :: rest,i,j,h=>by
  rcases zF9 a b i j op rest h.symm with ⟨rfl,hi,hj,he,hr⟩|⟨rfl,hi,hr⟩|⟨rfl,hj,hr⟩
  ·rw [knS,g8 rfl,b7 (by omega),b7 (by omega)]
   exact ⟨a7 _,a7 _,⟨hi,hj,he⟩,qRt a b rest _ _ hr⟩
  ·rw [knS,b7 (by omega),b7 (by omega),g8 rfl]
   exact (qRt a b rest _ _ hr).low (by omega) (by omega)
  ·rw [knS,b7 (by omega),g8 rfl,b7 (by omega)]
   exact (qRt a b rest _ _ hr).low (by omega) (by omega)
theorem pJ (a b:List α):KN a b (kn a b) 0 0:=qRt a b _ 0 0 (by simp)
def plc (n:Nat) (l:List (Nat × Nat)):List Int:=l.foldl (fun (o:List Int) (p:Nat × Nat)=>o.set p.1 (p.2:Int)) (List.replicate n (-1))
def look:List (Nat × Nat)→Nat→Option Nat
|[],_=>none
|(p,q) :: r,i=>if p=i then some q else look r i
def qAa (l:List (Nat × Nat)) (i:Nat):Int:=match look l i with|some q=>q|none=>-1
theorem qPf {l:List (Nat × Nat)} {i:Nat} (h:∀ p ∈ l,p.1≠i):look l i=none:=by
 induction l with
|nil=>rfl
|cons x r ih =>
  obtain ⟨p,q⟩:=x;rw [look,b7 (h (p,q) (by simp)),ih fun y hy=>h y (by simp [hy])]
end
section
variable {α:Type}
theorem zEf {a b:List α} (n:Nat):∀ (l:List (Nat × Nat)) (i j:Nat) (o:List Int),KN a b l i j→o.length=n→∀ k,k < n→(l.foldl (fun (o:List Int) (p:Nat × Nat)=>o.set p.1 (p.2:Int)) o)[k]?=some (match look l k with|some q=>(q:Int)|none=>o.getD k (-1))
|[],_,_,o,_,ho,k,hk=>by simp [look,b6,c9 (show k < o.length by omega)]
|(p,q) :: r,i,j,o,⟨h1,h2,⟨h3,h4,_⟩,h5⟩,ho,k,hk=>by
  rw [bAu,zEf n r _ _ _ h5 (by rw [bAi,ho]) k hk]
  rw [look]
  by_cases e:p=k
  ·subst e;rw [g8 rfl,qPf (fun y hy=>by have:=(h5.mem y hy).1;omega)]
   simp [b6,bCe,ho,hk]
  ·rw [b7 e];simp [b6,bCe,e]
theorem qRe (n:Nat) (l:List (Nat × Nat)):(plc n l).length=n:=by
 have:∀ (l:List (Nat × Nat)) (o:List Int),(l.foldl (fun (o:List Int) (p:Nat × Nat)=>o.set p.1 (p.2:Int)) o).length=o.length:=by
  intro l
  induction l with
 |nil=>intro o;rfl
 |cons x r ih=>intro o;rw [bAu,ih,bAi]
 rw [plc,this,z7]
end
section
variable {α:Type} [DecidableEq α]
theorem zPd (o a:List α) (k:Nat) (hk:k < o.length):(plc o.length (kn o a))[k]'(by rw [qRe];exact hk)=qAa (kn o a) k:=by
 have:=zEf o.length (kn o a) 0 0 (List.replicate o.length (-1)) (pJ o a) (by simp) k hk
 have h2:(plc o.length (kn o a))[k]?=_:=this
 rw [c9 (by rw [qRe];exact hk)] at h2
 simp only [a6] at h2;rw [h2,qAa];split <;> simp [b6,hk]
end
def zP7 {l:List (Nat × Nat)} {i q:Nat} (h:look l i=some q):(i,q) ∈ l:=by
 induction l with
|nil=>simp [look] at h
|cons x r ih =>
  obtain ⟨p,y⟩:=x;rw [look] at h
  by_cases e:p=i
  ·rw [g8 e] at h;cases h;subst e;exact bAz ..
  ·rw [b7 e] at h;exact u9 _ (ih h)
section
variable {α:Type}
structure Ck (α:Type) where
 st:Bool
 b:List α
 l:List α
 r:List α
structure Cu (α:Type) where
 i:Nat
 j:Nat
 k:Nat
 out:List (Ck α)
def pS (cs:List (Ck α)) (s:α):List (Ck α):=match cs.getLast? with
|some c=>if c.st then cs.dropLast ++ [⟨true,c.b ++ [s],c.l ++ [s],c.r ++ [s]⟩] else cs ++ [⟨true,[s],[s],[s]⟩]
|none=>[⟨true,[s],[s],[s]⟩]
def kM (o a b:List α) (u:Cu α) (i j k:Nat):Cu α :=
 ⟨i,j,k,if u.i < i∨u.j < j∨u.k < k then u.out ++ [⟨false,(o.take i).drop u.i,(a.take j).drop u.j,(b.take k).drop u.k⟩] else u.out⟩
def qXx (s:α) (u:Cu α):Cu α:=⟨u.i + 1,u.j + 1,u.k + 1,pS u.out s⟩
def tri (x y:List (Nat × Nat)):List (Nat × Nat × Nat):=x.flatMap fun p=>(y.filter fun q=>p.1 == q.1).map fun q=>(p.1,p.2,q.2)
variable [Inhabited α]
def chT (o a b:List α):List (Nat × Nat × Nat)→Cu α→Cu α
|[],u=>u
|(i,j,k) :: r,u=>chT o a b r (qXx (o.getD i default) (kM o a b u i j k))
def chI (o a b:List α) (x y:List (Nat × Nat)):Nat→Nat→Cu α→Cu α
|0,_,u=>u
|n + 1,i,u=>chI o a b x y n (i + 1) (match look x i,look y i with
 |some j,some k=>qXx (o.getD i default) (kM o a b u i j k)
 |_,_=>u)
end
section
variable {α:Type} [DecidableEq α] [Inhabited α]
def lD (o a b:List α):List (Ck α):=(kM o a b (chT o a b (tri (kn o a) (kn o b)) ⟨0,0,0,[]⟩) o.length a.length b.length).out
end
section
variable {α:Type} {o a b:List α}
theorem zE3 {p i k:Nat} {y:List (Nat × Nat)} (hy:KN o b y i k) (h:p < i):(y.filter fun z=>p == z.1)=[]:=by
 refine bB1.2 fun z hz=>?_
 have:=(hy.mem z hz).1
 simp;omega
theorem zM8 {p q i k:Nat} {x y:List (Nat × Nat)} (hy:KN o b y i k) (h:p < i):tri ((p,q) :: x) y=tri x y:=by
 rw [tri,s9];dsimp only;rw [zE3 hy h];rfl
theorem qJc {p q i j:Nat}:∀ {x y:List (Nat × Nat)} (hx:KN o a x i j) (h:p < i),tri x ((p,q) :: y)=tri x y
|[],y,_,_=>rfl
|(s,t) :: r,y,⟨h1,h2,h3,h4⟩,h=>by
  have ih:=qJc (y:=y) (q:=q) h4 (show p < s + 1 by omega)
  unfold tri at ih ⊢;rw [s9,s9,ih]
  congr 2
  rw [List.filter_cons_of_neg (by simp;omega)]
theorem zM9 {p q q2 j k:Nat} {x y:List (Nat × Nat)} (hx:KN o a x (p + 1) j) (hy:KN o b y (p + 1) k):tri ((p,q) :: x) ((p,q2) :: y)=(p,q,q2) :: tri x y:=by
 have:=qJc (y:=y) (q:=q2) hx (bCq p)
 unfold tri at this ⊢;rw [s9,this];rw [List.filter_cons_of_pos (by simp),zE3 hy (bCq p)];rfl
variable [Inhabited α]
theorem qFf (x y:List (Nat × Nat)):∀ (n i:Nat) (x' y':List (Nat × Nat)) (j k:Nat) (u:Cu α),(∀ m,i≤m→look x m=look x' m)→(∀ m,i≤m→look y m=look y' m)→KN o a x' i j→KN o b y' i k→i + n=o.length →
  chI o a b x y n i u=chT o a b (tri x' y') u
|0,i,x',y',j,k,u,lx,ly,hx,hy,hn=>by
  cases x' with
 |nil=>rfl
 |cons p r=>obtain ⟨p,q⟩:=p;obtain ⟨h1,h2,⟨h3,h4,_⟩,h5⟩:=hx;omega
|n + 1,i,x',y',j,k,u,lx,ly,hx,hy,hn=>by
  have nl:∀ {c:List α} {z:List (Nat × Nat)} {j:Nat},KN o c z (i + 1) j→look z i=none:=fun hz=>qPf fun p hp=>by have:=(hz.mem p hp).1;omega
  have up:∀ {c:List α} {z:List (Nat × Nat)} {j:Nat},KN o c z i j→(∃ q r,z=(i,q) :: r∧KN o c r (i + 1) (q + 1))∨KN o c z (i + 1) j:=fun {c z j} hz=>by
   cases z with
  |nil=>exact .inr trivial
  |cons p r =>
    obtain ⟨p,q⟩:=p;obtain ⟨h1,h2,h3,h4⟩:=hz
    by_cases e:p=i
    ·subst e;exact .inl ⟨q,r,rfl,h4⟩
    ·exact .inr ⟨by omega,h2,h3,h4⟩
  have sk:∀ {q m:Nat} {r:List (Nat × Nat)},i + 1≤m→look ((i,q) :: r) m=look r m:=fun {q m r} hm=>by rw [look,b7 (by omega)]
  rw [chI,lx i (a7 _),ly i (a7 _)]
  rcases up hx with ⟨q,r,rfl,h1⟩|h1
  ·rcases up hy with ⟨q2,s,rfl,h2⟩|h2
   ·rw [zM9 h1 h2,chT];simp only [look,bBm];exact qFf x y n (i + 1) r s _ _ _ (fun m hm=>(lx m (by omega)).trans (sk hm)) (fun m hm=>(ly m (by omega)).trans (sk hm)) h1 h2 (by omega)
   ·rw [zM8 h2 (bCq i),nl h2];simp only [look,bBm];exact qFf x y n (i + 1) r y' _ _ _ (fun m hm=>(lx m (by omega)).trans (sk hm)) (fun m hm=>ly m (by omega)) h1 h2 (by omega)
  ·rw [nl h1]
   rcases up hy with ⟨q2,s,rfl,h2⟩|h2
   ·rw [qJc h1 (bCq i)];exact qFf x y n (i + 1) x' s _ _ _ (fun m hm=>lx m (by omega)) (fun m hm=>(ly m (by omega)).trans (sk hm)) h1 h2 (by omega)
   ·exact qFf x y n (i + 1) x' y' _ _ _ (fun m hm=>lx m (by omega)) (fun m hm=>ly m (by omega)) h1 h2 (by omega)
end
section
variable {α:Type} {o a b:List α}
theorem look_ok {l:List (Nat × Nat)} {i j m q:Nat} (h:KN a b l i j) (e:look l m=some q):i≤m∧j≤q∧m < a.length∧q < b.length:=h.mem _ (zP7 e)
theorem zEo:∀ {l:List (Nat × Nat)} {i j:Nat},KN a b l i j→∀ {m m' q q':Nat},look l m=some q→look l m'=some q'→m < m'→q < q'
|[],_,_,_,m,m',q,q',h,_,_=>by simp [look] at h
|(x,y) :: r,i,j,⟨h1,h2,h3,h4⟩,m,m',q,q',h,h',hm=>by
  rw [look] at h h'
  by_cases e:x=m
  ·rw [g8 e] at h;rw [b7 (by omega)] at h'
   simp only [a6] at h
   have:=(look_ok h4 h').2.1
   omega
  ·rw [b7 e] at h
   by_cases e':x=m'
   ·have:=(look_ok h4 h).1;omega
   ·rw [b7 e'] at h';exact zEo h4 h h' hm
structure Nxt (x:List (Nat × Nat)) (n j lim:Nat):Prop where
 low:∀ m q,n≤m→look x m=some q→j≤q
 lt:∀ m q,look x m=some q→q < lim
 le:j≤lim
theorem Nxt.one {x:List (Nat × Nat)} {n j lim:Nat} (h:Nxt x n j lim):Nxt x (n + 1) j lim:=⟨fun m q hm e=>h.low m q (by omega) e,h.lt,h.le⟩
theorem Nxt.step {x:List (Nat × Nat)} {n j lim q i k:Nat} (h:Nxt x n j lim) (hk:KN o a x i k) (e:look x n=some q):Nxt x (n + 1) (q + 1) lim :=
 ⟨fun m q' hm e'=>zEo hk e e' (by omega),h.lt,h.lt n q e⟩
theorem Nxt.init {x:List (Nat × Nat)} (h:KN o a x 0 0):Nxt x 0 0 a.length:=⟨fun _ _ _ _=>g7 _,fun m q e=>(look_ok h e).2.2.2,g7 _⟩
end
end Go.DiffM
namespace Go.Proofs.Y
open Go Go.Eng Go.RowKit Go.DiffM
def mS:List Nat→Nat→Nat→List (Int × Int)
|[],_,_=>[]
|x :: r,i,j=>(if x=0 then [((i:Int),(j:Int))] else []) ++ mS r (if x=2 then i else i + 1) (if x=1 then j else j + 1)
def qP {α:Type} [DecidableEq α]:∀ (n:Nat) (a b:List α),a.length + b.length≤n→∀ x ∈ steps a b,x≤2
|_,[],[],_=>by simp [steps]
|0,x :: xs,_,h=>by simp at h
|0,[],y :: ys,h=>by simp at h
|n + 1,x :: xs,[],h=>by
  simp only [i6] at h
  have:=qP n xs [] (by omega)
  rw [steps];intro z hz;rcases l3.1 hz with rfl|hz
  ·omega
  ·exact this z hz
|n + 1,[],y :: ys,h=>by
  simp only [i6] at h
  have:=qP n [] ys (by omega)
  rw [steps];intro z hz;rcases l3.1 hz with rfl|hz
  ·omega
  ·exact this z hz
|n + 1,x :: xs,y :: ys,h=>by
  simp only [i6] at h
  have h1:=qP n xs ys (by omega)
  have h2:=qP n xs (y :: ys) (by simp only [i6];omega)
  have h3:=qP n (x :: xs) ys (by simp only [i6];omega)
  rw [steps];split
  ·intro z hz;rcases l3.1 hz with rfl|hz
   ·omega
   ·exact h1 z hz
  ·split
   ·intro z hz;rcases l3.1 hz with rfl|hz
    ·omega
    ·exact h2 z hz
   ·intro z hz;rcases l3.1 hz with rfl|hz
    ·omega
    ·exact h3 z hz
def qLl (l:List Nat):∀ (n i j:Nat),mS (List.replicate n 0 ++ l) i j=(List.range n).map (fun (k:Nat)=>(((i + k:Nat):Int),((j + k:Nat):Int))) ++ mS l (i + n) (j + n)
|0,i,j=>by simp
|n + 1,i,j=>by
  rw [bCn,u5,mS,g8 rfl,b7 (by omega),b7 (by omega),qLl l n,List.range_succ_eq_map,d8,bAm]
  simp only [bAy,u5,u4,Function.comp_def]
  congr 1
  congr 1
  ·apply x7;intro k _;simp only [Nat.succ_eq_add_one,n5];omega
  ·congr 1 <;> omega
def qLk (l:List Nat):∀ (n i j:Nat),mS (List.replicate n 1 ++ l) i j=mS l (i + n) j
|0,i,j=>by simp
|n + 1,i,j=>by
  rw [bCn,u5,mS,b7 (by omega),b7 (by omega),g8 rfl,qLk l n,u4]
  congr 1;omega
def qLj (l:List Nat):∀ (n i j:Nat),mS (List.replicate n 2 ++ l) i j=mS l i (j + n)
|0,i,j=>by simp
|n + 1,i,j=>by
  rw [bCn,u5,mS,b7 (by omega),g8 rfl,b7 (by omega),qLj l n,u4]
  congr 1;omega
def qEn:∀ (l:List (Nat × Nat)) (i j:Nat),Fine l→(∀ x ∈ jY l,x≤2)→mS (jY l) i j=tP l i j
|[],_,_,_,_=>rfl
|(op,n) :: r,i,j,hf,h=>by
  rw [pM] at h ⊢
  have hn:=hf.head
  have hop:op≤2:=h op (by simp;left;simp only at hn;omega)
  have ih:=fun i j=>qEn r i j hf.tail (fun x hx=>h x (by simp [hx]))
  rw [tP]
  have:op=0∨op=1∨op=2:=by omega
  rcases this with rfl|rfl|rfl
  ·rw [qLl,ih];rfl
  ·rw [qLk,ih];rfl
  ·rw [qLj,ih];rfl
def zEu (a b:List Ba):mS (steps a b) 0 0=qPh a b:=by
 obtain ⟨h1,h2⟩:=qHe a b;rw [← h2];exact qEn _ 0 0 h1 (by rw [h2];exact qP _ a b (a7 _))
def rM (p:Nat × Nat):Int × Int:=((p.1:Int),(p.2:Int))
def qU9:∀ (s:List Nat) (i j:Nat),mS s i j=(knS s i j).map rM
|[],_,_=>rfl
|x :: r,i,j=>by
  rw [mS,knS,qU9 r,d6]
  congr 1
  split <;> rfl
def qLm (a b:List Ba):qPh a b=(kn a b).map rM:=by rw [← zEu,kn,qU9]
def zJp (l:List Int) (i:Nat) (x:Int):(fN l).set i [.v (.int .i64 x)]=fN (l.set i x):=by simp [fN,List.map_set,qRv]
abbrev zGq (l:List Int):Row:=.sl true 3 1 (fN l)
def jJ (o a:List Ba):List Int:=plc o.length (kn o a)
def qBy (o a:List Ba):(jJ o a).length=o.length:=qRe _ _
def qUi (o a:List Ba) (ho:o.length≤400) (ha:a.length≤400):HFun Tryz.prog 91 [.lst false (aR o),.lst false (aR a)] (fun h st =>
  h=.tup [.own 0,.v (.int .i64 0)]∧st=[(0,zGq (jJ o a))]):=by
 refine bP (N:=38) Tryz.func91 rfl Tryz.ntmps91 Tryz.results91 (by simp) ?_
 refine goA 5 ?_;push_cast;refine zMg 112 yHe (yCb o a) (.cons (aD (aU _)) (.cons (aD (aU _)) .nil)) ?_;rintro _ _ (⟨hlim,rfl,rfl⟩|⟨-,-,rfl,rfl⟩)
 ·omega
 rw [qLm];push_cast;refine goA 3 ?_;push_cast;refine goP [0,6] [112] ?_
 have e1:[[FV.v (.int .i64 (-1))]]=fN [-1]:=rfl
 refine goA 5 ?_;push_cast[e1,aJ];refine cUt 184 yHd (zNv (-1) o.length (by omega)) (.cons (eH (zQs _) rfl) (.cons (.v _) .nil)) ?_
 push_cast[oK,c8]
 have hmem:=(pJ o a).mem
 have hLl:(kn o a).length≤400:=by have:=(pJ o a).len;omega
 have hd:jJ o a=((kn o a).drop 0).foldl (fun (o:List Int) (p:Nat × Nat)=>o.set p.1 (p.2:Int)) (List.replicate o.length (-1)):=rfl
 generalize jJ o a=P at *
 generalize kn o a=L at *
 refine goL (fun x:Nat × List Int=>⟨[(8,.own 184),(24,.own 112),(25,.v (.int .i64 L.length)),(26,.v (.int .i64 x.1))],[(112,vD (L.map rM)),(184,zGq x.2)]⟩)
  (fun x=>x.1≤L.length∧x.2.length=o.length∧P=(L.drop x.1).foldl (fun (o:List Int) (p:Nat × Nat)=>o.set p.1 (p.2:Int)) x.2) (fun x=>L.length - x.1) [8,24,25,26] [112,184] (0,List.replicate o.length (-1)) rfl ⟨g7 _,by simp,hd⟩ ?_
 rintro ⟨n,out⟩ ⟨hn,hl,hP⟩;simp only at hn hl hP
 by_cases hlt:n < L.length
 ·obtain ⟨p,q,hpq⟩:∃ p q,L[n]=(p,q):=⟨L[n].1,L[n].2,rfl⟩
  have hp:=(hmem (p,q) (hpq ▸ c7 hlt)).2.2.1
  rw [l4 hlt,hpq,bAu] at hP
  have hlm:n < (L.map rM).length:=by rw [c8];exact hlt
  have hge:(L.map rM)[n]=((p:Int),(q:Int)):=by rw [d9,hpq];rfl
  have hll:(mT (L.map rM)).length=L.length:=by rw [oK,c8]
  have hil:(fN out).length=o.length:=by rw [dJ,hl]
  refine goA 9 ?_;push_cast(disch:=omega)[hll,qV,qGg hlm,hge,hil,zJp,eW,eX,hl];(repeat ((with_reducible refine bJa ?_ ?_);focus first|omega|decide))
  exact ⟨(n + 1,out.set p q),rfl,⟨hlt,by simpa using hl,hP⟩,by dsimp only;omega⟩
 ·have hne:n=L.length:=by omega
  subst hne
  have hll:(mT (L.map rM)).length=L.length:=by rw [oK,c8]
  rw [bD0,List.foldl_nil] at hP;refine goA 5 ?_;push_cast(disch:=omega)[hll];exact gX rfl (xT _) ⟨rfl,by rw [hP]⟩
end Go.Proofs.Y
namespace Go.Proofs.Y
open Go Go.Eng Go.RowKit
def qSc (a:List Ba) (ha:a.length≤1000000000000):HFun Tryz.prog 129 [.lst false (aR a)] (fun h st=>h=.own 0∧st=[(0,.sl true 9 1 (aR a))]):=by
 intro w vs R;obtain ⟨v,rfl⟩:∃ v,vs=[v]:=by
  match vs,R.1 with
 |[v],_=>exact ⟨v,rfl⟩
 have hv:=R.2 0 (by simp) (by simp)
 simp only [l6] at hv
 cases hv with
|lst hF =>
 cases hF with
|lst sz vals hn hc hm hnil hsz hadd h1 hr =>
 rename_i ad n cap
 have hn':a.length=n:=by rw [← hn,aJ]
 subst hn'
 have fin:∀ {v':Value} {w':World} {l:List Value},Own w' w.heap.size 9 1 v' a.length l→Below w.heap.size w w'→(∀ i (hi:i < a.length),l[i]?=some (.string a[i])) →
   Below w.heap.size w w'∧∃ h st',(∀ i r,rlk st' i=some r→i < 8)∧(h=.own 0∧st'=[(0,Row.sl true 9 1 (aR a))])∧InvV (cx w (fun _=>False) (fun b=>b < w.heap.size)) ⟨[],st'⟩ h v' (fun _=>none) w':=by
  intro v' w' l hO hB hl;obtain ⟨ρ,xs,G,e⟩:=zEb (P:=Tryz.prog) (ty:=9) (sz:=1) (els:=aR a) (v:=v') (l:=l) hB (by rw [aJ];exact hO) (fun x hx=>by simp [aR,uJ] at hx;obtain ⟨b,_,rfl⟩:=hx;rfl) (fun i k hi hk=>by
   have hi':i < a.length:=by rw [aJ] at hi;exact hi
   have hk':k=0:=by simpa [aR,uJ] using hk
   subst hk';refine ⟨.string a[i],by rw [bCm,bAy];exact hl i hi',rfl,?_⟩
   simp [aR,uJ])
  refine ⟨hB,.own 0,_,fun i r hi=>?_,⟨rfl,rfl⟩,ρ,xs,G,?_⟩
  ·simp only [rlk] at hi;split at hi
   ·omega
   ·cases hi
  ·rw [← e];refine .own 0 ?_;rw [e];obtain ⟨_,_,rfl⟩:=cW hO;rfl
 by_cases h0:a.length=0
 ·have:a=[]:=o5 h0
  subst this
  cases ad with
 |none =>
   refine (Tryz.slices_Clone_string_nil 0 cap w).mono ?_;rintro e w' ⟨rfl,rfl⟩;exact kX (fin (bC6 _ _ 9 1) (Below.refl _ _) (fun i hi=>absurd hi (y5 _)))
 |some ad =>
   refine (Tryz.slices_Clone_string_zero ad cap w).mono ?_;rintro e w' ⟨v',rfl,hO,-,hB⟩;exact kX (fin hO hB (fun i hi=>absurd hi (y5 _)))
 ·obtain ⟨bk,off,rfl,-,hbk,-,hcell⟩:=hadd (by omega)
  have hszz:sz=1:=by
   have:=hsz ((aR a)[0]'(by rw [aJ];omega)) (c7 _)
   rw [← this];simp [aR,uJ]
  subst hszz
  have hcl:∀ j,j < a.length→w.cell? ⟨bk,off + j,none⟩=some (.string (a.getD j ByteArray.empty)):=fun j hj=>by
   have h3:=hcell j 0 hj (by omega)
   rw [show off + (j * 1 + 0)=off + j by omega] at h3
   rw [h3]
   have h4:=hr j 0 (by rw [aJ];exact hj) (by simp [aR,uJ])
   simp only [aR,uJ,d9,l6] at h4;generalize vals j 0=u at h4
   cases h4
   rw [b6,c9 hj];rfl
  refine (Tryz.slices_Clone_string bk off a.length cap a w (a7 _) (by omega) hcl).mono ?_
  rintro e w' ⟨v',rfl,hO,hB⟩;exact kX (fin hO hB.2 (fun i hi=>by rw [t6];simp [hi]))
def seE (a b:List Ba) (i:Nat):HS:=⟨[(0,.lst false (aR a)),(1,.lst false (aR b)),(11,.lst false (aR a)),(12,.v (.int .i64 a.length)),(13,.v (.int .i64 i))],[]⟩
def qKj (a b:List Ba) (ha:a.length≤140737488355328) (hb:b.length≤140737488355328):HFun Tryz.prog 71 [.lst false (aR a),.lst false (aR b)] (fun h st=>h=.v (.bool (decide (a=b)))):=by
 refine bP (N:=26) Tryz.func71 rfl Tryz.ntmps71 Tryz.results71 (by simp) ?_
 refine goA 3 ?_;push_cast
 by_cases h:a.length=b.length
 ·refine goA 5 ?_;push_cast(disch:=omega)[aJ];refine goL (seE a b) (fun i=>i≤a.length∧a.take i=b.take i) (fun i=>a.length - i) [0,1,11,12,13] [] 0 (by push_cast[seE] <;> rfl) ⟨g7 _,by simp⟩ ?_
  rintro i ⟨hi,he⟩;simp only [seE]
  by_cases hlt:i < a.length
  ·have hlt2:i < b.length:=by omega
   refine goA 5 ?_;push_cast(disch:=omega)[aJ]
   by_cases heq:a[i]=b[i]
   ·have hd:decide (a[i]=b[i])=true:=i7 heq
    refine HW_drw 9 mixed (by kernel_rfl) (fun K hK=>?_);push_cast(disch:=omega)[aJ,dM,bK,hd]
    with_reducible refine aS ?_;push_cast
    refine hK _ ?_;clear hK K;refine goK 3 ?_;push_cast(disch:=omega);refine ⟨i + 1,by push_cast[seE] <;> rfl,⟨hlt,?_⟩,by omega⟩
    rw [d7 hlt,d7 hlt2,he,heq]
   ·have hd:decide (a[i]=b[i])=false:=b9 heq
    have hne:decide (a=b)=false:=b9 (fun e=>heq (by subst e;rfl))
    rw [hne];refine HW_drw 9 mixed (by kernel_rfl) (fun K hK=>?_);push_cast(disch:=omega)[aJ,dM,bK,hd]
    with_reducible refine aS ?_;push_cast
    refine hK _ ?_;clear hK K;refine goK 3 ?_;push_cast;exact aQ rfl
  ·have hab:a=b:=by
    rw [m9 (by omega),m9 (by omega)] at he;exact he
   rw [i7 hab];refine goA 5 ?_;push_cast(disch:=omega)[aJ];exact aQ rfl
 ·have hne:decide (a=b)=false:=b9 (fun e=>h (by rw [e]))
  rw [hne];refine goA 5 ?_;push_cast(disch:=omega)[aJ];exact aQ rfl
open Go.DiffM
def ckE (c:Ck Ba):List FV:=[.v (.bool c.st),.lst true (aR c.b),.lst true (aR c.l),.lst true (aR c.r)]
def cks (l:List (Ck Ba)):List (List FV):=l.map ckE
def fF (l:List (Ck Ba)):(cks l).length=l.length:=by simp [cks]
def nP (l:List (Ck Ba)):Wid 4 (cks l)=True:=bEe (qC l fun _=>rfl)
def wV (l:List (Ck Ba)) (b:Bool) (x y z:List Ba):cks l ++ [[.v (.bool b),.lst true (aR x),.lst true (aR y),.lst true (aR z)]]=cks (l ++ [⟨b,x,y,z⟩]):=by simp [cks,ckE]
def qCk (l:List (Ck Ba)):∀ x ∈ cks l,∀ f ∈ x,FreshF f:=fun x hx f hf=>by
 obtain ⟨h,-,rfl⟩:=m6.1 hx;simp only [ckE,l3,bBf,bDu] at hf
 rcases hf with rfl|rfl|rfl|rfl
 ·exact .v _
 ·exact .lst (fB _)
 ·exact .lst (fB _)
 ·exact .lst (fB _)
abbrev cuR (o a b:List Ba) (i j k:Nat):Row:=.bx false 134 [.lst true (aR o),.lst true (aR a),.lst true (aR b),.v (.int .i64 i),.v (.int .i64 j),.v (.int .i64 k),.own 1]
abbrev cuS (o a b:List Ba) (i j k:Nat) (out:List (Ck Ba)):aC:=[(0,cuR o a b i j k),(1,.sl true 116 4 (cks out))]
def qX (o a b:List Ba) (i j k i' j' k':Nat) (out:List (Ck Ba)) (Q:dP) (ho:o.length≤1000) (ha:a.length≤1000) (hb:b.length≤1000) (hi:i≤i'∧i'≤o.length) (hj:j≤j'∧j'≤a.length) (hk:k≤k'∧k'≤b.length) (hn:out.length≤10000)
  (hQ:∀ E,wN [0,1,2,3] E=[(0,.ptr 0 7 0 0),(1,.v (.int .i64 i')),(2,.v (.int .i64 j')),(3,.v (.int .i64 k'))]→Q .normal ⟨E,[(1,.sl true 116 4 (cks (out ++ [⟨false,(o.take i').drop i,(a.take j').drop j,(b.take k').drop k⟩]))),(0,cuR o a b i j k)]⟩) :
  HW Tryz.prog 85 (cAt [0,1,2] (Tryz.f92.body.getD .skip)) Q ⟨[(0,.ptr 0 7 0 0),(1,.v (.int .i64 i')),(2,.v (.int .i64 j')),(3,.v (.int .i64 k'))],cuS o a b i j k out⟩:=by
 unfold Tryz.f92;dsimp only [Option.getD_some,cAt]
 have c1:=qSc ((o.take i').drop i) (by rw [y7,l7];omega)
 have c2:=qSc ((a.take j').drop j) (by rw [y7,l7];omega)
 have c3:=qSc ((b.take k').drop k) (by rw [y7,l7];omega)
 refine fT 41 [(40,some 1)] [cuS o a b i j k out,[(1,.sl true 116 4 (cks (out ++ [⟨false,(o.take i').drop i,(a.take j').drop j,(b.take k').drop k⟩]))),(0,.bx false 134 [.lst true (aR o),.lst true (aR a),.lst true (aR b),.v (.int .i64 i),.v (.int .i64 j),.v (.int .i64 k),.junk])]] [(4,0,0),(8,0,1),(12,0,1),(19,0,1),(23,0,1),(30,0,1),(34,0,1)] mixed (by kernel_rfl) (by kernel_rfl) rfl (fun K hK K1 hK1=>?_);push_cast(disch:=omega)[aJ,bK,mJ,nY]
 refine qC5 zS6 c1 (.cons (aD (aU _)) .nil) ?_;with_reducible refine aS ?_;push_cast(disch:=omega)[aJ,bK,mJ,nY]
 refine qC5 zS6 c2 (.cons (aD (aU _)) .nil) ?_;with_reducible refine aS ?_;push_cast(disch:=omega)[aJ,bK,mJ,nY]
 refine qC5 zS6 c3 (.cons (aD (aU _)) .nil) ?_;with_reducible refine aS ?_;push_cast(disch:=omega)[aJ,bK,mJ,nY,fF,wV]
 refine ⟨by intro x hx;simp at hx;subst hx;rfl,?_⟩
 refine hK1 _ ?_;(try clear hK1 K1);with_reducible refine aS ?_;push_cast
 refine hK _ ?_;clear hK K;exact hQ _ (by push_cast <;> rfl)
def btO (o a b:List Ba) (i j k i' j' k':Nat) (out:List (Ck Ba)):List (Ck Ba):=(kM o a b ⟨i,j,k,out⟩ i' j' k').out
def ckH (l:List (Ck Ba)):List (List HV):=(cks l).map (List.map FV.h)
def qSh (l:List (Ck Ba)) (f:HV→HV) (h1:∀ x,f (.v x)=.v x) (h2:∀ fr xs,f (.lst fr xs)=.lst fr xs):(ckH l).map (List.map f)=ckH l:=by
 simp only [ckH,cks,bAm]
 apply x7
 intro c _;simp [Function.comp,ckE,FV.h,h1,h2]
def sJ (l:List (Ck Ba)) (p:Nat→Bool):(ckH l).map (List.map (HV.kill p))=ckH l:=qSh l _ (fun x=>by rw [HV.kill]) (fun _ _=>by rw [HV.kill])
def lX (l:List (Ck Ba)) (id:Nat) (x:HV):(ckH l).map (List.map (HV.sub id x))=ckH l:=qSh l _ (fun x=>by rw [HV.sub]) (fun _ _=>by rw [HV.sub])
def eP (l:List (Ck Ba)) (m:Nat→Option Nat):(ckH l).map (List.map (HV.ren m))=ckH l:=qSh l _ (fun x=>by rw [HV.ren]) (fun _ _=>by rw [HV.ren])
def qWr (l:List (Ck Ba)) (b:Bool) (x y z:List Ba):ckH l ++ [[.v (.bool b),.lst true (aR x),.lst true (aR y),.lst true (aR z)]]=(cks (l ++ [⟨b,x,y,z⟩])).map (List.map FV.h):=by simp [ckH,cks,ckE,FV.h]
def qCl (l:List (Ck Ba)):(ckH l).length=l.length:=by simp [ckH,cks]
abbrev ckL (i j k:Nat):List HV:=[.v (.bool true),.own i,.own j,.own k]
abbrev cuT (o a b:List Ba) (i j k:Nat) (pre:List (Ck Ba)) (c:Ck Ba):aC:=[(0,cuR o a b i j k),(1,.hl true 116 4 (ckH pre ++ [ckL 2 3 4])),(2,.sl true 9 1 (aR c.b)),(3,.sl true 9 1 (aR c.l)),(4,.sl true 9 1 (aR c.r))]
def qP4 (o a b:List Ba) (i j k i' j' k':Nat) (out:List (Ck Ba)) (ho:o.length≤1000) (ha:a.length≤1000) (hb:b.length≤1000) (hi:i≤i'∧i'≤o.length) (hj:j≤j'∧j'≤a.length) (hk:k≤k'∧k'≤b.length) (hn:out.length≤10000) :
  HFunS Tryz.prog 92 [.ptr 0 7 0 0,.v (.int .i64 i'),.v (.int .i64 j'),.v (.int .i64 k')] (cuS o a b i j k out) (fun h st=>h=.tup []∧st=cuS o a b i' j' k' (btO o a b i j k i' j' k' out)):=by
 refine pV (N:=85) Tryz.func92 rfl Tryz.ntmps92 Tryz.results92 (by simp) ?_
 have push:(i < i'∨j < j'∨k < k')→btO o a b i j k i' j' k' out=out ++ [⟨false,(o.take i').drop i,(a.take j').drop j,(b.take k').drop k⟩]:=fun h=>by rw [btO,kM,g8 h]
 have stay:¬ (i < i'∨j < j'∨k < k')→btO o a b i j k i' j' k' out=out:=fun h=>by rw [btO,kM,b7 h]
 have cs:(i < i')∨(¬ i < i'∧j < j')∨(¬ i < i'∧¬ j < j'∧k < k')∨(¬ i < i'∧¬ j < j'∧¬ k < k'):=by omega
 rcases cs with c1|⟨c1,c2⟩|⟨c1,c2,c3⟩|⟨c1,c2,c3⟩
 ·refine goA 3 ?_;push_cast(disch:=omega);refine goP [0,1,2,3] [0,1] ?_;refine qX o a b i j k i' j' k' out _ ho ha hb hi hj hk hn (fun E hE=>?_)
  refine yB (S':=⟨[(0,.ptr 0 7 0 0),(1,.v (.int .i64 i')),(2,.v (.int .i64 j')),(3,.v (.int .i64 k'))],[(0,cuR o a b i j k),(1,.sl true 116 4 (cks (out ++ [⟨false,(o.take i').drop i,(a.take j').drop j,(b.take k').drop k⟩])))]⟩) [0,1,2,3] [0,1] (by simp only [HS.keep];rw [hE];rfl) ?_
  refine goA 3 ?_;push_cast;refine mC [0,1] (by decide) (by push_cast <;> exact ⟨rfl,rfl⟩) ?_
  exact ⟨rfl,by rw [push (.inl c1)]⟩
 ·refine goA 3 ?_;push_cast(disch:=omega);refine goP [0,1,2,3] [0,1] ?_;refine qX o a b i j k i' j' k' out _ ho ha hb hi hj hk hn (fun E hE=>?_)
  refine yB (S':=⟨[(0,.ptr 0 7 0 0),(1,.v (.int .i64 i')),(2,.v (.int .i64 j')),(3,.v (.int .i64 k'))],[(0,cuR o a b i j k),(1,.sl true 116 4 (cks (out ++ [⟨false,(o.take i').drop i,(a.take j').drop j,(b.take k').drop k⟩])))]⟩) [0,1,2,3] [0,1] (by simp only [HS.keep];rw [hE];rfl) ?_
  refine goA 3 ?_;push_cast;refine mC [0,1] (by decide) (by push_cast <;> exact ⟨rfl,rfl⟩) ?_
  exact ⟨rfl,by rw [push (.inr (.inl c2))]⟩
 ·refine goA 3 ?_;push_cast(disch:=omega);refine goP [0,1,2,3] [0,1] ?_;refine qX o a b i j k i' j' k' out _ ho ha hb hi hj hk hn (fun E hE=>?_)
  refine yB (S':=⟨[(0,.ptr 0 7 0 0),(1,.v (.int .i64 i')),(2,.v (.int .i64 j')),(3,.v (.int .i64 k'))],[(0,cuR o a b i j k),(1,.sl true 116 4 (cks (out ++ [⟨false,(o.take i').drop i,(a.take j').drop j,(b.take k').drop k⟩])))]⟩) [0,1,2,3] [0,1] (by simp only [HS.keep];rw [hE];rfl) ?_
  refine goA 3 ?_;push_cast;refine mC [0,1] (by decide) (by push_cast <;> exact ⟨rfl,rfl⟩) ?_
  exact ⟨rfl,by rw [push (.inr (.inr c3))]⟩
 ·refine goA 5 ?_;push_cast(disch:=omega);refine mC [0,1] (by decide) (by push_cast <;> exact ⟨rfl,rfl⟩) ?_
  exact ⟨rfl,by rw [stay (by omega)]⟩
def qP3 (o a b:List Ba) (i j k i' j' k':Nat) (pre:List (Ck Ba)) (c:Ck Ba) (hc:c.st=true) (ho:o.length≤1000) (ha:a.length≤1000) (hb:b.length≤1000) (hi:i≤i'∧i'≤o.length) (hj:j≤j'∧j'≤a.length) (hk:k≤k'∧k'≤b.length) (hn:(pre ++ [c]).length≤10000) :
  HFunS Tryz.prog 92 [.ptr 0 7 0 0,.v (.int .i64 i'),.v (.int .i64 j'),.v (.int .i64 k')] (cuT o a b i j k pre c) (fun h st=>h=.tup [] ∧
   (((i < i'∨j < j'∨k < k')∧st=cuS o a b i' j' k' (btO o a b i j k i' j' k' (pre ++ [c])))∨(¬ (i < i'∨j < j'∨k < k')∧st=cuT o a b i' j' k' pre c))):=by
 refine pV (N:=85) Tryz.func92 rfl Tryz.ntmps92 Tryz.results92 (by simp) ?_
 have push:(i < i'∨j < j'∨k < k')→btO o a b i j k i' j' k' (pre ++ [c])=(pre ++ [c]) ++ [⟨false,(o.take i').drop i,(a.take j').drop j,(b.take k').drop k⟩]:=fun h=>by rw [btO,kM,g8 h]
 have cs:(i < i')∨(¬ i < i'∧j < j')∨(¬ i < i'∧¬ j < j'∧k < k')∨(¬ i < i'∧¬ j < j'∧¬ k < k'):=by omega
 have e1:ckH pre ++ [[.v (.bool true),.lst true (aR c.b),.lst true (aR c.l),.lst true (aR c.r)]]=(cks (pre ++ [c])).map (List.map FV.h):=by
  rw [qWr];cases c;simp only at hc;subst hc;rfl
 rcases cs with c1|⟨c1,c2⟩|⟨c1,c2,c3⟩|⟨c1,c2,c3⟩
 ·refine goA 3 ?_;push_cast(disch:=omega);refine goP [0,1,2,3] [0,1,2,3,4] ?_;refine eZ 2 rfl (by push_cast[d6,lX] <;> exact rfl) ?_
  refine eZ 3 rfl (by push_cast[d6,lX] <;> exact rfl) ?_
  refine eZ 4 rfl (by push_cast[d6,lX] <;> exact rfl) ?_
  refine zFk 1 (cks (pre ++ [c])) e1 rfl (by simp only [pC,mL,Nat.reduceEqDiff,reduceIte];exact rfl) ?_
  refine qX o a b i j k i' j' k' (pre ++ [c]) _ ho ha hb hi hj hk hn (fun E hE=>?_)
  refine yB (S':=⟨[(0,.ptr 0 7 0 0),(1,.v (.int .i64 i')),(2,.v (.int .i64 j')),(3,.v (.int .i64 k'))],[(0,cuR o a b i j k),(1,.sl true 116 4 (cks ((pre ++ [c]) ++ [⟨false,(o.take i').drop i,(a.take j').drop j,(b.take k').drop k⟩])))]⟩) [0,1,2,3] [0,1] (by simp only [HS.keep];rw [hE];rfl) ?_
  refine goA 3 ?_;push_cast;refine mC [0,1] (by decide) (by push_cast <;> exact ⟨rfl,rfl⟩) ?_
  exact ⟨rfl,.inl ⟨by omega,by rw [push (.inl c1)]⟩⟩
 ·refine goA 3 ?_;push_cast(disch:=omega);refine goP [0,1,2,3] [0,1,2,3,4] ?_;refine eZ 2 rfl (by push_cast[d6,lX] <;> exact rfl) ?_
  refine eZ 3 rfl (by push_cast[d6,lX] <;> exact rfl) ?_
  refine eZ 4 rfl (by push_cast[d6,lX] <;> exact rfl) ?_
  refine zFk 1 (cks (pre ++ [c])) e1 rfl (by simp only [pC,mL,Nat.reduceEqDiff,reduceIte];exact rfl) ?_
  refine qX o a b i j k i' j' k' (pre ++ [c]) _ ho ha hb hi hj hk hn (fun E hE=>?_)
  refine yB (S':=⟨[(0,.ptr 0 7 0 0),(1,.v (.int .i64 i')),(2,.v (.int .i64 j')),(3,.v (.int .i64 k'))],[(0,cuR o a b i j k),(1,.sl true 116 4 (cks ((pre ++ [c]) ++ [⟨false,(o.take i').drop i,(a.take j').drop j,(b.take k').drop k⟩])))]⟩) [0,1,2,3] [0,1] (by simp only [HS.keep];rw [hE];rfl) ?_
  refine goA 3 ?_;push_cast;refine mC [0,1] (by decide) (by push_cast <;> exact ⟨rfl,rfl⟩) ?_
  exact ⟨rfl,.inl ⟨by omega,by rw [push (.inr (.inl c2))]⟩⟩
 ·refine goA 3 ?_;push_cast(disch:=omega);refine goP [0,1,2,3] [0,1,2,3,4] ?_;refine eZ 2 rfl (by push_cast[d6,lX] <;> exact rfl) ?_
  refine eZ 3 rfl (by push_cast[d6,lX] <;> exact rfl) ?_
  refine eZ 4 rfl (by push_cast[d6,lX] <;> exact rfl) ?_
  refine zFk 1 (cks (pre ++ [c])) e1 rfl (by simp only [pC,mL,Nat.reduceEqDiff,reduceIte];exact rfl) ?_
  refine qX o a b i j k i' j' k' (pre ++ [c]) _ ho ha hb hi hj hk hn (fun E hE=>?_)
  refine yB (S':=⟨[(0,.ptr 0 7 0 0),(1,.v (.int .i64 i')),(2,.v (.int .i64 j')),(3,.v (.int .i64 k'))],[(0,cuR o a b i j k),(1,.sl true 116 4 (cks ((pre ++ [c]) ++ [⟨false,(o.take i').drop i,(a.take j').drop j,(b.take k').drop k⟩])))]⟩) [0,1,2,3] [0,1] (by simp only [HS.keep];rw [hE];rfl) ?_
  refine goA 3 ?_;push_cast;refine mC [0,1] (by decide) (by push_cast <;> exact ⟨rfl,rfl⟩) ?_
  exact ⟨rfl,.inl ⟨by omega,by rw [push (.inr (.inr c3))]⟩⟩
 ·refine goA 5 ?_;push_cast(disch:=omega);refine mC [0,1,2,3,4] (by decide) (by push_cast[d6,eP] <;> exact ⟨rfl,rfl⟩) ?_
  exact ⟨rfl,.inr ⟨by omega,rfl⟩⟩
def qWs (l:List (Ck Ba)) (x:List HV):(ckH l ++ [x]).length=l.length + 1:=by simp [qCl]
def qJq (l:List (Ck Ba)) (x d:List HV):(ckH l ++ [x]).getD l.length d=x:=by
 rw [b6,bAa (by rw [qCl];exact a7 _),qCl,bBn];rfl
def zFb (l:List (Ck Ba)) (x y:List HV):(ckH l ++ [x]).set l.length y=ckH l ++ [y]:=by
 rw [bDy _ _ (by rw [qCl];exact a7 _),qCl,bBn];rfl
abbrev ckJ (pre:List (Ck Ba)) (x y z:HV):Row:=.hl true 116 4 (ckH pre ++ [[.v (.bool true),x,y,z]])
abbrev oD (l:List Ba):Row:=.sl true 9 1 (aR l)
def zNg (o a b:List Ba) (i j k m:Nat) (pre:List (Ck Ba)) (c:Ck Ba) (hm:m < o.length) (ho:o.length≤1000) (hi:i≤1000) (hj:j≤1000) (hk:k≤1000) (hn:pre.length≤10000) (hB:c.b.length≤10000) (hL:c.l.length≤10000) (hR:c.r.length≤10000) :
  HFunS Tryz.prog 93 [.ptr 0 7 0 0,.v (.int .i64 m)] (cuT o a b i j k pre c) (fun h st=>h=.tup []∧st=cuT o a b (i + 1) (j + 1) (k + 1) pre ⟨true,c.b ++ [o[m]],c.l ++ [o[m]],c.r ++ [o[m]]⟩):=by
 refine pV (N:=105) Tryz.func93 rfl Tryz.ntmps93 Tryz.results93 (by simp) ?_
 have e0:(pre.length:Int) + 1 - 1=(pre.length:Int):=by omega
 refine goA 5 ?_;push_cast(disch:=omega)[aJ,bK,dM hm,qWs,qCl,e0];refine goP [0,4,5] [0,1,2,3,4] ?_;refine goA 3 ?_;push_cast(disch:=omega)[qCl,qJq];refine goP [0,4,5] [0,1,2,3,4] ?_;refine goA 3 ?_;push_cast(disch:=omega)[qCl,qJq];refine goP [0,4,6] [0,1,2,3,4] ?_;refine fT 30 [(9,some 2),(16,some 3),(23,some 4),(26,none),(29,none)] [cuT o a b i j k pre c,[(2,oD (c.b ++ [o[m]])),(0,cuR o a b i j k),(1,ckJ pre .junk (.own 3) (.own 4)),(3,oD c.l),(4,oD c.r)],[(3,oD (c.l ++ [o[m]])),(2,oD (c.b ++ [o[m]])),(0,cuR o a b i j k),(1,ckJ pre .junk .junk (.own 4)),(4,oD c.r)],[(4,oD (c.r ++ [o[m]])),(3,oD (c.l ++ [o[m]])),(2,oD (c.b ++ [o[m]])),(0,cuR o a b i j k),(1,ckJ pre .junk .junk .junk)],[(4,oD (c.r ++ [o[m]])),(3,oD (c.l ++ [o[m]])),(2,oD (c.b ++ [o[m]])),(0,cuR o a b i j k),(1,ckJ pre (.own 2) .junk .junk)],[(4,oD (c.r ++ [o[m]])),(3,oD (c.l ++ [o[m]])),(2,oD (c.b ++ [o[m]])),(0,cuR o a b i j k),(1,ckJ pre (.own 2) (.own 3) .junk)]] [(6,0,0),(13,0,1),(20,0,2)] mixed (by kernel_rfl) (by kernel_rfl) rfl (fun K hK K1 hK1=>?_);push_cast(disch:=omega)[qCl,qJq,zFb,sJ,d6,aJ,fY,bK]
 have w1:Wid 1 [[FV.v (.string o[m])]]:=by intro x hx;simp at hx;subst hx;rfl
 refine ⟨w1,w1,w1,?_⟩;refine hK1 _ ?_;(try clear hK1 K1);with_reducible refine aS ?_;push_cast(disch:=omega)[qCl,qJq,zFb]
 refine hK _ ?_;clear hK K;refine goK 1 ?_;push_cast;refine goP [0] [0,1,2,3,4] ?_;refine goA 7 ?_;push_cast(disch:=omega);refine mC [0,1,2,3,4] (by decide) (by push_cast[d6,eP] <;> exact ⟨rfl,rfl⟩) ?_
 exact ⟨rfl,rfl⟩
abbrev zU0 (l:List (Ck Ba)):Row:=.hl true 116 4 (ckH l ++ [ckL 1000002 1000003 1000004])
def qS5 (o a b:List Ba) (i j k:Nat) (s:Ba) (out:List (Ck Ba)) (Q:dP) (hn:out.length≤10000)
  (hQ:∀ E R,wN [0] E=[(0,.ptr 0 7 0 0)]→yX [0,1,1000002,1000003,1000004] R=[(0,cuR o a b i j k),(1,zU0 out),(1000002,oD [s]),(1000003,oD [s]),(1000004,oD [s])]→Q .normal ⟨E,R⟩) :
  HW Tryz.prog 105 (cAt [1,0,1,1,3] (Tryz.f93.body.getD .skip)) Q ⟨[(0,.ptr 0 7 0 0),(4,.v (.string s))],cuS o a b i j k out⟩:=by
 unfold Tryz.f93;dsimp only [Option.getD_some,cAt]
 have e0:(cks out).map (List.map FV.h)=ckH out:=rfl
 have e1:[[FV.v (.string s)]]=aR [s]:=rfl
 refine zTv 1 rfl (by simp only [pC,mL,d8,m4,zSl,qL0,Nat.reduceEqDiff,reduceIte,e0];exact rfl) ?_
 (repeat first|refine zE ?_|refine zA ?_|refine zC ?_|refine zB ?_|refine zD ?_);refine zZt (fun K hK=>?_)
 refine zT1 11 [0,68,72,74,76,78,79,80,81,82,83] [0,1,592,608,624] ?_;push_cast[e1];refine aS ?_;try simp only [zZ,zR,zP,zQ,zN,zS,zM,zX,zU,Nat.reduceEqDiff,reduceIte,bDk,bAf]
 refine qG1 592 1000002 (by decide) rfl rfl (by simp only [qJk,zEl,qFb,qCe,qD8,qBp,qGl,wD,vZ,qAv,tQ,wF,vY,wE,qBr,qBt,qBs,Nat.reduceMul,Nat.reduceAdd,Nat.reduceEqDiff,reduceIte,d8,m4];exact rfl) ?_
 refine qG1 608 1000003 (by decide) rfl rfl (by simp only [qJk,zEl,qFb,qCe,qD8,qBp,qGl,wD,vZ,qAv,tQ,wF,vY,wE,qBr,qBt,qBs,Nat.reduceMul,Nat.reduceAdd,Nat.reduceEqDiff,reduceIte,d8,m4];exact rfl) ?_
 refine qG1 624 1000004 (by decide) rfl rfl (by simp only [qJk,zEl,qFb,qCe,qD8,qBp,qGl,wD,vZ,qAv,tQ,wF,vY,wE,qBr,qBt,qBs,Nat.reduceMul,Nat.reduceAdd,Nat.reduceEqDiff,reduceIte,d8,m4];exact rfl) ?_
 refine zT0 ?_;push_cast(disch:=omega)[qCl,sJ,eP,d6];refine hK _ ?_;clear hK K;exact hQ _ _ (by push_cast <;> rfl) (by push_cast <;> rfl)
def qSg {l:List (Ck Ba)} {i:Nat} {d:List FV} (h:i < l.length):(cks l).getD i d=ckE l[i]:=by unfold cks;rw [fQ h]
def qS4 (o a b:List Ba) (i j k m:Nat) (out:List (Ck Ba)) (hs:∀ c,out.getLast?=some c→c.st=false) (hm:m < o.length) (ho:o.length≤1000) (hi:i≤1000) (hj:j≤1000) (hk:k≤1000) (hn:out.length≤10000) :
  HFunS Tryz.prog 93 [.ptr 0 7 0 0,.v (.int .i64 m)] (cuS o a b i j k out) (fun h st=>h=.tup []∧st=cuT o a b (i + 1) (j + 1) (k + 1) out ⟨true,[o[m]],[o[m]],[o[m]]⟩):=by
 refine pV (N:=105) Tryz.func93 rfl Tryz.ntmps93 Tryz.results93 (by simp) ?_
 refine goA 5 ?_;push_cast(disch:=omega)[aJ,bK,dM hm,fF];refine goP [0,4,5] [0,1] ?_
 rcases bBp out with rfl|⟨q,c,rfl⟩
 ·refine goA 3 ?_;push_cast;refine goP [0,4] [0,1] ?_;refine qS5 o a b i j k o[m] [] _ hn (fun E R hE hR=>?_)
  refine yB (S':=⟨[(0,.ptr 0 7 0 0)],[(0,cuR o a b i j k),(1,zU0 []),(1000002,oD [o[m]]),(1000003,oD [o[m]]),(1000004,oD [o[m]])]⟩) [0] [0,1,1000002,1000003,1000004] (by simp only [HS.keep];rw [hE,hR]) ?_
  refine goA 7 ?_;push_cast(disch:=omega);refine mC [0,1,1000002,1000003,1000004] (by decide) (by push_cast[d6,eP] <;> exact ⟨rfl,rfl⟩) ?_
  exact ⟨rfl,rfl⟩
 ·rw [bBq] at hs hn ⊢
  have hc:c.st=false:=hs c (by simp)
  have e0:((q ++ [c]).length:Int) - 1=(q.length:Int):=by simp
  have hl:(cks (q ++ [c])).length=q.length + 1:=by rw [fF];simp
  have hg:∀ d,(cks (q ++ [c])).getD q.length d=[.v (.bool false),.lst true (aR c.b),.lst true (aR c.l),.lst true (aR c.r)]:=fun d=>by
   rw [qSg (by simp)];simp [ckE,hc]
  rw [e0];refine goA 3 ?_;push_cast(disch:=omega)[hl,hg,nP];refine goP [0,4] [0,1] ?_;refine qS5 o a b i j k o[m] (q ++ [c]) _ hn (fun E R hE hR=>?_)
  refine yB (S':=⟨[(0,.ptr 0 7 0 0)],[(0,cuR o a b i j k),(1,zU0 (q ++ [c])),(1000002,oD [o[m]]),(1000003,oD [o[m]]),(1000004,oD [o[m]])]⟩) [0] [0,1,1000002,1000003,1000004] (by simp only [HS.keep];rw [hE,hR]) ?_
  refine goA 7 ?_;push_cast(disch:=omega);refine mC [0,1,1000002,1000003,1000004] (by decide) (by push_cast[d6,eP] <;> exact ⟨rfl,rfl⟩) ?_
  exact ⟨rfl,rfl⟩
end Go.Proofs.Y
namespace Go.Proofs.Y
open Go Go.Eng Go.RowKit
def cat (l:List Ba):Ba:=⟨(l.map (·.data.toList)).flatten.toArray⟩
def qWt (a:Ba) (l:List Ba):cat (a :: l)=a ++ cat l:=by
 apply bEa;apply bAp.1;simp [cat]
def lY (a b:List Ba):cat (a ++ b)=cat a ++ cat b:=by
 apply bEa;apply bAp.1;simp [cat]
def qJr (a:Ba):cat [a]=a:=by
 apply bEa;apply bAp.1;simp [cat]
def qVa (l:List (List UInt8)):Lib.join l []=l.flatten:=by
 cases l with
|nil=>exact Lib.join_nil []
|cons x r=>rw [Lib.join_cons];simp [Lib.joinTail]
def zUy (l:List Ba) (hl:l.length≤140737488355328) (hs:(cat l).size≤140737488355328):HFun Tryz.prog 94 [.lst false (aR l),.v (.string ⟨#[]⟩)] (fun h st=>h=.v (.string (cat l))∧st=[]):=by
 refine pK fun w vs R=>?_
 obtain ⟨r1,r2⟩:=R
 match vs,r1 with
|[a,b],_ =>
 have ha:=r2 0 (by simp) (by simp)
 have hb:=r2 1 (by simp) (by simp)
 simp only [l6,bAe] at ha hb
 have:=bL hb
 subst this
 cases ha with
|lst hF =>
 cases hF with
|lst sz vals hn hc hm hnil hsz hadd h1 hr =>
 rename_i ad n cap _
 have hn':l.length=n:=by rw [← hn,aJ]
 subst hn'
 by_cases h0:l.length=0
 ·have:l=[]:=o5 h0
  subst this;refine (Tryz.strings_Join_none ad cap ⟨#[]⟩ w).mono ?_;rintro e w' ⟨rfl,rfl⟩;exact kX ⟨rfl,Below.refl _ _⟩
 ·obtain ⟨bk,off,rfl,-,hbk,-,hcell⟩:=hadd (by omega)
  have hszz:sz=1:=by
   have:=hsz ((aR l)[0]'(by rw [aJ];omega)) (c7 _)
   rw [← this];simp [aR,uJ]
  subst hszz;refine (Tryz.strings_Join bk off cap l ⟨#[]⟩ w (fun j x hx=>?_) hbk hl hc ?_).mono ?_
  ·have hj:j < l.length:=(i5.1 hx).1
   have h3:=hcell j 0 hj (by omega)
   rw [show off + (j * 1 + 0)=off + j by omega] at h3
   rw [h3]
   have h4:=hr j 0 (by rw [aJ];exact hj) (by simp [aR,uJ])
   simp only [aR,uJ,d9,l6] at h4;generalize vals j 0=u at h4
   cases h4
   have:=(i5.1 hx).2
   rw [this]
  ·show (Lib.join (l.map (·.data.toList)) []).length≤_
   rw [qVa]
   have:(l.map (·.data.toList)).flatten.length=(cat l).size:=by
    show _=Array.size _
    rw [bAq]
   omega
  ·rintro e w' ⟨rfl,B⟩;refine kX ⟨?_,B⟩;show Value.string ⟨(Lib.join (l.map (·.data.toList)) []).toArray⟩=_
   rw [qVa];rfl
def qGf (l:List Ba) (hl:l.length≤140737488355328) (hs:(cat l).size≤140737488355328):HFun Tryz.prog 72 [.lst false (aR l)] (fun h st=>h=.v (.string (cat l))):=by
 refine bP (N:=5) Tryz.func72 rfl Tryz.ntmps72 Tryz.results72 (by simp) ?_
 refine goA 5 ?_;push_cast;refine cVt yKi ((zUy l hl hs).mono fun h st q=>q.1) (.cons (aD (aU l)) (.cons (.v _) .nil)) ?_
 push_cast;exact aQ rfl
def spl:List UInt8→List (List UInt8)
|[]=>[]
|b :: l=>if b=10 then [b] :: spl l else match spl l with
 |[]=>[[b]]
 |x :: r=>(b :: x) :: r
def bs (l:List UInt8):Ba:=⟨l.toArray⟩
def cG (s:Ba):List Ba:=(spl s.data.toList).map bs
def lZ (s:Ba):bs s.data.toList=s:=by
 apply bEa;apply bAp.1;simp [bs]
def zD5 (p q:List UInt8) (h:∀ b ∈ p,b≠10):spl (p ++ 10 :: q)=(p ++ [10]) :: spl q:=by
 induction p with
|nil=>simp [spl]
|cons b p ih =>
  rw [u5,spl,b7 (h b (by simp)),ih (fun x hx=>h x (by simp [hx]))]
  rfl
def zD4 (p:List UInt8) (h:∀ b ∈ p,b≠10) (hne:p≠[]):spl p=[p]:=by
 induction p with
|nil=>exact absurd rfl hne
|cons b p ih =>
  rw [spl,b7 (h b (by simp))]
  cases p with
 |nil=>rfl
 |cons c r=>rw [ih (fun x hx=>h x (by simp [hx])) (by simp)]
def zJu (l:List UInt8):(Lib.indexByte l 10=-1∧∀ b ∈ l,b≠10)∨∃ p q,l=p ++ 10 :: q∧(∀ b ∈ p,b≠10)∧Lib.indexByte l 10=p.length:=by
 induction l with
|nil=>exact .inl ⟨rfl,by simp⟩
|cons b l ih =>
  rw [Lib.indexByte]
  by_cases e:b=10
  ·subst e;exact .inr ⟨[],l,rfl,by simp,by simp⟩
  ·rw [b7 (by simpa using e)]
   rcases ih with ⟨h1,h2⟩|⟨p,q,rfl,h2,h3⟩
   ·left
    rw [h1];exact ⟨rfl,fun x hx=>by rcases l3.1 hx with rfl|hx;exact e;exact h2 x hx⟩
   ·right
    refine ⟨b :: p,q,rfl,fun x hx=>by rcases l3.1 hx with rfl|hx;exact e;exact h2 x hx,?_⟩
    rw [h3,b7 (by simp)]
    simp
def lM (s:Ba) (a b:Nat):(s.extract a b).data.toList=(s.data.toList.take b).drop a:=by
 rw [bCw,bDb,bCc,List.drop_take]
def kE (s:Ba):s.data.toList.length=s.size:=by rw [q7];rfl
def zGg (u:Ba) (h:u≠⟨#[]⟩):∃ n:Nat,1≤n∧n≤u.size∧(Lib.indexByte u.data.toList 10 + 1=0∧n=u.size∨Lib.indexByte u.data.toList 10 + 1=(n:Int))∧cG u=u.extract 0 n :: cG (u.extract n u.size):=by
 have hs:=kE u
 rcases zJu u.data.toList with ⟨h1,h2⟩|⟨p,q,h1,h2,h3⟩
 ·have hne:u.data.toList≠[]:=fun e=>h (by rw [← lZ u,e];rfl)
  have hpos:0 < u.data.toList.length:=bEi.2 hne
  refine ⟨u.size,by omega,a7 _,.inl ⟨by omega,rfl⟩,?_⟩
  have e1:u.extract 0 u.size=u:=by rw [← lZ (u.extract 0 u.size),lM,m9 (by omega),bAf,lZ]
  have e2:cG (u.extract u.size u.size)=[]:=by unfold cG;rw [lM,u0 (by simp)];rfl
  rw [e1,e2];unfold cG;rw [zD4 _ h2 hne,d8,m4,lZ]
 ·have hl:u.size=p.length + 1 + q.length:=by rw [← hs,h1];simp;omega
  refine ⟨p.length + 1,by omega,by omega,.inr (by omega),?_⟩
  unfold cG;rw [lM,h1,zD5 p q h2,d8]
  congr 1
  ·rw [← lZ (u.extract 0 (p.length + 1)),lM,h1,bAf]
   congr 1
   rw [List.take_append,m9 (by omega)];simp
  ·congr 2
   rw [m9 (by simp;omega),List.drop_append,u0 (by omega)];simp
def zUv (l:List UInt8):(spl l).length≤l.length:=by
 induction l with
|nil=>simp [spl]
|cons b l ih =>
  rw [spl];split
  ·simpa using ih
  ·split
   ·simp
   ·rename_i x r e;rw [e] at ih;simp at ih ⊢;omega
def qS6 (s:Ba):(cG s).length≤s.size:=by
 unfold cG;rw [c8,← kE];exact zUv _
def zAp (s:Ba):HFun Tryz.prog 126 [.v (.string s),.v (.int .u8 10)] (fun h st=>h=.v (.int .i64 (Lib.indexByte s.data.toList 10))):=by
 refine (pK fun w vs R=>?_).mono fun h st q=>q.1
 obtain ⟨r1,r2⟩:=R
 match vs,r1 with
|[a,b],_ =>
 have ha:=bL (r2 0 (by simp) (by simp))
 have hb:=bL (r2 1 (by simp) (by simp))
 simp only [l6,bAe] at ha hb;subst ha;subst hb;refine (Tryz.strings_IndexByte s 10 w).mono ?_;rintro e w' ⟨rfl,rfl⟩;exact kX ⟨rfl,Below.refl _ _⟩
def zDb (s:Ba):HFun Tryz.prog 144 [.v (.string s),.v (.string ⟨#[10]⟩)] (fun h st=>h=.v (.int .i64 (s.data.toList.count 10:Nat))):=by
 refine (pK fun w vs R=>?_).mono fun h st q=>q.1
 obtain ⟨r1,r2⟩:=R
 match vs,r1 with
|[a,b],_ =>
 have ha:=bL (r2 0 (by simp) (by simp))
 have hb:=bL (r2 1 (by simp) (by simp))
 simp only [l6,bAe] at ha hb;subst ha;subst hb;refine (Tryz.strings_Count_one s 10 w).mono ?_;rintro e w' ⟨rfl,rfl⟩;exact kX ⟨rfl,Below.refl _ _⟩
def kL (l:List UInt8):Bool:=l.getLast? == some 10
def qXn (l:List UInt8):Lib.hasSuffix l [10]=kL l:=by
 unfold Lib.hasSuffix kL
 rcases bBp l with rfl|⟨p,b,rfl⟩
 ·rfl
 ·rw [bAv,List.isSuffixOf_iff_suffix];simp only [bBq,List.getLast?_concat,List.getLast?_append,List.getLast?_singleton,Option.some_or,bAc,a6];constructor
  ·rintro ⟨t,h⟩
   have:=congrArg List.getLast? h
   simpa using this.symm
  ·rintro rfl;exact ⟨p,rfl⟩
def qS1 (s:Ba) (hs:s.size≤9223372036854775807):HFun Tryz.prog 95 [.v (.string s),.v (.string ⟨#[10]⟩)] (fun h st=>h=.v (.bool (kL s.data.toList))):=by
 refine (pK fun w vs R=>?_).mono fun h st q=>q.1
 obtain ⟨r1,r2⟩:=R
 match vs,r1 with
|[a,b],_ =>
 have ha:=bL (r2 0 (by simp) (by simp))
 have hb:=bL (r2 1 (by simp) (by simp))
 simp only [l6,bAe] at ha hb;subst ha;subst hb;refine (Tryz.strings_HasSuffix s ⟨#[10]⟩ w hs).mono ?_;rintro e w' ⟨rfl,rfl⟩;refine kX ⟨?_,Below.refl _ _⟩;show Value.bool (Lib.hasSuffix s.data.toList [10])=_
 rw [qXn]
def qJu (s:Ba) (i:Nat) (h:i < s.size):∃ b:UInt8,s.data.toList[i]?=some b∧dK s i=(b.toNat:Int):=by
 have h':i < s.data.size:=h
 refine ⟨s.data[i],by rw [bB6,v8 h'],?_⟩
 unfold dK;rw [bAs,v8 h'];rfl
def qQf (b:UInt8):(b.toNat:Int)=10↔b=10:=by
 constructor
 ·intro h;apply bC5.1;have e:(10:UInt8).toNat=10:=rfl;omega
 ·rintro rfl;rfl
def zD6 (s:Ba) (a i:Nat) (ha:a≤i) (hi:i < s.size) (hno:∀ j,a≤j→j < i→dK s j≠10) (hb:dK s i=10∨i + 1=s.size) :
  cG (s.extract a s.size)=s.extract a (i + 1) :: cG (s.extract (i + 1) s.size):=by
 have hs:=kE s
 obtain ⟨b,b1,b2⟩:=qJu s i hi
 have hl:s.data.toList.drop a=(s.data.toList.drop a).take (i - a) ++ b :: s.data.toList.drop (i + 1):=by
  conv=>lhs;rw [← x5 (i - a) (s.data.toList.drop a)]
  congr 1
  rw [List.drop_drop,show a + (i - a)=i by omega]
  obtain ⟨h1,h2⟩:=i5.1 b1;rw [l4 h1,h2]
 have hp:∀ x ∈ (s.data.toList.drop a).take (i - a),x≠10:=fun x hx e=>by
  obtain ⟨j,hj,rfl⟩:=p9 hx;simp only [l7,y7] at hj;simp only [z6,y6] at e;obtain ⟨c,c1,c2⟩:=qJu s (a + j) (by omega)
  refine hno (a + j) (by omega) (by omega) ?_
  rw [c2,qQf,← e];rw [c9 (by omega)] at c1
  exact (q9 c1).symm
 have hx:((s.data.toList.drop a).take (i - a) ++ [b])=(s.data.toList.take (i + 1)).drop a:=by
  have:(s.data.toList.drop a).take (i + 1 - a)=(s.data.toList.take (i + 1)).drop a:=by rw [List.drop_take]
  rw [← this,show i + 1 - a=(i - a) + 1 by omega]
  obtain ⟨h1,h2⟩:=i5.1 b1;rw [d7 (by simp;omega)]
  congr 2
  rw [y6,← h2]
  congr 1
  omega
 unfold cG;rw [lM,lM,m9 (by omega),hl]
 rw [b2,qQf] at hb
 by_cases hten:b=10
 ·subst hten;rw [zD5 _ _ hp,d8]
  congr 1
  rw [hx,← lM,lZ]
 ·have he:i + 1=s.size:=hb.resolve_left hten
  have hd:s.data.toList.drop (i + 1)=[]:=u0 (by omega)
  rw [hd,zD4 _ (fun x hx=>by rcases m8.1 hx with h|h;exact hp x h;simp at h;rw [h];exact hten) (by simp),d8,hx,← lM,lZ]
  simp [spl]
def zGf (l:List UInt8):(spl l).length=l.count 10 + (if l≠[]∧kL l=false then 1 else 0):=by
 induction l with
|nil=>rfl
|cons b l ih =>
  have hend:∀ c r,kL (b :: c :: r)=kL (c :: r):=fun c r=>by simp [kL]
  rw [spl]
  by_cases e:b=10
  ·subst e;rw [g8 rfl,i6,ih]
   cases l with
  |nil=>rfl
  |cons c r=>rw [hend,List.count_cons_self];simp;omega
  ·rw [b7 e,List.count_cons_of_ne (bE1 (bE1 e))]
   cases l with
  |nil=>simp [spl,kL,e]
  |cons c r =>
    rw [hend]
    have:∃ x y,spl (c :: r)=x :: y:=by
     rw [spl];split
     ·exact ⟨_,_,rfl⟩
     ·split <;> exact ⟨_,_,rfl⟩
    obtain ⟨x,y,hxy⟩:=this;rw [hxy] at ih ⊢;simp only [i6] at ih ⊢;rw [ih];simp
def zE7 (s:Ba) (h:0 < s.size):kL s.data.toList=decide (dK s (s.size - 1)=10):=by
 obtain ⟨b,b1,b2⟩:=qJu s (s.size - 1) (by omega)
 have hs:=kE s
 rw [b2,kL,bCd,hs,b1,bAv,bB7,qQf];simp
def qXy (s:Ba):(cG s).length=s.data.toList.count 10 + (if s≠⟨#[]⟩∧dK s (s.size - 1)≠10 then 1 else 0):=by
 unfold cG;rw [c8,zGf]
 congr 1
 by_cases h:s=⟨#[]⟩
 ·subst h;rfl
 ·have hne:s.data.toList≠[]:=fun e=>h (by rw [← lZ s,e];rfl)
  have hp:0 < s.size:=by rw [← kE];exact bEi.2 hne
  rw [zE7 s hp];simp [h,hne]
def nl:Ba:=⟨#[10]⟩
def qDt (x:Ba):Ba:=if kL x.data.toList then x else x ++ nl
def dF (l:List Ba):List Ba:=match l.getLast? with
|none=>[]
|some x=>l.set (l.length - 1) (qDt x)
def mZ (l:List Ba):(dF l).length=l.length:=by
 unfold dF;split
 ·rename_i h;rw [List.getLast?_eq_none_iff.1 h]
 ·simp
def qWm (l:List Ba) (i:Nat) (h:i < l.length):(dF l)[i]'(by rw [mZ];exact h)=if i=l.length - 1 then qDt l[i] else l[i]:=by
 have hl:l.getLast?=some l[l.length - 1]:=by rw [bCd,c9 (by omega)]
 unfold dF;simp only [hl,List.getElem_set]
 by_cases e:i=l.length - 1
 ·subst e;simp
 ·rw [b7 (by omega),b7 e]
def dT (s:Ba):Int:=if (∃ i,i < s.size∧dK s i=0) then 21 else if 400 < (cG s).length then 4 else 0
def qP1 (s:Ba):(gM s).length=s.size:=by simp [gM]
def zMh (s:Ba):Wid 1 (gM s)=True:=bEe fun x hx=>by
 simp only [gM,m6] at hx;obtain ⟨b,-,rfl⟩:=hx;rfl
def zMi {s:Ba} {i:Nat} {d:List FV} (h:i < s.size):(gM s).getD i d=[.v (.int .u8 (dK s i))]:=by
 obtain ⟨b,b1,b2⟩:=qJu s i h;rw [b2,b6,gM,y9,b1];rfl
structure LI where
 u:Ba
 l:List Ba
def lsE (k:LI):HS:=⟨[(0,.v (.string k.u)),(3,.own 40)],[(40,.sl true 9 1 (aR k.l))]⟩
def lsI (s:Ba) (k:LI):Prop:=k.l.length + k.u.size≤s.size∧cG s=k.l ++ cG k.u
abbrev lsQ (s:Ba) (h:HV) (st:aC):Prop:=h=.own 0∧st=[(0,.sl true 9 1 (aR (cG s)))]
def qQm (s:Ba) (hs:s.size≤4294967296):HFun Tryz.prog 90 [.v (.string s)] (lsQ s):=by
 refine bP (N:=25) Tryz.func90 rfl Tryz.ntmps90 Tryz.results90 (by simp) ?_
 refine goA 5 ?_;push_cast;refine goL lsE (lsI s) (fun k=>k.u.size) [0,3] [40] ⟨s,[]⟩ (by push_cast[lsE] <;> rfl) ⟨by simp,by simp⟩ ?_
 rintro ⟨u,l⟩ ⟨hl,hsp⟩;dsimp only at hl hsp;simp only [lsE]
 by_cases hu:u=⟨#[]⟩
 ·have hd:decide (u=⟨#[]⟩)=true:=i7 hu
  refine goA 5 ?_;push_cast[hd]
  have e:cG s=l:=by rw [hsp,hu];simp [cG,spl]
  exact iQ rfl (fB _) ⟨rfl,by rw [e]⟩
 ·have hd:decide (u=⟨#[]⟩)=false:=b9 hu
  obtain ⟨n,n1,n2,n3,n4⟩:=zGg u hu
  have hi:=zAp u
  obtain ⟨k,hk⟩:∃ k,k=Lib.indexByte u.data.toList 10:=⟨_,rfl⟩;rw [← hk] at hi n3;refine goA 5 ?_;push_cast[hd];refine cVt yHf hi (.cons (.v _) (.cons (.v _) .nil)) ?_;push_cast(disch:=omega);refine goP [0,3,4] [40] ?_
  have hz:(u.extract n u.size).size=u.size - n:=by rw [bAl];omega
  have fin:(l ++ [u.extract 0 n]).length + (u.extract n u.size).size≤s.size∧cG s=(l ++ [u.extract 0 n]) ++ cG (u.extract n u.size):=⟨by rw [i8,hz];simp;omega,by rw [hsp,n4];simp⟩
  rcases n3 with ⟨e1,e2⟩|e1
  ·refine goA 5 ?_;push_cast[e1];rw [← e2];refine goA 5 ?_;push_cast(disch:=omega)[aJ];(repeat ((with_reducible refine bJa ?_ ?_);focus first|omega|decide))
   exact ⟨⟨u.extract n u.size,l ++ [u.extract 0 n]⟩,by push_cast[lsE,fY] <;> rfl,fin,by dsimp only;omega⟩
  ·rw [e1];refine goA 7 ?_;push_cast(disch:=omega)[aJ];(repeat ((with_reducible refine bJa ?_ ?_);focus first|omega|decide))
   exact ⟨⟨u.extract n u.size,l ++ [u.extract 0 n]⟩,by push_cast[lsE,fY] <;> rfl,fin,by dsimp only;omega⟩
def zQi (s:Ba) (hs:s.size≤4294967296):HFun Tryz.prog 125 [.v (.string s)] (fun h st=>h=.v (.int .i64 ((cG s).length:Nat))):=by
 have hc:=qXy s
 have hct:=zDb s
 have hle:s.data.toList.count 10≤s.size:=by rw [← kE];exact bD7
 obtain ⟨c,hcc⟩:∃ c,c=s.data.toList.count 10:=⟨_,rfl⟩;rw [← hcc] at hc hct hle;obtain ⟨n,hn⟩:∃ n,n=(cG s).length:=⟨_,rfl⟩;rw [← hn] at hc ⊢;refine bP (N:=19) Tryz.func125 rfl Tryz.ntmps125 Tryz.results125 (by simp) ?_
 refine goA 5 ?_;push_cast;refine cVt yAj hct (.cons (.v _) (.cons (.v _) .nil)) ?_;push_cast
 by_cases h:s=⟨#[]⟩
 ·have hd:decide (s=⟨#[]⟩)=true:=i7 h
  rw [b7 (by simp [h])] at hc
  refine goA 5 ?_;push_cast[hd];subst hc;exact aQ rfl
 ·have hd:decide (s=⟨#[]⟩)=false:=b9 h
  have hp:0 < s.size:=by
   rcases bAo s.size with e|e
   ·exact absurd (by rw [← lZ s,o5 ((kE s).trans e)];rfl) h
   ·exact e
  have e1:((s.size:Int) - 1).toNat=s.size - 1:=by omega
  by_cases hb:dK s (s.size - 1)=10
  ·rw [b7 (by simp [hb])] at hc
   refine goA 5 ?_;push_cast(disch:=omega)[hd,e1,hb];(repeat ((with_reducible refine bJa ?_ ?_);focus first|omega|decide))
   subst hc;exact aQ rfl
  ·rw [g8 ⟨h,hb⟩] at hc
   have e2:decide (dK s (s.size - 1)=10)=false:=b9 hb
   refine goA 7 ?_;push_cast(disch:=omega)[hd,e1,e2];(repeat ((with_reducible refine bJa ?_ ?_);focus first|omega|decide))
   subst hc;exact aQ rfl
def txE (s:Ba) (i:Nat):HS:=⟨[(0,.v (.string s)),(6,.lst true (gM s)),(7,.v (.int .i64 s.size)),(8,.v (.int .i64 i))],[]⟩
def qXl (s:Ba) (hs:s.size≤4294967296):HFun Tryz.prog 89 [.v (.string s)] (fun h st=>h=.v (.int .i64 (dT s))):=by
 have hc:=zQi s hs
 have hle:=qS6 s
 refine bP (N:=18) Tryz.func89 rfl Tryz.ntmps89 Tryz.results89 (by simp) ?_
 refine goA 5 ?_;push_cast(disch:=omega)[qP1];(repeat ((with_reducible refine bJa ?_ ?_);focus first|omega|decide))
 refine goL (txE s) (fun i=>i≤s.size∧∀ j,j < i→dK s j≠0) (fun i=>s.size - i) [0,6,7,8] [] 0 (by push_cast[txE] <;> rfl) ⟨g7 _,fun j h=>absurd h (y5 _)⟩ ?_
 rintro i ⟨h1,h2⟩;simp only [txE]
 by_cases hlt:i < s.size
 ·refine goA 5 ?_;push_cast(disch:=omega)[qP1,zMh,zMi hlt];(repeat ((with_reducible refine bJa ?_ ?_);focus first|omega|decide))
  by_cases hb:dK s i=0
  ·have e1:decide (dK s i=0)=true:=i7 hb
   refine goA 5 ?_;push_cast[e1];(repeat ((with_reducible refine bJa ?_ ?_);focus first|omega|decide))
   have e:dT s=21:=g8 ⟨i,hlt,hb⟩
   rw [e];exact aQ rfl
  ·have e1:decide (dK s i=0)=false:=b9 hb
   refine goA 5 ?_;push_cast(disch:=omega)[e1];(repeat ((with_reducible refine bJa ?_ ?_);focus first|omega|decide))
   refine ⟨i + 1,by push_cast[txE] <;> rfl,⟨hlt,fun j hj=>?_⟩,by omega⟩
   by_cases e:j=i
   ·subst e;exact hb
   ·exact h2 j (by omega)
 ·have hno:¬ ∃ i,i < s.size∧dK s i=0:=fun ⟨j,a,b⟩=>h2 j (by omega) b
  obtain ⟨n,hn⟩:∃ n,n=(cG s).length:=⟨_,rfl⟩
  have e:dT s=if 400 < n then 4 else 0:=by rw [hn];exact b7 hno
  rw [← hn] at hc hle;refine goA 5 ?_;push_cast(disch:=omega);refine cVt yHg hc (.cons (.v _) .nil) ?_
  by_cases h4:400 < n
  ·have e2:decide ((n:Int) > 400)=true:=i7 (by omega)
   push_cast(disch:=omega);refine goA 3 ?_;push_cast;rw [e,g8 h4];exact aQ rfl
  ·push_cast(disch:=omega);refine goA 3 ?_;push_cast;rw [e,b7 h4];exact aQ rfl
def qS2 (l:List Ba) (i:Nat) (x:Ba):(aR l).set i [.v (.string x)]=aR (l.set i x):=by simp [aR,uJ,List.map_set]
def qSb (l:List Ba) (h:0 < l.length):dF l=l.set (l.length - 1) (qDt l[l.length - 1]):=by
 unfold dF;rw [bCd,c9 (by omega)]
def qWl (l:List Ba) (hl:l.length≤4294967296) (hs:∀ x ∈ l,x.size≤4294967296):HFun Tryz.prog 73 [.lst false (aR l)] (fun h st=>h=.own 0∧st=[(0,.sl true 9 1 (aR (dF l)))]):=by
 refine bP (N:=28) Tryz.func73 rfl Tryz.ntmps73 Tryz.results73 (by simp) ?_
 refine goA 5 ?_;push_cast(disch:=omega)[aJ,bK];(repeat ((with_reducible refine bJa ?_ ?_);focus first|omega|decide))
 by_cases h0:l.length=0
 ·have:l=[]:=o5 h0
  subst this;refine goA 7 ?_;push_cast(disch:=omega)[aJ];exact iQ rfl (fB _) ⟨rfl,rfl⟩
 ·have hx:=hs _ (c7 (show l.length - 1 < l.length by omega))
  have hsf:=qS1 l[l.length - 1] (by omega)
  have e1:((l.length:Int) - 1).toNat=l.length - 1:=by omega
  have hlast:=qSb l (by omega)
  have hz:l[l.length - 1].size + ({ data:=#[10] }:Ba).size≤9223372036854775807:=by show _ + 1≤_;omega
  rw [qDt] at hlast;refine goA 5 ?_;push_cast(disch:=omega)[aJ,bK,e1,dM (show l.length - 1 < l.length by omega)]
  refine cVt yKh hsf (.cons (.v _) (.cons (.v _) .nil)) ?_
  cases hend:kL l[l.length - 1].data.toList with
 |true =>
   rw [hend,g8 rfl,List.set_getElem_self] at hlast;push_cast;refine goA 3 ?_;push_cast;rw [hlast];exact iQ rfl (fB _) ⟨rfl,rfl⟩
 |false =>
   rw [hend,b7 (by simp)] at hlast
   push_cast[aJ,bK,e1,dM (show l.length - 1 < l.length by omega),qS2,hz];refine goA 5 ?_;push_cast(disch:=omega)[aJ,bK,e1,dM (show l.length - 1 < l.length by omega),qS2,hz];(repeat ((with_reducible refine bJa ?_ ?_);focus first|omega|decide))
   rw [hlast];exact iQ rfl (fB _) ⟨rfl,rfl⟩
end Go.Proofs.Y
