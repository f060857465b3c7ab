/-
  What is known of ref04.Apart: trees that share no memory are told apart.
-/
import Derived.Test.YtlihpgmgiehjkaaGreatDoorApm
import Derived.Test.YtlihpgmgiehjkaaGreatDoorApe
set_option linter.unusedSimpArgs false
set_option linter.unusedVariables false
section
set_option maxRecDepth 20000
namespace Go.Tr
open Go Go.Eng Go.RowKit
def mkE (q:Int):List Value:=[.string ByteArray.empty,.int .i64 q,.string ByteArray.empty]
def tS (k:Nat) (q:Int):List Value:=(List.replicate k (mkE q)).flatten
theorem sM (k:Nat) (q:Int):(tS k q).length=k * 3:=by simp [tS,mkE]
theorem qE4 (k:Nat) (q:Int):tS (k + 1) q=tS k q ++ mkE q:=by rw [tS,List.replicate_succ',List.flatten_append];simp [tS]
theorem qC0:∀ (n:Nat) (q:Int) (k:Nat),k < n→(tS n q)[k * 3 + 1]?=some (.int .i64 q)
|0,q,k,h=>by omega
|n + 1,q,k,h=>by
  rw [qE4]
  by_cases e:k < n
  ·rw [List.getElem?_append_left (by rw [sM];omega)];exact qC0 n q k e
  ·have:k=n:=by omega
   subst this;rw [List.getElem?_append_right (by rw [sM];omega),sM]
   rw [show k * 3 + 1 - k * 3=1 by omega];rfl
def qA5 (i:Nat):Int:=1000 + (i:Int)
def qFd (i:Nat):Int:=2000 + (i:Int)
theorem qZw {P:Program} {w:World} {base e n cap g i ty:Nat} {xs:List Value} {vs:Array Value} (h:Own w base e 3 (.slice (some ⟨g,0,none⟩) n cap) n xs) (hk:cE P ty=some (some vs.size)) (hv:∀ v ∈ vs.toList,v.oneCell'=true) (hi:i + vs.size≤n * 3) :
  ∃ w',(storeVar ty ⟨g,i,none⟩ (.agg vs)).run P w=.ok () w'∧Own w' base e 3 (.slice (some ⟨g,0,none⟩) n cap) n (splice xs i vs.toList)∧Only g w w':=by
 have hl:=h.1
 rcases h.2 with ⟨hv',_⟩|⟨g',cap',cur,hv',hb,hg,hn,hm,hs,ht⟩
 ·cases hv'
 ·cases hv'
  have hlt:i + vs.size≤cur.size:=by rw [hs];exact Nat.le_trans hi (Nat.mul_le_mul_right _ hn)
  obtain ⟨w',h1,h2,h3⟩:=xQ (P:=P) (ty:=ty) (i:=i) (vs:=vs) (show Blk w g cur e from hg) hk hv hlt
  have hlen:(splice cur.toList i vs.toList).length=cur.size:=by simp [splice];omega
  refine ⟨w',h1,⟨?_,.inr ⟨g,cap,_,rfl,hb,h2,hn,hm,by rw [List.size_toArray,hlen];exact hs,?_⟩⟩,h3⟩
  ·simp [splice];omega
  ·rw [List.toList_toArray,← ht]
   have hle:n * 3≤cur.toList.length:=by rw [Array.length_toList,hs];exact Nat.mul_le_mul_right _ hn
   apply List.ext_getElem?
   intro j
   by_cases hj:j < n * 3
   ·rw [List.getElem?_take_of_lt hj,eJ _ _ _ (by simpa using hlt),eJ _ _ _ (by rw [List.length_take];simp;omega),List.getElem?_take_of_lt hj]
   ·rw [List.getElem?_take_eq_none (by omega),eJ _ _ _ (by rw [List.length_take];simp;omega),if_neg (by simp;omega),List.getElem?_take_eq_none (by omega)]
theorem qTg {k:Nat} {xs cs:List Value} {a:Nat} (hc:cs.length=3) (ha:a=k * 3) (hl:a + 3≤xs.length):(splice xs a cs).take ((k + 1) * 3)=xs.take a ++ cs:=by
 subst ha
 have e:(k + 1) * 3=(xs.take (k * 3) ++ cs).length:=by simp [hc];omega
 rw [splice,e,List.take_left' rfl]
theorem zQq (q:Int):Instr.fill (fun i=>some (i * 3,3)) ((Array.range (1 * 3)).map ((#[.string ByteArray.empty,.int .i64 0,.string ByteArray.empty]:Array Value)[· % (#[.string ByteArray.empty,.int .i64 0,.string ByteArray.empty]:Array Value).size]!)) #[(0,Value.agg #[.string ByteArray.empty,.int .i64 q,.string ByteArray.empty])].toList=some #[.string ByteArray.empty,.int .i64 q,.string ByteArray.empty]:=by kernel_rfl
theorem zQp (a:Option Addr) (n c:Nat):Instr.fill (fun i=>some (i * 1,1)) ((Array.range (1 * 1)).map ((#[.slice none 0 0]:Array Value)[· % (#[.slice none 0 0]:Array Value).size]!)) #[(0,Value.slice a n c)].toList=some #[.slice a n c]:=by kernel_rfl
end Go.Tr
namespace Go.Proofs.YtlihpgmgiehjkaaGreatDoor
open Go Go.Eng Go.RowKit Go.Tr
attribute [local push_cast] zJa zB2 qB1 qEc qAt qH0 qHz qEb qCi qCj qEi qAy qA2 vN vB uN uU uS uR vA qAi uM nA uZ uT uV uW uX uY uQ uP tN tL tF tG tH tJ tK qZ qU rB rA qY qX qW qV rC qAw qAv tU tX tT oP oN oM kG kH qT qAc qAb mZ oL xW tZ xX xV xU xY uA qHl yR qHk qTz zBi qHn qDc uB qDd qDb qDa qC8 qTx uC qHo qHm qC7 qDf qTy qDe xZ qC9 qH3 qEe qEg qAu qEf qUl qH4 qUk qH1 qEd qH2 qUj yX uD qAa zF vL vK qT2 qHt qDi qHu qDr qAn qAm qHw qAj qAl qDs qHx vD qAo qDt vC qAk qTb qHj qTa qHi qCe
attribute [local push_cast] List.take_succ_cons List.take_zero List.drop_succ_cons List.drop_zero true_and and_true Option.isSome_some List.getElem?_cons_zero List.getElem?_cons_succ List.length_cons List.length_nil cond_true cond_false Int.toNat_natCast Nat.mul_one Nat.add_zero Nat.zero_add Addr.add_lit bne_self_eq_false beq_self_eq_true Bool.not_true Bool.not_false List.size_toArray Array.getD_eq_getD_getElem? List.getElem?_toArray Option.getD_some decide_true decide_false eq_self Bool.true_beq Bool.false_beq
theorem zDm (q:Int) (w:World):(Instr.build 52 #[(0,.int .i64 q)]).run Tryz.prog w=.ok (.agg #[.int .i64 q,.string ByteArray.empty]) w:=by kernel_rfl
theorem zDl (q:Int) (w:World):(Instr.build 54 #[(1,.agg #[.int .i64 q,.string ByteArray.empty])]).run Tryz.prog w=.ok (.agg #[.string ByteArray.empty,.int .i64 q,.string ByteArray.empty]) w:=by kernel_rfl
set_option maxHeartbeats 1000000 in
theorem qUm (w:World) (n L cap:Nat) (ad:Option Addr) (V:Nat→Value) (m:Nat→Nat) (X:Nat→List Value) (ow:Nat→Nat) (T:Nat→Prop) (hv:0 < n→ad=some ⟨L,0,none⟩)
  (hM:Marked w w T 54 3 n V m X) (ht:∀ j,j < n→Tag w ow (V j) j) (hT:∀ j b,j < n→(V j).ownBlock=some b→T b) (hL:∀ j,j < n→ow L=n + 1∧L < w.heap.size∧¬ T L∧w.cell? ⟨L,j,none⟩=some (V j))
  (hn:n≤1000000) (hm:∀ j,j < n→m j≤1000000000) :
  Calls Tryz.prog 16 #[.slice ad n cap] w (Ret fun r w'=>r=.bool true∧Kept T w w'):=by
 refine qEk (args:=[_]) Tryz.func16 rfl Tryz.ntmps16 Tryz.results16 (by simp) ?_
 have hd:∀ i j b,i < n→j < n→(V i).ownBlock=some b→(V j).ownBlock=some b→i=j:=fun i j b hi hj h1 h2=>by
  rw [← (ht i hi b h1).1,(ht j hj b h2).1]
 have hV:∀ j,j < n→∃ a c,V j=.slice a (m j) c∧(0 < m j→∃ g,a=some ⟨g,0,none⟩):=fun j hj=>by
  obtain ⟨a,c,h1,h2⟩:=Own.form (hM.own j hj);exact ⟨a,c,h1,fun h=>by obtain ⟨g,e,-⟩:=h2 h;exact ⟨g,e⟩⟩
 refine bZ ?_;refine cQ (fun K hK=>?_);simp only [push_cast,simprocAttr];refine hK _ _ ?_;clear hK K
 refine bZ ?_;refine bZ ?_;refine cQ (fun K hK=>?_);simp only [push_cast,simprocAttr];refine hK _ _ ?_;clear hK K
 refine qB6 (l':=_) [0,3] (by simp only [keep,lk,Nat.reduceEqDiff,reduceIte];exact rfl) ?_
 skip
 refine gM ?_;refine vP (fun x:Nat × (Nat→List Value)=>[(0,.slice ad n cap),(3,.int .i64 x.1)]) (fun x w1=>x.1≤n∧Marked w w1 T 54 3 n V m x.2∧∀ j,j < x.1→x.2 j=tS (m j) (qA5 j)) (fun x=>n - x.1) [0,3] (0,X) rfl ⟨Nat.zero_le _,hM,fun j hj=>absurd hj (Nat.not_lt_zero _)⟩ ?_
 rintro ⟨i,Y⟩ w1 ⟨hi,hM1,hY⟩;simp only at hi hM1 hY;refine bZ ?_;refine bZ ?_;refine cQ (fun K hK=>?_);simp only [push_cast,simprocAttr,qHf];refine hK _ _ ?_;clear hK K
 refine zV ?_;refine gL rfl (fun hlt=>?_) (fun hge=>?_)
 ·have hin:i < n:=by simpa using hlt
  obtain rfl:=hv (by omega)
  refine jW ?_;refine bZ ?_;refine gM ?_;refine bZ ?_;refine cQ (fun K hK=>?_);simp only [push_cast,simprocAttr];refine hK _ _ ?_;clear hK K
  refine zV ?_;refine gM ?_
  have hin':(0:Int)≤i∧(i:Int) < n:=by omega
  obtain ⟨av,cv,hVi⟩:=dD (hM1.own i hin);refine vP (fun x:Nat × (Nat→List Value)=>[(0,.slice (some ⟨L,0,none⟩) n cap),(3,.int .i64 i),(4,.int .i64 x.1)]) (fun x w1=>x.1≤m i∧Marked w w1 T 54 3 n V m x.2∧(∀ j,j < i→x.2 j=tS (m j) (qA5 j))∧(x.2 i).take (x.1 * 3)=tS x.1 (qA5 i)) (fun x=>m i - x.1) [0,3,4] (0,Y) rfl ⟨Nat.zero_le _,hM1,hY,rfl⟩ ?_
  clear hM1 hY;rintro ⟨k,Y⟩ w1 ⟨hk,hM1,hY,hY2⟩;simp only at hk hM1 hY hY2
  have cL:∀ {w1:World},Kept T w w1→w1.cell? ⟨L,i,none⟩=some (V i):=fun K=>by
   obtain ⟨-,b,d,e⟩:=hL i hin;rw [gJ (K.block L b d)];exact e
  have c1:=cL hM1.kept
  rw [hVi] at c1;refine bZ ?_;refine bZ ?_;refine cQ (fun K hK=>?_);simp only [push_cast,simprocAttr,qHf,qTc,qUa,hin',c1];refine hK _ _ ?_;clear hK K
  refine zV ?_;refine gL rfl (fun hlk=>?_) (fun hgk=>?_)
  ·have hkm:k < m i:=by simpa using hlk
   have hkm':(0:Int)≤k∧(k:Int) < m i:=by omega
   have hmi:=hm i hin
   have ho:=hM1.own i hin
   rw [hVi] at ho;obtain ⟨ac,cv',hcv,hcap,hcap2,hcell⟩:=fM ho (by omega)
   cases hcv
   have hw4:IntKind.i64.wrap (1000 + (i:Int))=qA5 i:=qEq (by omega) (by omega)
   refine jW ?_;refine bZ ?_;refine gM ?_;refine qB6 (l':=_) [0,3,4] (by simp only [keep,lk,Nat.reduceEqDiff,reduceIte];exact rfl) ?_
   refine cQ (fun K hK=>?_);simp only [push_cast,simprocAttr,qHf,qTc,qUa,hin',c1,hkm',hw4,zQ4,zQ3]
   refine ⟨_,zDm (qA5 i),?_⟩;refine v2s ?_;try simp only [push_cast,simprocAttr];refine ⟨_,zDl (qA5 i),?_⟩;refine v2s ?_;try simp only [push_cast,simprocAttr,qTc,hkm'];obtain ⟨w3,s1,s2,s3⟩:=qZw (P:=Tryz.prog) (ty:=54) (i:=k * 3) (vs:=#[.string ByteArray.empty,.int .i64 (qA5 i),.string ByteArray.empty]) ho zQh (fun v hv=>by simp at hv;rcases hv with rfl|rfl|rfl <;> rfl) (by show k * 3 + 3≤m i * 3;omega)
   refine ⟨w3,s1,?_⟩;refine v2s ?_;try simp only [push_cast,simprocAttr];refine hK _ _ ?_;clear hK K
   have hM3:=hM1.turn hd hT hin (by rw [hVi];rfl) s3 (by rw [hVi];exact s2)
   have hwr:IntKind.i64.wrap ((k:Int) + 1)=(k:Int) + 1:=qEq (by omega) (by omega)
   refine zY ?_;refine zV ?_;refine cQ (fun K hK=>?_);simp only [push_cast,simprocAttr,hwr];refine hK _ _ ?_;clear hK K
   refine zV ?_;refine ⟨(k + 1,qPb Y i (splice (Y i) (k * 3) (mkE (qA5 i)))),rfl,⟨by show k + 1≤m i;omega,hM3,fun j hj=>?_,?_⟩,by show m i - (k + 1) < m i - k;omega⟩
   ·show qPb Y i _ j=_
    rw [qCc _ _ _ _ (by omega)];exact hY j hj
   ·show (qPb Y i _ i).take ((k + 1) * 3)=_
    rw [sH]
    have hlen:(Y i).length=m i * 3:=(hM1.own i hin).1
    rw [qTg rfl rfl (by omega),hY2,qE4]
  ·have hkm:k=m i:=by simp at hgk;omega
   subst hkm;refine vQ ?_;refine yP ?_;refine yP ?_;refine yQ ?_;refine zY ?_;refine zV ?_
   have hwr:IntKind.i64.wrap ((i:Int) + 1)=(i:Int) + 1:=qEq (by omega) (by omega)
   refine cQ (fun K hK=>?_);simp only [push_cast,simprocAttr,hwr];refine hK _ _ ?_;clear hK K
   refine zV ?_;refine ⟨(i + 1,Y),rfl,⟨hin,hM1,fun j hj=>?_⟩,by show n - (i + 1) < n - i;omega⟩
   by_cases e:j=i
   ·subst e
    have hlen:(Y j).length=m j * 3:=(hM1.own j hin).1
    rw [← hlen,List.take_length] at hY2;exact hY2
   ·exact hY j (by have:j < i + 1:=hj;omega)
 ·have hin:i=n:=by simp at hge;omega
  have hY':Marked w w1 T 54 3 n V m (fun j=>tS (m j) (qA5 j)):=⟨hM1.kept,fun j hj=>by have:=hM1.own j hj;rw [hY j (by omega)] at this;exact this⟩
  have hG:=hY'.grown ht hL (fun j=>tS 20 (qFd j)) V 32
  clear hY' hM1 hY hM hge;refine vQ ?_;refine yP ?_;refine yP ?_;refine yQ ?_;refine bZ ?_;refine cQ (fun K hK=>?_);simp only [push_cast,simprocAttr];refine hK _ _ ?_;clear hK K
  refine bZ ?_;refine bZ ?_;refine cQ (fun K hK=>?_);simp only [push_cast,simprocAttr];refine hK _ _ ?_;clear hK K
  refine zV ?_;refine gM ?_;refine vP (fun x:Nat × Value × (Nat→Value) × (Nat→Nat)=>[(0,.slice ad n cap),(5,x.2.1),(6,.int .i64 x.1)]) (fun x w1=>x.1≤n∧Grown w w1 T 54 3 32 n x.1 x.1 L V m (fun j=>tS (m j) (qA5 j)) (fun j=>tS 20 (qFd j)) x.2.2.2 x.2.2.1 x.2.1) (fun x=>n - x.1) [0,5,6] (0,.slice none 0 0,V,ow) rfl ⟨Nat.zero_le _,hG⟩ ?_
  clear hG;rintro ⟨i,lv,U,ow'⟩ w1 ⟨hi,hG⟩;simp only at hi hG;refine bZ ?_;refine bZ ?_;refine cQ (fun K hK=>?_);simp only [push_cast,simprocAttr,qHf];refine hK _ _ ?_;clear hK K
  refine zV ?_;refine gL rfl (fun hlt=>?_) (fun hge=>?_)
  ·have hin:i < n:=by simpa using hlt
   obtain rfl:=hv (by omega)
   have hin':(0:Int)≤i∧(i:Int) < n:=by omega
   have c1:=(hG.outer i hin).2.2
   refine jW ?_;refine bZ ?_;refine gM ?_;refine bZ ?_;refine cQ (fun K hK=>?_);simp only [push_cast,simprocAttr,qHf,qUa,hin',c1];refine hK _ _ ?_;clear hK K
   refine bZ ?_;refine bZ ?_;refine cQ (fun K hK=>?_);simp only [push_cast,simprocAttr];refine hK _ _ ?_;clear hK K
   refine qB6 (l':=_) [0,5,6,7,8] (by simp only [keep,lk,Nat.reduceEqDiff,reduceIte];exact rfl) ?_
   skip
   refine gM ?_
   have hmi:=hm i hin
   refine vP (fun x:Nat × Value × (Nat→Nat)=>[(0,.slice (some ⟨L,0,none⟩) n cap),(5,lv),(6,.int .i64 i),(7,x.2.1),(8,.int .i64 x.1)])
    (fun x w1=>x.1≤20∧Grown w w1 T 54 3 32 n i (i + 1) L V m (fun j=>tS (m j) (qA5 j)) (fun j=>tS 20 (qFd j)) x.2.2 U lv∧Tag w1 x.2.2 x.2.1 i∧(∀ b,x.2.1.ownBlock=some b→w.heap.size≤b∨T b)∧Own w1 0 54 3 x.2.1 (m i + x.1) (tS (m i) (qA5 i) ++ tS x.1 (qFd i))) (fun x=>20 - x.1) [0,5,6,7,8] (0,V i,ow') rfl
    ⟨Nat.zero_le _,⟨hG.kept,hG.rd,fun j h1 h2=>hG.own j (by omega) h2,hG.grown,hG.long,hG.newL,hG.tagV,hG.tagU,hG.tagL,hG.outer⟩,hG.tagV i hin,fun b hb=>.inr (hT i b hin hb),by have:=hG.own i (Nat.le_refl _) hin;simpa [tS] using this⟩ ?_
   clear hG c1;rintro ⟨k,x,ow1⟩ w1 ⟨hk,hG,htx,hTx,hox⟩;simp only at hk hG htx hTx hox;refine bZ ?_;refine bZ ?_;refine cQ (fun K hK=>?_);simp only [push_cast,simprocAttr];refine hK _ _ ?_;clear hK K
   refine zV ?_;refine gL rfl (fun hlk=>?_) (fun hgk=>?_)
   ·have hk20:k < 20:=by simp at hlk;omega
    refine jW ?_;refine bZ ?_;refine gM ?_
    have hw4:IntKind.i64.wrap (2000 + (i:Int))=qFd i:=qEq (by omega) (by omega)
    refine cQ (fun K hK=>?_);simp only [push_cast,simprocAttr,hw4]
    refine ⟨_,zDm (qFd i),?_⟩;refine v2s ?_;try simp only [push_cast,simprocAttr];refine ⟨_,zDl (qFd i),?_⟩;refine v2s ?_;try simp only [push_cast,simprocAttr];obtain ⟨w2,b1,b2,b3,b4⟩:=qHq (P:=Tryz.prog) (w:=w1) (len:=1) #[.string ByteArray.empty,.int .i64 (qFd i),.string ByteArray.empty] zMr (by omega) (by simp [maxLen]) (zQq (qFd i)) rfl
    refine ⟨_,w2,b1,?_⟩
    have hG2:=hG.up b3
    have hox2:=hox.up b3
    have htx2:=htx.up b3.size
    obtain ⟨x',w3,s1,s2,s3,s5,s6⟩:=qN6 (P:=Tryz.prog) (t:=32) (ty:=32) zMr rfl (by omega) (by omega) hox2 (news:=mkE (qFd i)) (m:=1) (.inl ⟨⟨w1.heap.size,0,none⟩,1,rfl,fun j u hj=>by
     rw [Addr.add_lit,Nat.zero_add];exact b2.rd w1.heap.size rfl j u hj⟩) rfl (fun u hu=>by simp [mkE] at hu;rcases hu with rfl|rfl|rfl <;> rfl) (by omega)
    refine v2s ?_;try simp only [push_cast,simprocAttr];refine ⟨x',w3,s1,?_⟩;refine v2s ?_;try simp only [push_cast,simprocAttr];refine hK _ _ ?_;clear hK K;rw [List.append_assoc,← qE4] at s2;obtain ⟨g1,g2,g3⟩:=hG2.app hin htx2 s2 s3 s5 s6 hTx
    have hwr:IntKind.i64.wrap ((k:Int) + 1)=(k:Int) + 1:=qEq (by omega) (by omega)
    refine zY ?_;refine zV ?_;refine cQ (fun K hK=>?_);simp only [push_cast,simprocAttr,hwr];refine hK _ _ ?_;clear hK K
    refine zV ?_;exact ⟨(k + 1,x',_),rfl,⟨hk20,g1,g2,g3,s2⟩,by show 20 - (k + 1) < 20 - k;omega⟩
   ·have hk20:k=20:=by simp at hgk;omega
    subst hk20;refine vQ ?_;refine yP ?_;refine yP ?_;refine yQ ?_;refine zV ?_;refine qB6 (l':=_) [0,5,6,7] (by simp only [keep,lk,Nat.reduceEqDiff,reduceIte];exact rfl) ?_
    refine cQ (fun K hK=>?_);simp only [push_cast,simprocAttr]
    obtain ⟨w2,b1,b2,b3,b4⟩:=qHq (P:=Tryz.prog) (w:=w1) (parts:=#[(0,x)]) (len:=1) #[x] zMq (by omega) (by simp [maxLen]) (by obtain ⟨a,c,rfl⟩:=dD hox;exact zQp a _ c) rfl
    refine ⟨_,w2,b1,?_⟩
    have hG2:=hG.up b3
    have hox2:=hox.up b3
    have htx2:=htx.up b3.size
    obtain ⟨lv',w3,s1,s2,s3,s5,s6⟩:=qN6 (P:=Tryz.prog) (t:=45) (ty:=45) zMq rfl (by omega) (by omega) hG2.long (news:=[x]) (m:=1) (.inl ⟨⟨w1.heap.size,0,none⟩,1,rfl,fun j u hj=>by
     rw [Addr.add_lit,Nat.zero_add];exact b2.rd w1.heap.size rfl j u hj⟩) rfl (by obtain ⟨a,c,rfl⟩:=dD hox;simp [Value.oneCell']) (by omega)
    refine v2s ?_;try simp only [push_cast,simprocAttr];refine ⟨lv',w3,s1,?_⟩;refine v2s ?_;try simp only [push_cast,simprocAttr];refine hK _ _ ?_;clear hK K
    have g1:=hG2.next hin htx2 hox2 s2 s3 s5
    have hwr:IntKind.i64.wrap ((i:Int) + 1)=(i:Int) + 1:=qEq (by omega) (by omega)
    refine zY ?_;refine zV ?_;refine cQ (fun K hK=>?_);simp only [push_cast,simprocAttr,hwr];refine hK _ _ ?_;clear hK K
    refine zV ?_;exact ⟨(i + 1,lv',_,_),rfl,⟨hin,g1⟩,by show n - (i + 1) < n - i;omega⟩
  ·have hin:i=n:=by simp at hge;omega
   subst hin;refine vQ ?_;refine yP ?_;refine yP ?_;refine yQ ?_;refine bZ ?_;refine bZ ?_;refine qB6 (l':=_) [0,5] (by simp only [keep,lk,Nat.reduceEqDiff,reduceIte];exact rfl) ?_
   refine cQ (fun K hK=>?_);simp only [push_cast,simprocAttr];refine hK _ _ ?_;clear hK K
   refine zV ?_;refine gM ?_
   have hK:=hG.kept
   refine vP (fun x:Nat=>[(0,.slice ad i cap),(5,lv),(9,.int .i64 x)]) (fun x w2=>x≤i∧w2=w1) (fun x=>i - x) [0,5,9] 0 rfl ⟨Nat.zero_le _,rfl⟩ ?_
   rintro j w2 ⟨hj,rfl⟩;refine bZ ?_;refine bZ ?_;refine cQ (fun K hK=>?_);simp only [push_cast,simprocAttr,qHf];refine hK _ _ ?_;clear hK K
   refine zV ?_;refine gL rfl (fun hlt=>?_) (fun hge=>?_)
   ·have hjn:j < i:=by simpa using hlt
    obtain rfl:=hv (by omega)
    have hjn':(0:Int)≤j∧(j:Int) < i:=by omega
    have c1:=(hG.outer j hjn).2.2
    obtain ⟨al,cl,hlv⟩:=dD hG.long;subst hlv;obtain ⟨gl,cl',hcl,-,-,hcell⟩:=fM hG.long (by omega)
    cases hcl
    have c2:w2.cell? ⟨gl,j,none⟩=some (U j):=hcell j _ (by rw [List.getElem?_map,List.getElem?_range hjn];rfl)
    have hoU:=hG.grown j hjn
    obtain ⟨au,cu,hU⟩:=dD hoU;rw [hU] at hoU c2;obtain ⟨gu,cu',hcu,-,-,hcellU⟩:=fM hoU (by omega)
    cases hcu
    refine jW ?_;refine bZ ?_;refine gM ?_;refine bZ ?_;refine cQ (fun K hK=>?_);simp only [push_cast,simprocAttr];refine hK _ _ ?_;clear hK K
    refine zV ?_;refine gM ?_
    have hmj:=hm j hjn
    refine vP (fun x:Nat=>[(0,.slice (some ⟨L,0,none⟩) i cap),(5,.slice (some ⟨gl,0,none⟩) i cl),(9,.int .i64 j),(10,.int .i64 x)]) (fun x w3=>x≤m j + 20∧w3=w2) (fun x=>m j + 20 - x) [0,5,9,10] 0 rfl ⟨Nat.zero_le _,rfl⟩ ?_
    rintro k w3 ⟨hk,rfl⟩;refine bZ ?_;refine bZ ?_;refine cQ (fun K hK=>?_);simp only [push_cast,simprocAttr,qHf,qTc,qUa,hjn',c1,c2];refine hK _ _ ?_;clear hK K
    refine zV ?_;refine gL rfl (fun hlk=>?_) (fun hgk=>?_)
    ·have hkm:k < m j + 20:=by simp at hlk;omega
     refine jW ?_;refine bZ ?_;refine gM ?_
     have hw4:IntKind.i64.wrap (1000 + (j:Int))=qA5 j:=qEq (by omega) (by omega)
     have hw5:IntKind.i64.wrap (2000 + (j:Int))=qFd j:=qEq (by omega) (by omega)
     refine qB6 (l':=_) [0,5,9,10] (by simp only [keep,lk,Nat.reduceEqDiff,reduceIte];exact rfl) ?_
     refine bZ ?_;refine cQ (fun K hK=>?_);simp only [push_cast,simprocAttr,hw4];refine hK _ _ ?_;clear hK K
     obtain ⟨aj,cj,hVj,hVa⟩:=hV j hjn;rw [hVj] at c1;refine zV ?_;refine zTq (ι:=Unit) (fun _=>[(0,.slice (some ⟨L,0,none⟩) i cap),(5,.slice (some ⟨gl,0,none⟩) i cl),(9,.int .i64 j),(10,.int .i64 k),(11,.int .i64 (if m j≤k then qFd j else qA5 j))]) (fun _ w4=>w4=w3) [0,5,9,10,11] ?_ ?_
     ·refine bZ ?_;refine cQ (fun K hK=>?_);simp only [push_cast,simprocAttr,qHf,qTc,qUa,hjn',c1];refine hK _ _ ?_;clear hK K
      refine zV ?_;refine gL rfl (fun hm1=>?_) (fun hm1=>?_)
      ·have hm1:m j≤k:=by simpa using hm1
       refine cQ (fun K hK=>?_);simp only [push_cast,simprocAttr,hw5];refine hK _ _ ?_;clear hK K
       exact ⟨(),by simp only [keep,lk,Nat.reduceEqDiff,reduceIte,if_pos hm1],rfl⟩
      ·have hm1:k < m j:=by simpa using hm1
       refine jW ?_;refine zV ?_;exact ⟨(),by simp only [keep,lk,Nat.reduceEqDiff,reduceIte,if_neg (Nat.not_le.2 hm1)],rfl⟩
     ·rintro - w4 rfl
      have hk':(0:Int)≤k∧(k:Int) < (m j + 20:Nat):=by omega
      have c3:w4.cell? ⟨gu,k * 3 + 1,none⟩=some (.int .i64 (if m j≤k then qFd j else qA5 j)):=by
       refine hcellU (k * 3 + 1) _ ?_
       by_cases h:m j≤k
       ·rw [if_pos h,List.getElem?_append_right (by rw [sM];omega),sM,show k * 3 + 1 - m j * 3=(k - m j) * 3 + 1 by omega]
        exact qC0 _ _ _ (by omega)
       ·rw [if_neg h,List.getElem?_append_left (by rw [sM];omega)]
        exact qC0 _ _ _ (by omega)
      by_cases hm1:m j≤k
      ·have e1:decide ((k:Int) < m j)=false:=decide_eq_false (by omega)
       refine bZ ?_;refine cQ (fun K hK=>?_);simp only [push_cast,simprocAttr,qHf,qTc,qUa,kt3,qUh,qUi,hjn',c1,c2,c3,hk',e1]
       refine ⟨by omega,?_⟩
       refine hK _ _ ?_;clear hK K;refine zV ?_;refine zDr rfl ?_
       have hwr:IntKind.i64.wrap ((k:Int) + 1)=(k:Int) + 1:=qEq (by omega) (by omega)
       refine jW ?_;refine zY ?_;refine zV ?_;refine cQ (fun K hK=>?_);simp only [push_cast,simprocAttr,hwr];refine hK _ _ ?_;clear hK K
       refine zV ?_;exact ⟨k + 1,rfl,⟨by omega,rfl⟩,by omega⟩
      ·obtain ⟨gj,rfl⟩:=hVa (by omega)
       have c4:w4.cell? ⟨gj,k * 3 + 1,none⟩=some (.int .i64 (qA5 j)):=by
        refine hG.rd j hjn gj (by rw [hVj];rfl) (k * 3 + 1) _ ?_
        exact qC0 _ _ _ (by omega)
       rw [if_neg hm1] at c3 ⊢
       have e1:decide ((k:Int) < m j)=true:=decide_eq_true (by omega)
       have hk2:(0:Int)≤k∧(k:Int) < m j:=by omega
       refine bZ ?_;refine cQ (fun K hK=>?_);simp only [push_cast,simprocAttr,qHf,qTc,qUa,kt3,qUh,qUi,hjn',c1,c2,c3,c4,hk',hk2,e1]
       refine ⟨by omega,?_⟩
       refine hK _ _ ?_;clear hK K;refine zV ?_;refine zDr rfl ?_
       have hwr:IntKind.i64.wrap ((k:Int) + 1)=(k:Int) + 1:=qEq (by omega) (by omega)
       refine jW ?_;refine zY ?_;refine zV ?_;refine cQ (fun K hK=>?_);simp only [push_cast,simprocAttr,hwr];refine hK _ _ ?_;clear hK K
       refine zV ?_;exact ⟨k + 1,rfl,⟨by omega,rfl⟩,by omega⟩
    ·refine vQ ?_;refine yP ?_;refine yP ?_;refine yQ ?_;refine zY ?_;refine zV ?_
     have hwr:IntKind.i64.wrap ((j:Int) + 1)=(j:Int) + 1:=qEq (by omega) (by omega)
     refine cQ (fun K hK=>?_);simp only [push_cast,simprocAttr,hwr];refine hK _ _ ?_;clear hK K
     refine zV ?_;exact ⟨j + 1,rfl,⟨by omega,rfl⟩,by omega⟩
   ·refine vQ ?_;refine yP ?_;refine yP ?_;refine yQ ?_;refine bZ ?_;refine cQ (fun K hK=>?_);simp only [push_cast,simprocAttr];refine hK _ _ ?_;clear hK K
    refine zV ?_;refine qBm ?_;simp only [qUg,mA,tup,lk,Nat.reduceEqDiff,reduceIte,reduceCtorEq];exact ⟨trivial,hK⟩
end Go.Proofs.YtlihpgmgiehjkaaGreatDoor
end
section
set_option maxRecDepth 20000
namespace Go.Proofs.YtlihpgmgiehjkaaGreatDoor
open Go Go.Eng Go.RowKit Go.Tr
theorem zL9 {n:Nat} {st:aJ} {nw0:Bool} {els:List (List HV)} (id:Nat→Nat) (nw:Nat→Bool) (ls:Nat→List Ent) (h0:rlk st 0=some (.hl nw0 32 1 els)) (hlen:els.length=n) (hels:∀ i (h:i < els.length),els[i]=[.own (id i)])
  (hrow:∀ i,i < n→rlk st (id i)=some (.sl (nw i) 54 3 (jR (ls i)))) (hid:∀ i j,i < n→j < n→id i=id j→i=j) (hid0:∀ i,i < n→id i≠0) (hbx:∀ j,¬ nS (rlk st j)) (hn:n≤1000000) (hm:∀ i,i < n→(ls i).length≤1000000000) :
  HFunS Tryz.prog 16 [.own 0] st (fun h st'=>h=.v (.bool true)∧st'=[]):=by
 intro c w ρ xs vs hw G R;obtain ⟨v,rfl⟩:∃ v,vs=[v]:=by
  match vs,R.1 with
 |[v],_=>exact ⟨v,rfl⟩
 have hv:=R.2 0 (by simp) (by simp)
 simp only [List.getElem_cons_zero] at hv
 cases hv with
|own _ h1 =>
 subst hlen;obtain ⟨o1,o2,o3⟩:=mY G h0;obtain ⟨ad,cap,hv0,hvf⟩:=Own.form o1
 have hcellV:∀ i (h:i < els.length),(xs 0)[i]?=some (ρ (id i)):=fun i h=>by
  obtain ⟨u,u1,-,u3⟩:=o3 i 0 h (by rw [hels i h];simp)
  simp only [hels i h,List.getElem_cons_zero] at u3
  cases u3
  rw [Nat.mul_one,Nat.add_zero] at u1;exact u1
 have hL:∃ L,(0 < els.length→ad=some ⟨L,0,none⟩∧L < w.heap.size∧∀ j u,(xs 0)[j]?=some u→w.cell? ⟨L,j,none⟩=some u):=by
  by_cases h:0 < els.length
  ·obtain ⟨g,e,-,a,b⟩:=hvf h;exact ⟨g,fun _=>⟨e,a,b⟩⟩
  ·exact ⟨0,fun h'=>absurd h' h⟩
 obtain ⟨L,hL⟩:=hL
 let T:Nat→Prop:=fun b=>∃ i,i < els.length∧(ρ (id i)).ownBlock=some b
 have huniq:∀ i j b,i < els.length→j < els.length→(ρ (id i)).ownBlock=some b→(ρ (id j)).ownBlock=some b→i=j:=fun i j b hi hj h1 h2=>by
  by_cases e:i=j
  ·exact e
  ·exact (G.apart (id i) (id j) _ _ b (fun e2=>e (hid i j hi hj e2)) (hrow i hi) (hrow j hj) h1 h2).elim
 classical
 let ow:Nat→Nat:=fun b=>if h:T b then Classical.choose h else els.length + 1
 have how:∀ i b,i < els.length→(ρ (id i)).ownBlock=some b→ow b=i:=fun i b hi hb=>by
  have h:T b:=⟨i,hi,hb⟩
  show (if h:T b then Classical.choose h else _)=i
  rw [dif_pos h];exact huniq _ _ b (Classical.choose_spec h).1 hi (Classical.choose_spec h).2 hb
 have hTL:0 < els.length→¬ T L:=fun h ⟨i,hi,hb⟩=>by
  refine G.apart (id i) 0 _ _ L (hid0 i hi) (hrow i hi) h0 hb ?_;rw [hv0,(hL h).1];rfl
 rw [hv0];refine Ret.mono (qUm w els.length L cap ad (fun i=>ρ (id i)) (fun i=>(ls i).length) (fun i=>xs (id i)) ow T (fun h=>(hL h).1) ⟨Kept.refl _ _,fun j hj=>?_⟩ (fun j hj b hb=>⟨how j b hj hb,G.lt (hrow j hj) hb⟩) (fun j b hj hb=>⟨j,hj,hb⟩) (fun j hj=>?_) hn hm) ?_
 ·have:=(dT G (hrow j hj)).1
  simpa [jR] using this
 ·obtain ⟨a,b,d⟩:=hL (by omega)
  refine ⟨?_,b,hTL (by omega),d j _ (hcellV j hj)⟩
  show (if h:T L then Classical.choose h else _)=_
  rw [dif_neg (hTL (by omega))]
 ·rintro r w' ⟨rfl,hK⟩;refine ⟨_,[],ρ,xs,fun i r h=>by simp [rlk] at h,fun j h=>(hbx j h).elim,⟨rfl,rfl⟩,⟨fun i r h=>by simp [rlk] at h,fun i j r s b _ h=>by simp [rlk] at h,fun k h hk=>by simp [hlk] at hk,G.kept.trans hK fun b hlt hT=>?_,G.a0⟩,.v _⟩
  obtain ⟨i,hi,hb⟩:=hT;exact ((G.rows _ _ (hrow i hi)).new b hb).1.resolve_left (by rw [hw];rw [hw] at hlt;omega)
theorem zFz (a b:List Ent) (n0 n1 n2:Bool) (ha:a.length≤1000000000) (hb:b.length≤1000000000) :
  HFunS Tryz.prog 16 [.own 0] [(0,.hl n0 32 1 [[.own 1],[.own 2]]),(1,.sl n1 54 3 (jR a)),(2,.sl n2 54 3 (jR b))] (fun h st'=>h=.v (.bool true)∧st'=[]) :=
 zL9 (n:=2) (fun i=>i + 1) (fun i=>[n1,n2].getD i false) (fun i=>[a,b].getD i []) rfl rfl (fun i hi=>by match i,hi with|0,_=>rfl|1,_=>rfl) (fun i hi=>by match i,hi with|0,_=>rfl|1,_=>rfl) (fun i j _ _ e=>by omega) (fun i _=>by omega)
  (fun j h=>by match j,h with|0,h=>exact h|1,h=>exact h|2,h=>exact h|j + 3,h=>exact h) (by omega) (fun i hi=>by match i,hi with|0,_=>exact ha|1,_=>exact hb)
end Go.Proofs.YtlihpgmgiehjkaaGreatDoor
end
