/-
  The walk of ref02.Apart: slices that share no memory.
-/
import Derived.Test.YtmgilahhnbopmaaApm
import Derived.Test.YtmgilahhnbopmaaTyM
set_option linter.unusedSimpArgs false
set_option linter.unusedVariables false
set_option maxRecDepth 20000
namespace Go.Proofs.Ytmgilahhnbopmaa
open Go Go.Eng Go.RowKit
attribute [local push_cast] qX2 qSh qMl qAz vY qEc qEb qAy yU yV qA4 wG wM sJ rP rA rG rE rD rN vG qZ kY rM rF rH rJ rK rL rC rB qJ qH qC qD qE qF qG oH oC oK oJ oG oF oE oD oL wE wD qQ qR qP mQ mP mN jE jF oA uX uW kU mM uM qS uN uL uK uP qT qDj uR qDi qJl qT1 qDl qAh qU qAi qAg qAf qAd qJj qV qDm qDk qAc qAk qJk qAj uQ qAe qEf qA1 qA3 vZ qA2 qMo qEg qMn qEd qA0 qEe qMm uT qW uV uU rZ rY qJw qDp qAl qDq qAs vM vL qDu vH vK qAt qDv rR vN qAu rQ vJ qHl qC1 qHk qC0 yR
attribute [local push_cast] List.take_succ_cons List.take_zero List.drop_succ_cons List.drop_zero true_and and_true Option.isSome_some List.getElem?_cons_zero List.getElem?_cons_succ List.length_cons List.length_nil cond_true cond_false Int.toNat_natCast Nat.mul_one Nat.add_zero Nat.zero_add Addr.add_lit bne_self_eq_false beq_self_eq_true Bool.not_true Bool.not_false List.size_toArray Array.getD_eq_getD_getElem? List.getElem?_toArray Option.getD_some decide_true decide_false eq_self Bool.true_beq Bool.false_beq
def mk26:ByteArray:={ data:=#[97,98,99,100,101,102,103,104,105,106,107,108,109,110,111,112,113,114,115,116,117,118,119,120,121,122] }
def ltA (i:Nat):ByteArray:=mk26.extract (i % 26) (i % 26 + 1)
def qCz (i:Nat):ByteArray:={ data:=#[119,97,115] } ++ ltA i
def qJ1 (i:Nat):ByteArray:={ data:=#[110,101,119] } ++ ltA i
theorem qXi (i:Nat):∃ q:Nat,Int.tmod (i:Int) 26=(q:Int)∧q=i % 26∧((0:Int)≤q∧(q:Int)≤(q:Int) + 1∧(q:Int) + 1≤mk26.size)∧IntKind.i64.wrap ((q:Int) + 1)=(q:Int) + 1:=by
 have:mk26.size=26:=rfl
 have h:i % 26 < 26:=Nat.mod_lt _ (by omega)
 refine ⟨i % 26,rfl,rfl,by omega,qNf (by omega) (by omega)⟩
theorem exA (a b:Nat):(mk26.extract a b).size≤26:=by
 have:mk26.size=26:=rfl
 rw [ByteArray.size_extract];omega
theorem take_set {α:Type} (l:List α) (k:Nat) (x:α) (h:k < l.length):(l.set k x).take (k + 1)=l.take k ++ [x]:=by
 rw [List.take_succ_eq_append_getElem (by simpa using h),List.getElem_set_self,List.take_set_of_le (Nat.le_refl _)]
theorem zK2 (s:ByteArray):Instr.fill (fun i=>some (i * 1,1)) ((Array.range (1 * 1)).map ((#[.string ByteArray.empty]:Array Value)[· % (#[.string ByteArray.empty]:Array Value).size]!)) #[(0,Value.string s)].toList=some #[.string s]:=by kernel_rfl
theorem zK1 (a:Option Addr) (n c:Nat):Instr.fill (fun i=>some (i * 1,1)) ((Array.range (1 * 1)).map ((#[.slice none 0 0]:Array Value)[· % (#[.slice none 0 0]:Array Value).size]!)) #[(0,Value.slice a n c)].toList=some #[.slice a n c]:=by kernel_rfl
set_option maxHeartbeats 400000 in
theorem qWw (w:World) (n L cap:Nat) (ad:Option Addr) (V:Nat→Value) (m:Nat→Nat) (X:Nat→List Value) (ow:Nat→Nat) (T:Nat→Prop) (hv:0 < n→ad=some ⟨L,0,none⟩)
  (hM:Marked w w T 9 1 n V m X) (ht:∀ j,j < n→Tag w ow (V j) j) (hT:∀ j b,j < n→(V j).ownBlock=some b→T b) (hL:∀ j,j < n→ow L=n + 1∧L < w.heap.size∧¬ T L∧w.cell? ⟨L,j,none⟩=some (V j))
  (hn:n≤1000000) (hm:∀ j,j < n→m j≤1000000000) :
  Calls Try.prog 8 #[.slice ad n cap] w (Ret fun r w'=>r=.bool true∧Kept T w w'):=by
 refine tT (args:=[_]) Try.func8 rfl Try.ntmps8 Try.results8 (by simp) ?_
 have hd:∀ i j b,i < n→j < n→(V i).ownBlock=some b→(V j).ownBlock=some b→i=j:=fun i j b hi hj h1 h2=>by
  rw [← (ht i hi b h1).1,(ht j hj b h2).1]
 have hV:∀ j,j < n→∃ a c,V j=.slice a (m j) c∧(0 < m j→∃ g,a=some ⟨g,0,none⟩):=fun j hj=>by
  obtain ⟨a,c,h1,h2⟩:=Own.form (hM.own j hj);exact ⟨a,c,h1,fun h=>by obtain ⟨g,e,-⟩:=h2 h;exact ⟨g,e⟩⟩
 refine bM ?_;refine bZ (fun K hK=>?_);simp only [push_cast,Nat.reduceBEq,Nat.reduceAdd,Nat.reduceLT,Nat.reduceEqDiff,reduceIte,reduceCtorEq,Nat.reduceLeDiff,Nat.reduceSub];refine hK _ _ ?_;clear hK K
 refine bM ?_;refine bZ (fun K hK=>?_);simp only [push_cast,Nat.reduceBEq,Nat.reduceAdd,Nat.reduceLT,Nat.reduceEqDiff,reduceIte,reduceCtorEq,Nat.reduceLeDiff,Nat.reduceSub];refine hK _ _ ?_;clear hK K
 rw [show ({ data:=#[97,98,99,100,101,102,103,104,105,106,107,108,109,110,111,112,113,114,115,116,117,118,119,120,121,122] }:ByteArray)=mk26 from rfl]
 refine bM ?_;refine bM ?_;refine bZ (fun K hK=>?_);simp only [push_cast,Nat.reduceBEq,Nat.reduceAdd,Nat.reduceLT,Nat.reduceEqDiff,reduceIte,reduceCtorEq,Nat.reduceLeDiff,Nat.reduceSub];refine hK _ _ ?_;clear hK K
 refine kT (l':=_) [0,3,4] (by simp only [keep,lk,Nat.reduceEqDiff,reduceIte];exact rfl) ?_
 skip
 refine gH ?_;refine sK (fun x:Nat × (Nat→List Value)=>[(0,.slice ad n cap),(3,.string mk26),(4,.int .i64 x.1)]) (fun x w1=>x.1≤n∧Marked w w1 T 9 1 n V m x.2∧∀ j,j < x.1→x.2 j=List.replicate (m j) (.string (qCz j))) (fun x=>n - x.1) [0,3,4] (0,X) rfl ⟨Nat.zero_le _,hM,fun j hj=>absurd hj (Nat.not_lt_zero _)⟩ ?_
 rintro ⟨i,Y⟩ w1 ⟨hi,hM1,hY⟩;simp only at hi hM1 hY;refine bM ?_;refine bM ?_;refine bZ (fun K hK=>?_);simp only [push_cast,Nat.reduceBEq,Nat.reduceAdd,Nat.reduceLT,Nat.reduceEqDiff,reduceIte,reduceCtorEq,Nat.reduceLeDiff,Nat.reduceSub,qG6];refine hK _ _ ?_;clear hK K
 refine zV ?_;refine iV rfl (fun hlt=>?_) (fun hge=>?_)
 ·have hin:i < n:=by simpa using hlt
  obtain rfl:=hv (by omega)
  refine iU ?_;refine bM ?_;refine gH ?_;refine bM ?_;refine bZ (fun K hK=>?_);simp only [push_cast,Nat.reduceBEq,Nat.reduceAdd,Nat.reduceLT,Nat.reduceEqDiff,reduceIte,reduceCtorEq,Nat.reduceLeDiff,Nat.reduceSub];refine hK _ _ ?_;clear hK K
  refine zV ?_;refine gH ?_
  have hin':(0:Int)≤i∧(i:Int) < n:=by omega
  obtain ⟨av,cv,hVi⟩:=dC (hM1.own i hin);refine sK (fun x:Nat × (Nat→List Value)=>[(0,.slice (some ⟨L,0,none⟩) n cap),(3,.string mk26),(4,.int .i64 i),(5,.int .i64 x.1)]) (fun x w1=>x.1≤m i∧Marked w w1 T 9 1 n V m x.2∧(∀ j,j < i→x.2 j=List.replicate (m j) (.string (qCz j)))∧(x.2 i).take x.1=List.replicate x.1 (.string (qCz i))) (fun x=>m i - x.1) [0,3,4,5] (0,Y) rfl ⟨Nat.zero_le _,hM1,hY,rfl⟩ ?_
  clear hM1 hY;rintro ⟨k,Y⟩ w1 ⟨hk,hM1,hY,hY2⟩;simp only at hk hM1 hY hY2
  have cL:∀ {w1:World},Kept T w w1→w1.cell? ⟨L,i,none⟩=some (V i):=fun K=>by
   obtain ⟨-,b,d,e⟩:=hL i hin;rw [kA (K.block L b d)];exact e
  have c1:=cL hM1.kept
  rw [hVi] at c1;refine bM ?_;refine bM ?_;refine bZ (fun K hK=>?_);simp only [push_cast,Nat.reduceBEq,Nat.reduceAdd,Nat.reduceLT,Nat.reduceEqDiff,reduceIte,reduceCtorEq,Nat.reduceLeDiff,Nat.reduceSub,qG6,pZ,qSl,hin',c1];refine hK _ _ ?_;clear hK K
  refine zV ?_;refine iV rfl (fun hlk=>?_) (fun hgk=>?_)
  ·have hkm:k < m i:=by simpa using hlk
   have hkm':(0:Int)≤k∧(k:Int) < m i:=by omega
   have hmi:=hm i hin
   have ho:=hM1.own i hin
   rw [hVi] at ho;obtain ⟨ac,cv',hcv,hcap,hcap2,hcell⟩:=iR ho (by omega)
   cases hcv
   refine iU ?_;refine bM ?_;refine gH ?_;refine kT (l':=_) [0,3,4,5] (by simp only [keep,lk,Nat.reduceEqDiff,reduceIte];exact rfl) ?_
   obtain ⟨q,hq,hq2,r26,w26⟩:=qXi i;refine qCi [0,3,4,5] 14 mixed rfl (by kernel_rfl) (fun K hK=>?_);simp only [push_cast,Nat.reduceBEq,Nat.reduceAdd,Nat.reduceLT,Nat.reduceEqDiff,reduceIte,reduceCtorEq,Nat.reduceLeDiff,Nat.reduceSub,qG6,pZ,qSl,hin',c1,hkm',hq,st9,r26,w26,↓iC9]
   have hstr:({ data:=#[119,97,115] } ++ mk26.extract q (q + 1):ByteArray)=qCz i:=by
    rw [hq2];rfl
   rw [hstr];refine ⟨by decide,by decide,by have:=exA q (q + 1);have e:({ data:=#[119,97,115] }:ByteArray).size=3:=rfl;omega,fun w2 hw2=>?_⟩
   obtain ⟨w3,s1,s2,s3⟩:=qPd (P:=Try.prog) (ty:=9) (i:=k) (u:=.string (qCz i)) (ho.up hw2) kt9 rfl (by omega)
   refine v2s ?_;try simp only [push_cast,Nat.reduceBEq,Nat.reduceAdd,Nat.reduceLT,Nat.reduceEqDiff,reduceIte,reduceCtorEq,Nat.reduceLeDiff,Nat.reduceSub];refine ⟨w3,s1,?_⟩;refine v2s ?_;try simp only [push_cast,Nat.reduceBEq,Nat.reduceAdd,Nat.reduceLT,Nat.reduceEqDiff,reduceIte,reduceCtorEq,Nat.reduceLeDiff,Nat.reduceSub];refine hK _ _ ?_;clear hK K
   have hM3:=(hM1.up hw2).turn hd hT hin (by rw [hVi];rfl) s3 (by rw [hVi];exact s2)
   have hwr:IntKind.i64.wrap ((k:Int) + 1)=(k:Int) + 1:=qNf (by omega) (by omega)
   refine zY ?_;refine zV ?_;refine bZ (fun K hK=>?_);simp only [push_cast,Nat.reduceBEq,Nat.reduceAdd,Nat.reduceLT,Nat.reduceEqDiff,reduceIte,reduceCtorEq,Nat.reduceLeDiff,Nat.reduceSub,hwr];refine hK _ _ ?_;clear hK K
   refine zV ?_;refine ⟨(k + 1,qNg Y i ((Y i).set k (.string (qCz i)))),rfl,⟨by show k + 1≤m i;omega,hM3,fun j hj=>?_,?_⟩,by show m i - (k + 1) < m i - k;omega⟩
   ·show qNg Y i _ j=_
    rw [qC2 _ _ _ _ (by omega)];exact hY j hj
   ·show (qNg Y i _ i).take (k + 1)=_
    rw [uE]
    have hlen:(Y i).length=m i:=by have:=(hM1.own i hin).1;omega
    rw [take_set _ _ _ (by omega),hY2,List.replicate_succ']
  ·have hkm:k=m i:=by simp at hgk;omega
   subst hkm;refine sL ?_;refine yP ?_;refine yP ?_;refine yQ ?_;refine zY ?_;refine zV ?_
   have hwr:IntKind.i64.wrap ((i:Int) + 1)=(i:Int) + 1:=qNf (by omega) (by omega)
   refine bZ (fun K hK=>?_);simp only [push_cast,Nat.reduceBEq,Nat.reduceAdd,Nat.reduceLT,Nat.reduceEqDiff,reduceIte,reduceCtorEq,Nat.reduceLeDiff,Nat.reduceSub,hwr];refine hK _ _ ?_;clear hK K
   refine zV ?_;refine ⟨(i + 1,Y),rfl,⟨hin,hM1,fun j hj=>?_⟩,by show n - (i + 1) < n - i;omega⟩
   by_cases e:j=i
   ·subst e
    have hlen:(Y j).length=m j:=by have:=(hM1.own j hin).1;omega
    rw [← hlen,List.take_length,hlen] at hY2;exact hY2
   ·exact hY j (by have:j < i + 1:=hj;omega)
 ·have hin:i=n:=by simp at hge;omega
  have hY':Marked w w1 T 9 1 n V m (fun j=>List.replicate (m j) (.string (qCz j))):=⟨hM1.kept,fun j hj=>by have:=hM1.own j hj;rw [hY j (by omega)] at this;exact this⟩
  have hG:=hY'.grown ht hL (fun j=>List.replicate 20 (.string (qJ1 j))) V 31
  clear hY' hM1 hY hM hge;refine sL ?_;refine yP ?_;refine yP ?_;refine yQ ?_;refine bM ?_;refine bZ (fun K hK=>?_);simp only [push_cast,Nat.reduceBEq,Nat.reduceAdd,Nat.reduceLT,Nat.reduceEqDiff,reduceIte,reduceCtorEq,Nat.reduceLeDiff,Nat.reduceSub];refine hK _ _ ?_;clear hK K
  refine bM ?_;refine bM ?_;refine bZ (fun K hK=>?_);simp only [push_cast,Nat.reduceBEq,Nat.reduceAdd,Nat.reduceLT,Nat.reduceEqDiff,reduceIte,reduceCtorEq,Nat.reduceLeDiff,Nat.reduceSub];refine hK _ _ ?_;clear hK K
  refine zV ?_;refine gH ?_;refine sK (fun x:Nat × Value × (Nat→Value) × (Nat→Nat)=>[(0,.slice ad n cap),(3,.string mk26),(6,x.2.1),(7,.int .i64 x.1)]) (fun x w1=>x.1≤n∧Grown w w1 T 9 1 31 n x.1 x.1 L V m (fun j=>List.replicate (m j) (.string (qCz j))) (fun j=>List.replicate 20 (.string (qJ1 j))) x.2.2.2 x.2.2.1 x.2.1) (fun x=>n - x.1) [0,3,6,7] (0,.slice none 0 0,V,ow) rfl ⟨Nat.zero_le _,hG⟩ ?_
  clear hG;rintro ⟨i,lv,U,ow'⟩ w1 ⟨hi,hG⟩;simp only at hi hG;refine bM ?_;refine bM ?_;refine bZ (fun K hK=>?_);simp only [push_cast,Nat.reduceBEq,Nat.reduceAdd,Nat.reduceLT,Nat.reduceEqDiff,reduceIte,reduceCtorEq,Nat.reduceLeDiff,Nat.reduceSub,qG6];refine hK _ _ ?_;clear hK K
  refine zV ?_;refine iV rfl (fun hlt=>?_) (fun hge=>?_)
  ·have hin:i < n:=by simpa using hlt
   obtain rfl:=hv (by omega)
   have hin':(0:Int)≤i∧(i:Int) < n:=by omega
   have c1:=(hG.outer i hin).2.2
   refine iU ?_;refine bM ?_;refine gH ?_;refine bM ?_;refine bZ (fun K hK=>?_);simp only [push_cast,Nat.reduceBEq,Nat.reduceAdd,Nat.reduceLT,Nat.reduceEqDiff,reduceIte,reduceCtorEq,Nat.reduceLeDiff,Nat.reduceSub,qG6,qSl,hin',c1];refine hK _ _ ?_;clear hK K
   refine bM ?_;refine bM ?_;refine bZ (fun K hK=>?_);simp only [push_cast,Nat.reduceBEq,Nat.reduceAdd,Nat.reduceLT,Nat.reduceEqDiff,reduceIte,reduceCtorEq,Nat.reduceLeDiff,Nat.reduceSub];refine hK _ _ ?_;clear hK K
   refine kT (l':=_) [0,3,6,7,8,9] (by simp only [keep,lk,Nat.reduceEqDiff,reduceIte];exact rfl) ?_
   skip
   refine gH ?_
   have hmi:=hm i hin
   refine sK (fun x:Nat × Value × (Nat→Nat)=>[(0,.slice (some ⟨L,0,none⟩) n cap),(3,.string mk26),(6,lv),(7,.int .i64 i),(8,x.2.1),(9,.int .i64 x.1)])
    (fun x w1=>x.1≤20∧Grown w w1 T 9 1 31 n i (i + 1) L V m (fun j=>List.replicate (m j) (.string (qCz j))) (fun j=>List.replicate 20 (.string (qJ1 j))) x.2.2 U lv∧Tag w1 x.2.2 x.2.1 i∧(∀ b,x.2.1.ownBlock=some b→w.heap.size≤b∨T b)∧Own w1 0 9 1 x.2.1 (m i + x.1) (List.replicate (m i) (.string (qCz i)) ++ List.replicate x.1 (.string (qJ1 i)))) (fun x=>20 - x.1) [0,3,6,7,8,9] (0,V i,ow') rfl
    ⟨Nat.zero_le _,⟨hG.kept,hG.rd,fun j h1 h2=>hG.own j (by omega) h2,hG.grown,hG.long,hG.newL,hG.tagV,hG.tagU,hG.tagL,hG.outer⟩,hG.tagV i hin,fun b hb=>.inr (hT i b hin hb),by simpa using hG.own i (Nat.le_refl _) hin⟩ ?_
   clear hG c1;rintro ⟨k,x,ow1⟩ w1 ⟨hk,hG,htx,hTx,hox⟩;simp only at hk hG htx hTx hox;refine bM ?_;refine bM ?_;refine bZ (fun K hK=>?_);simp only [push_cast,Nat.reduceBEq,Nat.reduceAdd,Nat.reduceLT,Nat.reduceEqDiff,reduceIte,reduceCtorEq,Nat.reduceLeDiff,Nat.reduceSub];refine hK _ _ ?_;clear hK K
   refine zV ?_;refine iV rfl (fun hlk=>?_) (fun hgk=>?_)
   ·have hk20:k < 20:=by simp at hlk;omega
    refine iU ?_;refine bM ?_;refine gH ?_;obtain ⟨q,hq,hq2,r26,w26⟩:=qXi i;refine bZ (fun K hK=>?_);simp only [push_cast,Nat.reduceBEq,Nat.reduceAdd,Nat.reduceLT,Nat.reduceEqDiff,reduceIte,reduceCtorEq,Nat.reduceLeDiff,Nat.reduceSub,hq,st9,r26,w26,↓iC9]
    have hstr:({ data:=#[110,101,119] } ++ mk26.extract q (q + 1):ByteArray)=qJ1 i:=by
     rw [hq2];rfl
    rw [hstr];obtain ⟨w2,b1,b2,b3,b4⟩:=sV (P:=Try.prog) (w:=w1) (len:=1) #[.string (qJ1 i)] zGp (by omega) (by simp [maxLen]) (zK2 (qJ1 i)) rfl
    refine ⟨by decide,by decide,by have:=exA q (q + 1);have e:({ data:=#[110,101,119] }:ByteArray).size=3:=rfl;omega,_,w2,b1,?_⟩
    have hG2:=hG.up b3
    have hox2:=hox.up b3
    have htx2:=htx.up b3.size
    obtain ⟨x',w3,s1,s2,s3,s5,s6⟩:=qM6 (P:=Try.prog) (t:=31) (ty:=31) zGp rfl (by omega) (by omega) hox2 (news:=[.string (qJ1 i)]) (m:=1) (.inl ⟨⟨w1.heap.size,0,none⟩,1,rfl,fun j u hj=>by
     rw [Addr.add_lit,Nat.zero_add];exact b2.rd w1.heap.size rfl j u hj⟩) rfl (by simp [Value.oneCell']) (by omega)
    refine v2s ?_;try simp only [push_cast,Nat.reduceBEq,Nat.reduceAdd,Nat.reduceLT,Nat.reduceEqDiff,reduceIte,reduceCtorEq,Nat.reduceLeDiff,Nat.reduceSub];refine ⟨x',w3,s1,?_⟩;refine v2s ?_;try simp only [push_cast,Nat.reduceBEq,Nat.reduceAdd,Nat.reduceLT,Nat.reduceEqDiff,reduceIte,reduceCtorEq,Nat.reduceLeDiff,Nat.reduceSub];refine hK _ _ ?_;clear hK K;rw [List.append_assoc,← List.replicate_succ'] at s2;obtain ⟨g1,g2,g3⟩:=hG2.app hin htx2 s2 s3 s5 s6 hTx
    have hwr:IntKind.i64.wrap ((k:Int) + 1)=(k:Int) + 1:=qNf (by omega) (by omega)
    refine zY ?_;refine zV ?_;refine bZ (fun K hK=>?_);simp only [push_cast,Nat.reduceBEq,Nat.reduceAdd,Nat.reduceLT,Nat.reduceEqDiff,reduceIte,reduceCtorEq,Nat.reduceLeDiff,Nat.reduceSub,hwr];refine hK _ _ ?_;clear hK K
    refine zV ?_;exact ⟨(k + 1,x',_),rfl,⟨hk20,g1,g2,g3,s2⟩,by show 20 - (k + 1) < 20 - k;omega⟩
   ·have hk20:k=20:=by simp at hgk;omega
    subst hk20;refine sL ?_;refine yP ?_;refine yP ?_;refine yQ ?_;refine zV ?_;refine kT (l':=_) [0,3,6,7,8] (by simp only [keep,lk,Nat.reduceEqDiff,reduceIte];exact rfl) ?_
    refine bZ (fun K hK=>?_);simp only [push_cast,Nat.reduceBEq,Nat.reduceAdd,Nat.reduceLT,Nat.reduceEqDiff,reduceIte,reduceCtorEq,Nat.reduceLeDiff,Nat.reduceSub]
    obtain ⟨w2,b1,b2,b3,b4⟩:=sV (P:=Try.prog) (w:=w1) (parts:=#[(0,x)]) (len:=1) #[x] zGq (by omega) (by simp [maxLen]) (by obtain ⟨a,c,rfl⟩:=dC hox;exact zK1 a _ c) rfl
    refine ⟨_,w2,b1,?_⟩
    have hG2:=hG.up b3
    have hox2:=hox.up b3
    have htx2:=htx.up b3.size
    obtain ⟨lv',w3,s1,s2,s3,s5,s6⟩:=qM6 (P:=Try.prog) (t:=30) (ty:=30) zGq rfl (by omega) (by omega) hG2.long (news:=[x]) (m:=1) (.inl ⟨⟨w1.heap.size,0,none⟩,1,rfl,fun j u hj=>by
     rw [Addr.add_lit,Nat.zero_add];exact b2.rd w1.heap.size rfl j u hj⟩) rfl (by obtain ⟨a,c,rfl⟩:=dC hox;simp [Value.oneCell']) (by omega)
    refine v2s ?_;try simp only [push_cast,Nat.reduceBEq,Nat.reduceAdd,Nat.reduceLT,Nat.reduceEqDiff,reduceIte,reduceCtorEq,Nat.reduceLeDiff,Nat.reduceSub];refine ⟨lv',w3,s1,?_⟩;refine v2s ?_;try simp only [push_cast,Nat.reduceBEq,Nat.reduceAdd,Nat.reduceLT,Nat.reduceEqDiff,reduceIte,reduceCtorEq,Nat.reduceLeDiff,Nat.reduceSub];refine hK _ _ ?_;clear hK K
    have g1:=hG2.next hin htx2 hox2 s2 s3 s5
    have hwr:IntKind.i64.wrap ((i:Int) + 1)=(i:Int) + 1:=qNf (by omega) (by omega)
    refine zY ?_;refine zV ?_;refine bZ (fun K hK=>?_);simp only [push_cast,Nat.reduceBEq,Nat.reduceAdd,Nat.reduceLT,Nat.reduceEqDiff,reduceIte,reduceCtorEq,Nat.reduceLeDiff,Nat.reduceSub,hwr];refine hK _ _ ?_;clear hK K
    refine zV ?_;exact ⟨(i + 1,lv',_,_),rfl,⟨hin,g1⟩,by show n - (i + 1) < n - i;omega⟩
  ·have hin:i=n:=by simp at hge;omega
   subst hin;refine sL ?_;refine yP ?_;refine yP ?_;refine yQ ?_;refine bM ?_;refine bM ?_;refine kT (l':=_) [0,3,6] (by simp only [keep,lk,Nat.reduceEqDiff,reduceIte];exact rfl) ?_
   refine bZ (fun K hK=>?_);simp only [push_cast,Nat.reduceBEq,Nat.reduceAdd,Nat.reduceLT,Nat.reduceEqDiff,reduceIte,reduceCtorEq,Nat.reduceLeDiff,Nat.reduceSub];refine hK _ _ ?_;clear hK K
   refine zV ?_;refine gH ?_
   have hK:=hG.kept
   refine sK (fun x:Nat=>[(0,.slice ad i cap),(3,.string mk26),(6,lv),(10,.int .i64 x)]) (fun x w2=>x≤i∧w2=w1) (fun x=>i - x) [0,3,6,10] 0 rfl ⟨Nat.zero_le _,rfl⟩ ?_
   rintro j w2 ⟨hj,rfl⟩;refine bM ?_;refine bM ?_;refine bZ (fun K hK=>?_);simp only [push_cast,Nat.reduceBEq,Nat.reduceAdd,Nat.reduceLT,Nat.reduceEqDiff,reduceIte,reduceCtorEq,Nat.reduceLeDiff,Nat.reduceSub,qG6];refine hK _ _ ?_;clear hK K
   refine zV ?_;refine iV rfl (fun hlt=>?_) (fun hge=>?_)
   ·have hjn:j < i:=by simpa using hlt
    obtain rfl:=hv (by omega)
    have hjn':(0:Int)≤j∧(j:Int) < i:=by omega
    have c1:=(hG.outer j hjn).2.2
    obtain ⟨al,cl,hlv⟩:=dC hG.long;subst hlv;obtain ⟨gl,cl',hcl,-,-,hcell⟩:=iR hG.long (by omega)
    cases hcl
    have c2:w2.cell? ⟨gl,j,none⟩=some (U j):=hcell j _ (by rw [List.getElem?_map,List.getElem?_range hjn];rfl)
    have hoU:=hG.grown j hjn
    obtain ⟨au,cu,hU⟩:=dC hoU;rw [hU] at hoU c2;obtain ⟨gu,cu',hcu,-,-,hcellU⟩:=iR hoU (by omega)
    cases hcu
    refine iU ?_;refine bM ?_;refine gH ?_;refine bM ?_;refine bZ (fun K hK=>?_);simp only [push_cast,Nat.reduceBEq,Nat.reduceAdd,Nat.reduceLT,Nat.reduceEqDiff,reduceIte,reduceCtorEq,Nat.reduceLeDiff,Nat.reduceSub];refine hK _ _ ?_;clear hK K
    refine zV ?_;refine gH ?_
    have hmj:=hm j hjn
    refine sK (fun x:Nat=>[(0,.slice (some ⟨L,0,none⟩) i cap),(3,.string mk26),(6,.slice (some ⟨gl,0,none⟩) i cl),(10,.int .i64 j),(11,.int .i64 x)]) (fun x w3=>x≤m j + 20∧w3=w2) (fun x=>m j + 20 - x) [0,3,6,10,11] 0 rfl ⟨Nat.zero_le _,rfl⟩ ?_
    rintro k w3 ⟨hk,rfl⟩;refine bM ?_;refine bM ?_;refine bZ (fun K hK=>?_);simp only [push_cast,Nat.reduceBEq,Nat.reduceAdd,Nat.reduceLT,Nat.reduceEqDiff,reduceIte,reduceCtorEq,Nat.reduceLeDiff,Nat.reduceSub,qG6,pZ,qSl,hjn',c1,c2];refine hK _ _ ?_;clear hK K
    refine zV ?_;refine iV rfl (fun hlk=>?_) (fun hgk=>?_)
    ·have hkm:k < m j + 20:=by simp at hlk;omega
     refine iU ?_;refine bM ?_;refine gH ?_;obtain ⟨q,hq,hq2,r26,w26⟩:=qXi j;refine kT (l':=_) [0,3,6,10,11] (by simp only [keep,lk,Nat.reduceEqDiff,reduceIte];exact rfl) ?_
     refine bM ?_;refine bZ (fun K hK=>?_);simp only [push_cast,Nat.reduceBEq,Nat.reduceAdd,Nat.reduceLT,Nat.reduceEqDiff,reduceIte,reduceCtorEq,Nat.reduceLeDiff,Nat.reduceSub,hq,st9,r26,w26,↓iC9]
     have hstr:({ data:=#[119,97,115] } ++ mk26.extract q (q + 1):ByteArray)=qCz j:=by
      rw [hq2];rfl
     rw [hstr];refine ⟨by decide,by decide,by have:=exA q (q + 1);have e:({ data:=#[119,97,115] }:ByteArray).size=3:=rfl;omega,?_⟩
     refine hK _ _ ?_;clear hK K;obtain ⟨aj,cj,hVj,hVa⟩:=hV j hjn;rw [hVj] at c1;refine zV ?_;refine qRm (ι:=Unit) (fun _=>[(0,.slice (some ⟨L,0,none⟩) i cap),(3,.string mk26),(6,.slice (some ⟨gl,0,none⟩) i cl),(10,.int .i64 j),(11,.int .i64 k),(12,.string (if m j≤k then qJ1 j else qCz j))]) (fun _ w4=>w4=w3) [0,3,6,10,11,12] ?_ ?_
     ·refine bM ?_;refine bZ (fun K hK=>?_);simp only [push_cast,Nat.reduceBEq,Nat.reduceAdd,Nat.reduceLT,Nat.reduceEqDiff,reduceIte,reduceCtorEq,Nat.reduceLeDiff,Nat.reduceSub,qG6,pZ,qSl,hjn',c1];refine hK _ _ ?_;clear hK K
      refine zV ?_;refine iV rfl (fun hm1=>?_) (fun hm1=>?_)
      ·have hm1:m j≤k:=by simpa using hm1
       refine bZ (fun K hK=>?_);simp only [push_cast,Nat.reduceBEq,Nat.reduceAdd,Nat.reduceLT,Nat.reduceEqDiff,reduceIte,reduceCtorEq,Nat.reduceLeDiff,Nat.reduceSub,hq,st9,r26,w26,↓iC9]
       have hstr:({ data:=#[110,101,119] } ++ mk26.extract q (q + 1):ByteArray)=qJ1 j:=by
        rw [hq2];rfl
       rw [hstr];refine ⟨by decide,by decide,by have:=exA q (q + 1);have e:({ data:=#[110,101,119] }:ByteArray).size=3:=rfl;omega,?_⟩
       refine hK _ _ ?_;clear hK K;exact ⟨(),by simp only [keep,lk,Nat.reduceEqDiff,reduceIte,if_pos hm1],rfl⟩
      ·have hm1:k < m j:=by simpa using hm1
       refine iU ?_;refine zV ?_;exact ⟨(),by simp only [keep,lk,Nat.reduceEqDiff,reduceIte,if_neg (Nat.not_le.2 hm1)],rfl⟩
     ·rintro - w4 rfl
      have hk':(0:Int)≤k∧(k:Int) < (m j + 20:Nat):=by omega
      have c3:w4.cell? ⟨gu,k,none⟩=some (.string (if m j≤k then qJ1 j else qCz j)):=by
       refine hcellU k _ ?_
       by_cases h:m j≤k
       ·rw [if_pos h,List.getElem?_append_right (by simpa using h),List.getElem?_replicate,if_pos (by simp;omega)]
       ·rw [if_neg h,List.getElem?_append_left (by simp;omega),List.getElem?_replicate,if_pos (by omega)]
      by_cases hm1:m j≤k
      ·have e1:decide ((k:Int) < m j)=false:=decide_eq_false (by omega)
       refine bM ?_;refine bZ (fun K hK=>?_);simp only [push_cast,Nat.reduceBEq,Nat.reduceAdd,Nat.reduceLT,Nat.reduceEqDiff,reduceIte,reduceCtorEq,Nat.reduceLeDiff,Nat.reduceSub,qG6,pZ,qSl,kt9,hjn',c1,c2,c3,hk',e1]
       refine ⟨by omega,?_⟩
       refine hK _ _ ?_;clear hK K;refine zV ?_;refine qBy rfl ?_
       have hwr:IntKind.i64.wrap ((k:Int) + 1)=(k:Int) + 1:=qNf (by omega) (by omega)
       refine iU ?_;refine zY ?_;refine zV ?_;refine bZ (fun K hK=>?_);simp only [push_cast,Nat.reduceBEq,Nat.reduceAdd,Nat.reduceLT,Nat.reduceEqDiff,reduceIte,reduceCtorEq,Nat.reduceLeDiff,Nat.reduceSub,hwr];refine hK _ _ ?_;clear hK K
       refine zV ?_;exact ⟨k + 1,rfl,⟨by omega,rfl⟩,by omega⟩
      ·obtain ⟨gj,rfl⟩:=hVa (by omega)
       have c4:w4.cell? ⟨gj,k,none⟩=some (.string (qCz j)):=by
        refine hG.rd j hjn gj (by rw [hVj];rfl) k _ ?_
        rw [List.getElem?_replicate,if_pos (by omega)]
       rw [if_neg hm1] at c3 ⊢
       have e1:decide ((k:Int) < m j)=true:=decide_eq_true (by omega)
       have hk2:(0:Int)≤k∧(k:Int) < m j:=by omega
       refine bM ?_;refine bZ (fun K hK=>?_);simp only [push_cast,Nat.reduceBEq,Nat.reduceAdd,Nat.reduceLT,Nat.reduceEqDiff,reduceIte,reduceCtorEq,Nat.reduceLeDiff,Nat.reduceSub,qG6,pZ,qSl,kt9,hjn',c1,c2,c3,c4,hk',hk2,e1]
       refine ⟨by omega,?_⟩
       refine hK _ _ ?_;clear hK K;refine zV ?_;refine qBy rfl ?_
       have hwr:IntKind.i64.wrap ((k:Int) + 1)=(k:Int) + 1:=qNf (by omega) (by omega)
       refine iU ?_;refine zY ?_;refine zV ?_;refine bZ (fun K hK=>?_);simp only [push_cast,Nat.reduceBEq,Nat.reduceAdd,Nat.reduceLT,Nat.reduceEqDiff,reduceIte,reduceCtorEq,Nat.reduceLeDiff,Nat.reduceSub,hwr];refine hK _ _ ?_;clear hK K
       refine zV ?_;exact ⟨k + 1,rfl,⟨by omega,rfl⟩,by omega⟩
    ·refine sL ?_;refine yP ?_;refine yP ?_;refine yQ ?_;refine zY ?_;refine zV ?_
     have hwr:IntKind.i64.wrap ((j:Int) + 1)=(j:Int) + 1:=qNf (by omega) (by omega)
     refine bZ (fun K hK=>?_);simp only [push_cast,Nat.reduceBEq,Nat.reduceAdd,Nat.reduceLT,Nat.reduceEqDiff,reduceIte,reduceCtorEq,Nat.reduceLeDiff,Nat.reduceSub,hwr];refine hK _ _ ?_;clear hK K
     refine zV ?_;exact ⟨j + 1,rfl,⟨by omega,rfl⟩,by omega⟩
   ·refine sL ?_;refine yP ?_;refine yP ?_;refine yQ ?_;refine bM ?_;refine bZ (fun K hK=>?_);simp only [push_cast,Nat.reduceBEq,Nat.reduceAdd,Nat.reduceLT,Nat.reduceEqDiff,reduceIte,reduceCtorEq,Nat.reduceLeDiff,Nat.reduceSub];refine hK _ _ ?_;clear hK K
    refine zV ?_;refine qG4 ?_;simp only [qYd,nG,tup,lk,Nat.reduceEqDiff,reduceIte,reduceCtorEq];exact ⟨trivial,hK⟩
end Go.Proofs.Ytmgilahhnbopmaa
