/-
  The walks of diff: the table, the hD.
-/
import Derived.Test.YtmgilahhnbopmaaGa
import Derived.Test.YtmgilahhnbopmaaDiffM
import Derived.Test.YtmgilahhnbopmaaTyM
set_option linter.unusedSimpArgs false
set_option linter.unusedVariables false
set_option maxRecDepth 20000
namespace Go.Proofs.Ytmgilahhnbopmaa
open Go Go.Eng Go.RowKit Go.DiffM
attribute [local push_cast] qX2 qSh qMl qAz vY qEc qEb qAy yU yV qA4 wG wM sJ rP rA rG rE rD rN vG qZ kY rM rF rH rJ rK rL rC rB qJ qH qC qD qE qF qG oH oC oK oJ oG oF oE oD oL wE wD qQ qR qP mQ mP mN jE jF oA uX uW kU mM uM qS uN uL uK uP qT qDj uR qDi qJl qT1 qDl qAh qU qAi qAg qAf qAd qJj qV qDm qDk qAc qAk qJk qAj uQ qAe qEf qA1 qA3 vZ qA2 qMo qEg qMn qEd qA0 qEe qMm uT qW uV uU rZ rY qJw qDp qAl qDq qAs vM vL qDu vH vK qAt qDv rR vN qAu rQ vJ qHl qC1 qHk qC0 yR
attribute [local push_cast] List.take_succ_cons List.take_zero List.drop_succ_cons List.drop_zero true_and and_true Option.isSome_some List.getElem?_cons_zero List.getElem?_cons_succ List.length_cons List.length_nil cond_true cond_false Int.toNat_natCast Nat.mul_one Nat.add_zero Nat.zero_add Addr.add_lit bne_self_eq_false beq_self_eq_true Bool.not_true Bool.not_false List.size_toArray Array.getD_eq_getD_getElem? List.getElem?_toArray Option.getD_some decide_true decide_false eq_self Bool.true_beq Bool.false_beq
theorem zFa:nT Try.prog 80 0=some 0:=by kernel_rfl
theorem zE9:nT Try.prog 80 1=some 1:=by kernel_rfl

theorem iM {x:Int} (h1:-4000000000000000000≤x) (h2:x≤4000000000000000000):IntKind.i64.wrap x=x:=zHl (qYe (by omega) (by omega))

theorem zHx {n:Nat} (h:n≤30000):IntKind.i16.wrap (n:Int)=(n:Int):=by
 have e1:IntKind.i16.bits=16:=rfl
 have e2:IntKind.i16.signed=true:=rfl
 unfold IntKind.wrap;simp only [e1,e2];simp;omega
set_option maxHeartbeats 400000 in
theorem qA9 (w:World) (g n wide i j:Nat) (x:Value) (hn:n≤1000000) (hw:wide≤401) (hi:i≤401) (hj:j≤401) (hij:i * wide + j < n) (hx:w.cell? ⟨g,i * wide + j,none⟩=some x) :
  Calls Try.prog 40 #[.agg #[.int .i64 wide,.slice (some ⟨g,0,none⟩) n n],.int .i64 i,.int .i64 j] w (Ret fun r w'=>r=x∧Below w.heap.size w w'):=by
 refine tT (args:=[_,_,_]) Try.func40 rfl Try.ntmps40 Try.results40 (by simp) ?_
 refine bM ?_;refine bZ (fun K hK=>?_);simp only [push_cast,simprocAttr,Value.cells];refine hK _ _ ?_;clear hK K
 have hs:=Blk.new w #[.int .i64 wide,.slice (some ⟨g,0,none⟩) n n] 80
 have hbel:=(Below.refl w.heap.size w).alloc (Nat.le_refl _) (.cells #[.int .i64 wide,.slice (some ⟨g,0,none⟩) n n] 80)
 have hx:=fC hbel hx
 generalize hw0:w.alloc (.cells #[.int .i64 wide,.slice (some ⟨g,0,none⟩) n n] 80)=w0 at *
 clear hw0
 have c0:=hs.cell 0
 have c1:=hs.cell 1
 simp only [List.getElem?_toArray,List.getElem?_cons_zero,List.getElem?_cons_succ] at c0 c1
 have hm:i * wide≤401 * 401:=Nat.mul_le_mul hi hw
 have e1:IntKind.i64.wrap ((i:Int) * (wide:Int))=(i:Int) * (wide:Int):=iM (by rw [← Int.natCast_mul];omega) (by rw [← Int.natCast_mul];omega)
 obtain ⟨k,hk⟩:∃ k,k=i * wide + j:=⟨_,rfl⟩
 have e2:IntKind.i64.wrap ((i:Int) * (wide:Int) + (j:Int))=(k:Int):=by rw [hk,Int.natCast_add,Int.natCast_mul];exact iM (by rw [← Int.natCast_mul];omega) (by rw [← Int.natCast_mul];omega)
 rw [← hk] at hx;refine bM ?_;refine bZ (fun K hK=>?_);simp only [push_cast,simprocAttr,kt3,zEi,qX4,zFa,zE9,c0,c1,qXe,e1,e2,hx]
 refine ⟨by omega,?_⟩
 refine hK _ _ ?_;clear hK K;refine zV ?_;refine qG4 ?_;simp only [qYd,nG,tup,lk,Nat.reduceEqDiff,reduceIte,reduceCtorEq];exact ⟨trivial,hbel⟩

abbrev SlS (w:World) (v:Value) (a:List ByteArray):Prop:=SlAt w v 1 a.length (fun j=>.string (a.getD j ByteArray.empty))
def TabD (a b:List ByteArray) (cs:Array Value) (wd i j:Nat):Prop:=cs.size=(a.length + 1) * wd ∧
 ∀ p q,p≤a.length→q < wd→(i + 1≤p∨p=i∧j≤q∨q + 1=wd∨p=a.length)→cs[p * wd + q]?=some (.int .i16 (at2 a b p q))
theorem zG3 {wd i j m q:Nat} (hj:j < wd) (hq:q < wd) (h:i * wd + j=m * wd + q):i=m∧j=q:=by
 have h1:(i * wd + j) / wd=i:=by rw [Nat.mul_comm,Nat.mul_add_div (by omega),Nat.div_eq_of_lt hj,Nat.add_zero]
 have h2:(m * wd + q) / wd=m:=by rw [Nat.mul_comm,Nat.mul_add_div (by omega),Nat.div_eq_of_lt hq,Nat.add_zero]
 have:i=m:=by rw [← h1,h,h2]
 subst this;exact ⟨rfl,by omega⟩
theorem qKf {wd i j n:Nat} (hj:j < wd) (hi:i < n):i * wd + j < n * wd:=by
 have:=Nat.mul_le_mul_right wd (show i + 1≤n from hi)
 rw [Nat.add_mul] at this;omega
theorem TabD.put {a b:List ByteArray} {cs:Array Value} {wd m q:Nat} (h:TabD a b cs wd m (q + 1)) (hm:m < a.length) (hq:q < wd) (v:Value) (hv:v=.int .i16 (at2 a b m q)):TabD a b (cs.setIfInBounds (m * wd + q) v) wd m q:=by
 refine ⟨by rw [Array.size_setIfInBounds];exact h.1,fun i j hi hj hd=>?_⟩
 by_cases he:i=m∧j=q
 ·obtain ⟨rfl,rfl⟩:=he;rw [Array.getElem?_setIfInBounds_self_of_lt (by rw [h.1];exact qKf hq (by omega)),hv]
 ·rw [Array.getElem?_setIfInBounds_ne (fun e=>he (zG3 hj hq e.symm))]
  refine h.2 i j hi hj ?_
  rcases hd with h1|⟨h1,h2⟩|h1|h1
  ·exact .inl h1
  ·refine .inr (.inl ⟨h1,?_⟩);omega
  ·exact .inr (.inr (.inl h1))
  ·exact .inr (.inr (.inr h1))
theorem zHa (x:Int) (a:Option Addr) (n c:Nat) (w:World):(Instr.build 80 #[(0,.int .i64 x),(1,.slice a n c)]).run Try.prog w=.ok (.agg #[.int .i64 x,.slice a n c]) w:=by kernel_rfl
set_option maxHeartbeats 1000000 in
theorem qNl (w0:World) (va vb:Value) (a b:List ByteArray) (hla:a.length≤400) (hlb:b.length≤400) (ha:SlS w0 va a) (hb:SlS w0 vb b) :
  Calls Try.prog 39 #[va,vb] w0 (Ret fun r w'=>∃ g n cs,r=.agg #[.int .i64 (b.length + 1:Nat),.slice (some ⟨g,0,none⟩) n n]∧n=(a.length + 1) * (b.length + 1)∧w0.heap.size≤g∧Blk w' g cs 82∧TabD a b cs (b.length + 1) 0 0∧Below w0.heap.size w0 w'):=by
 refine tT (args:=[_,_]) Try.func39 rfl Try.ntmps39 Try.results39 (by simp) ?_
 obtain ⟨aa,ca,rfl,ha1,ha2,ha3⟩:=ha;obtain ⟨ab,cb,rfl,hb1,hb2,hb3⟩:=hb;generalize hla':a.length=la at *
 generalize hlb':b.length=lb at *
 obtain ⟨wd,hwd⟩:∃ wd,wd=lb + 1:=⟨_,rfl⟩;rw [← hwd];obtain ⟨n,hn⟩:∃ n,n=(la + 1) * wd:=⟨_,rfl⟩
 have hn':n≤401 * 401:=by rw [hn];exact Nat.mul_le_mul (by omega) (by omega)
 have e1:IntKind.i64.wrap ((lb:Int) + 1)=(wd:Int):=by rw [iM (by omega) (by omega)];omega
 have e2:IntKind.i64.wrap ((la:Int) + 1)=(la:Int) + 1:=by rw [iM (by omega) (by omega)]
 have e3:IntKind.i64.wrap (((la:Int) + 1) * (wd:Int))=(n:Int):=by
  have:((la:Int) + 1) * (wd:Int)=(n:Int):=by rw [hn];simp
  rw [this,iM (by omega) (by omega)]
 have hm:maxLen ≥ 1000000:=by decide
 refine bM ?_;refine bZ (fun K hK=>?_);simp only [push_cast,simprocAttr,zA8];refine hK _ _ ?_;clear hK K
 have hr0:=Blk.new w0 #[.int .i64 0,.slice none 0 0] 80
 have hB0:=(Below.refl w0.heap.size w0).alloc (Nat.le_refl _) (.cells #[.int .i64 0,.slice none 0 0] 80)
 generalize hw1:w0.alloc (.cells #[.int .i64 0,.slice none 0 0] 80)=w1 at *
 clear hw1;generalize hR:w0.heap.size=R at *
 refine bM ?_;refine bZ (fun K hK=>?_);simp only [push_cast,simprocAttr,e1,e2,e3,pZ]
 obtain ⟨w2,hr,ho,hb2,hlt⟩:=qT9 (P:=Try.prog) (w:=w1) zH1 n (by omega) (by omega)
 refine ⟨_,w2,hr,?_⟩;clear hr
 have hRg:R < w1.heap.size:=hr0.lt
 have hr0:=hr0.up hb2
 have hB0:=hB0.trans (hb2.mono (Nat.le_of_lt hRg))
 obtain ⟨hg,-,hlen⟩:=ho.blk;rw [qNm] at hg;generalize hG:w1.heap.size=g at *
 refine v2s ?_;try simp only [push_cast,simprocAttr,zA8];refine ⟨_,zHa _ _ _ _,?_⟩;refine v2s ?_;try simp only [push_cast,simprocAttr,zA8]
 have hs0:=Blk.new w2 #[.int .i64 0,.slice none 0 0] 80
 have hRs:=hg.lt
 have hB0:=hB0.alloc (Nat.le_of_lt hr0.lt) (.cells #[.int .i64 0,.slice none 0 0] 80)
 have hr0:=hr0.alloc (.cells #[.int .i64 0,.slice none 0 0] 80)
 have hg:=hg.alloc (.cells #[.int .i64 0,.slice none 0 0] 80)
 generalize hw3:w2.alloc (.cells #[.int .i64 0,.slice none 0 0] 80)=w3 at *
 generalize hS:w2.heap.size=s at *
 obtain ⟨w4,hr,hs,ho⟩:=qHq (P:=Try.prog) (ty:=80) (vs:=#[.int .i64 wd,.slice (some ⟨g,0,none⟩) n n]) hs0 qG9 (by simp [Value.oneCell']) rfl
 refine ⟨w4,hr,?_⟩
 have hr0:=hr0.only ho (by omega)
 have hg:=hg.only ho (by omega)
 have hB0:=ho.below hB0 (by omega)
 refine v2s ?_;try simp only [push_cast,simprocAttr];refine hK _ _ ?_;clear hK K;clear hr
 have e4:IntKind.i64.wrap ((la:Int) - 1)=(la:Int) - 1:=iM (by omega) (by omega)
 have e5:IntKind.i64.wrap ((lb:Int) - 1)=(lb:Int) - 1:=iM (by omega) (by omega)
 refine bM ?_;refine bM ?_;refine bZ (fun K hK=>?_);simp only [push_cast,simprocAttr,pZ,e4];refine hK _ _ ?_;clear hK K
 have hT0:TabD a b (Array.replicate n (Value.int .i16 0)) wd la 0:=by
  refine ⟨by rw [Array.size_replicate,hla',hn],fun p q hp hq hd=>?_⟩
  rw [hla'] at hp
  have:p * wd + q < n:=by rw [hn];exact qKf hq (by omega)
  rw [Array.getElem?_replicate,if_pos this,qS4 _ _ _ _ (by omega)]
  rfl
 refine zV ?_;refine gH ?_;refine sK (fun i:Nat=>[(0,.slice aa la ca),(1,.slice ab lb cb),(4,.pointer (some ⟨R,0,none⟩)),(5,.pointer (some ⟨s,0,none⟩)),(6,.int .i64 ((i:Int) - 1))])
  (fun i w=>i≤la∧∃ cs,Blk w g cs 82∧TabD a b cs wd i 0∧Blk w s #[.int .i64 wd,.slice (some ⟨g,0,none⟩) n n] 80∧Blk w R #[.int .i64 0,.slice none 0 0] 80∧Below R w0 w) (fun i=>i) [0,1,4,5,6] la rfl
  ⟨Nat.le_refl _,_,hg,hT0,hs,hr0,hB0⟩ ?_
 clear hg hT0 hs hr0 hB0 hw3 hs0 hb2 ho hS hG;rintro i w ⟨hi,cs,hg,hT,hs,hr0,hB0⟩;refine bM ?_;refine bM ?_;refine bZ (fun K hK=>?_);simp only [push_cast,simprocAttr];refine hK _ _ ?_;clear hK K
 refine zV ?_;refine iV rfl (fun hlt=>?_) (fun hge=>?_)
 ·have hlt:0 < i:=by simp at hlt;omega
  obtain ⟨m,rfl⟩:∃ m,i=m + 1:=⟨i - 1,by omega⟩
  have em:(((m + 1:Nat):Int)) - 1=(m:Int):=by omega
  rw [em];refine kT (l':=_) [0,1,4,5,6] (by simp only [keep,lk,Nat.reduceEqDiff,reduceIte];exact rfl) ?_
  refine iU ?_;refine bM ?_;refine gH ?_;refine bM ?_;refine bZ (fun K hK=>?_);simp only [push_cast,simprocAttr,pZ,e5];refine hK _ _ ?_;clear hK K
  refine zV ?_;refine gH ?_;refine sK (fun j:Nat=>[(0,.slice aa la ca),(1,.slice ab lb cb),(4,.pointer (some ⟨R,0,none⟩)),(5,.pointer (some ⟨s,0,none⟩)),(6,.int .i64 (m:Int)),(7,.int .i64 ((j:Int) - 1))])
   (fun j w=>j≤lb∧∃ cs,Blk w g cs 82∧TabD a b cs wd m j∧Blk w s #[.int .i64 wd,.slice (some ⟨g,0,none⟩) n n] 80∧Blk w R #[.int .i64 0,.slice none 0 0] 80∧Below R w0 w) (fun j=>j) [0,1,4,5,6,7] lb rfl
   ⟨Nat.le_refl _,cs,hg,?_,hs,hr0,hB0⟩ ?_
  ·refine ⟨hT.1,fun p q hp hq hd=>hT.2 p q hp hq ?_⟩
   rw [hla'] at hd ⊢;omega
  clear hg hT hs hr0 hB0 cs;rintro j w ⟨hj,cs,hg,hT,hs,hr0,hB0⟩;refine bM ?_;refine bM ?_;refine bZ (fun K hK=>?_);simp only [push_cast,simprocAttr];refine hK _ _ ?_;clear hK K
  refine zV ?_;refine iV rfl (fun hltj=>?_) (fun hgej=>?_)
  ·have hltj:0 < j:=by simp at hltj;omega
   obtain ⟨q,rfl⟩:∃ q,j=q + 1:=⟨j - 1,by omega⟩
   have eq:(((q + 1:Nat):Int)) - 1=(q:Int):=by omega
   rw [eq];refine kT (l':=_) [0,1,4,5,6,7] (by simp only [keep,lk,Nat.reduceEqDiff,reduceIte];exact rfl) ?_
   refine iU ?_;refine bM ?_;refine gH ?_;obtain ⟨ba,oa,rfl,ca3⟩:=ha3 (by omega)
   obtain ⟨bb,ob,rfl,cb3⟩:=hb3 (by omega)
   have cA:=fC (w':=w) (by rw [hR];exact hB0) (ca3 m (by omega))
   have cB:=fC (w':=w) (by rw [hR];exact hB0) (cb3 q (by omega))
   have hA:(0:Int)≤m∧(m:Int) < la:=by omega
   have hB:(0:Int)≤q∧(q:Int) < lb:=by omega
   refine bM ?_;refine qCi [0,1,4,5,6,7] 9 mixed rfl (by kernel_rfl) (fun K hK=>?_);simp only [push_cast,simprocAttr,pZ,kt9,cA,cB,hA,hB]
   intro w5 hw5;refine v2s ?_;try simp only [push_cast,simprocAttr];refine hK _ _ ?_;clear hK K;refine kT (l':=_) [42,0,1,4,5,6,7] (by simp only [keep,lk,Nat.reduceEqDiff,reduceIte];exact rfl) ?_
   have hg:=hg.up hw5
   have hs:=hs.up hw5
   have hr0:=hr0.up hw5
   have hB0:=hB0.trans (hw5.mono (by rw [← hR];exact hB0.size))
   obtain ⟨m1,hm1⟩:∃ m1,m1=m + 1:=⟨_,rfl⟩;obtain ⟨q1,hq1⟩:∃ q1,q1=q + 1:=⟨_,rfl⟩
   have hmw:m * wd≤400 * 401:=Nat.mul_le_mul (by omega) (by omega)
   have f1:IntKind.i64.wrap ((m:Int) * (wd:Int))=(m:Int) * (wd:Int):=iM (by rw [← Int.natCast_mul];omega) (by rw [← Int.natCast_mul];omega)
   obtain ⟨k,hk⟩:∃ k,k=m * wd + q:=⟨_,rfl⟩
   have f2:IntKind.i64.wrap ((m:Int) * (wd:Int) + (q:Int))=(k:Int):=by rw [hk,Int.natCast_add,Int.natCast_mul];exact iM (by rw [← Int.natCast_mul];omega) (by rw [← Int.natCast_mul];omega)
   have f3:IntKind.i64.wrap ((m:Int) + 1)=(m1:Int):=by rw [iM (by omega) (by omega)];omega
   have f4:IntKind.i64.wrap ((q:Int) + 1)=(q1:Int):=by rw [iM (by omega) (by omega)];omega
   have hkn:k < n:=by rw [hk,hn];exact qKf (by omega) (by omega)
   have hkk:(0:Int)≤k∧(k:Int) < n:=by omega
   have g0:=hs.cell 0
   have g1:=hs.cell 1
   simp only [List.getElem?_toArray,List.getElem?_cons_zero,List.getElem?_cons_succ] at g0 g1
   have hcs:cs.size=n:=by rw [hT.1,hla',hn]
   have hstep:=qWv a b m q (by omega) (by omega)
   have ga:a.getD m ByteArray.empty=a[m]'(by omega):=by simp [List.getD_eq_getElem?_getD,List.getElem?_eq_getElem (show m < a.length by omega)]
   have gb:b.getD q ByteArray.empty=b[q]'(by omega):=by simp [List.getD_eq_getElem?_getD,List.getElem?_eq_getElem (show q < b.length by omega)]
   have near:∀ x y,x≤la→y < wd→(x=m1∨y=q1∧x=m)→w5.cell? ⟨g,x * wd + y,none⟩=some (.int .i16 (at2 a b x y)):=fun x y hx hy hd=>by
    rw [hg.cell];refine hT.2 x y (by omega) hy ?_
    omega
   have f6:IntKind.i64.wrap ((q:Int) - 1)=(q:Int) - 1:=iM (by omega) (by omega)
   have s1:at2 a b m1 q1≤la:=hla' ▸ qFc a b m1 q1
   have s2:at2 a b m1 q≤la:=hla' ▸ qFc a b m1 q
   have s3:at2 a b m q1≤la:=hla' ▸ qFc a b m q1
   have bound:∀ x y,x≤la→y < wd→x * wd + y < n:=fun x y hx hy=>by rw [hn];exact qKf hy (by omega)
   refine iV rfl (fun he=>?_) (fun he=>?_)
   ·have he:a.getD m ByteArray.empty=b.getD q ByteArray.empty:=of_decide_eq_true he
    rw [ga,gb] at he;rw [if_pos he] at hstep
    have f5:IntKind.i16.wrap ((at2 a b m1 q1:Int) + 1)=((at2 a b m q:Nat):Int):=by
     rw [← Int.natCast_one,← Int.natCast_add,zHx (by omega)];subst hm1;subst hq1;omega
    refine qCi [42,0,1,4,5,6,7] 16 mixed rfl (by kernel_rfl) (fun K hK=>?_);simp only [push_cast,simprocAttr,kt3,zEi,qG9,qX4,zFa,zE9,g0,g1,qXe,f1,f2,f3,f4,hkk]
    refine ⟨_,hs.cells rfl,?_⟩;refine vqs ?_;try simp only [push_cast,simprocAttr,f3,f4];refine ⟨zFv,_,oW (fun w' hw'=>qA9 w' g n wd m1 q1 _ (by omega) (by omega) (by omega) (by omega) (bound m1 q1 (by omega) (by omega)) (fC hw' (near m1 q1 (by omega) (by omega) (.inl rfl)))),?_⟩
    refine vqs ?_;try simp only [push_cast,simprocAttr,f5,qXe,hkk];intro w6 hw6;obtain ⟨w7,hr,hg7,ho⟩:=qRz (P:=Try.prog) (ty:=82) (i:=k) (v:=.int .i16 (at2 a b m q:Nat)) (hg.up hw6) qX4 rfl (by omega)
    refine v2s ?_;try simp only [push_cast,simprocAttr];refine ⟨w7,hr,?_⟩;refine v2s ?_;try simp only [push_cast,simprocAttr];refine hK _ _ ?_;clear hK K;clear hr;refine zY ?_;refine zV ?_;refine kT (l':=_) [0,1,4,5,6,7] (by simp only [keep,lk,Nat.reduceEqDiff,reduceIte];exact rfl) ?_
    refine bZ (fun K hK=>?_);simp only [push_cast,simprocAttr,f6];refine hK _ _ ?_;clear hK K
    refine zV ⟨q,rfl,⟨by omega,_,hg7,?_,(hs.up hw6).only ho (by omega),(hr0.up hw6).only ho (by omega),ho.below (hB0.trans (hw6.mono (by rw [← hR];exact hB0.size))) (by omega)⟩,by omega⟩
    rw [hk];exact hT.put (by omega) (by omega) _ rfl
   ·have he:¬ a.getD m ByteArray.empty=b.getD q ByteArray.empty:=of_decide_eq_false he
    rw [ga,gb] at he;rw [if_neg he] at hstep;refine qCi [42,0,1,4,5,6,7] 20 mixed rfl (by kernel_rfl) (fun K hK=>?_);simp only [push_cast,simprocAttr,kt3,zEi,qG9,qX4,zFa,zE9,g0,g1,qXe,f1,f2,f3,f4,hkk]
    refine ⟨_,hs.cells rfl,?_⟩;refine vqs ?_;try simp only [push_cast,simprocAttr,f3,f4];refine ⟨zFv,_,oW (fun w' hw'=>qA9 w' g n wd m1 q _ (by omega) (by omega) (by omega) (by omega) (bound m1 q (by omega) (by omega)) (fC hw' (near m1 q (by omega) (by omega) (.inl rfl)))),?_⟩
    refine vqs ?_;try simp only [push_cast,simprocAttr];refine ⟨_,hs.cells rfl,?_⟩;refine vqs ?_;try simp only [push_cast,simprocAttr,f3,f4];refine ⟨zFv,_,oW (fun w' hw'=>qA9 w' g n wd m q1 _ (by omega) (by omega) (by omega) (by omega) (bound m q1 (by omega) (by omega)) (fC hw' (near m q1 (by omega) (by omega) (.inr ⟨rfl,rfl⟩)))),?_⟩
    refine vqs ?_;try simp only [push_cast,simprocAttr,qXe,hkk];intro w6 hw6
    have f7:(if (at2 a b m1 q:Int) < (at2 a b m q1:Int) then (at2 a b m q1:Int) else (at2 a b m1 q:Int))=((at2 a b m q:Nat):Int):=by
     subst hm1;subst hq1;split <;> omega
    rw [f7];obtain ⟨w7,hr,hg7,ho⟩:=qRz (P:=Try.prog) (ty:=82) (i:=k) (v:=.int .i16 (at2 a b m q:Nat)) (hg.up hw6) qX4 rfl (by omega)
    refine v2s ?_;try simp only [push_cast,simprocAttr];refine ⟨w7,hr,?_⟩;refine v2s ?_;try simp only [push_cast,simprocAttr];refine hK _ _ ?_;clear hK K;clear hr;refine zY ?_;refine zV ?_;refine kT (l':=_) [0,1,4,5,6,7] (by simp only [keep,lk,Nat.reduceEqDiff,reduceIte];exact rfl) ?_
    refine bZ (fun K hK=>?_);simp only [push_cast,simprocAttr,f6];refine hK _ _ ?_;clear hK K
    refine zV ⟨q,rfl,⟨by omega,_,hg7,?_,(hs.up hw6).only ho (by omega),(hr0.up hw6).only ho (by omega),ho.below (hB0.trans (hw6.mono (by rw [← hR];exact hB0.size))) (by omega)⟩,by omega⟩
    rw [hk];exact hT.put (by omega) (by omega) _ rfl
  ·have hz:j=0:=by simp at hgej;omega
   subst hz;refine sL ?_;refine yP ?_;refine yP ?_;refine yQ ?_;refine zY ?_;refine zV ?_;refine kT (l':=_) [0,1,4,5,6] (by simp only [keep,lk,Nat.reduceEqDiff,reduceIte];exact rfl) ?_
   have f8:IntKind.i64.wrap ((m:Int) - 1)=(m:Int) - 1:=iM (by omega) (by omega)
   refine bZ (fun K hK=>?_);simp only [push_cast,simprocAttr,f8];refine hK _ _ ?_;clear hK K
   exact zV ⟨m,rfl,⟨by omega,cs,hg,hT,hs,hr0,hB0⟩,by omega⟩
 ·have hz:i=0:=by simp at hge;omega
  subst hz;refine sL ?_;refine yP ?_;refine yP ?_;refine yQ ?_;refine bM ?_;refine kT (l':=_) [0,1,4,5,6] (by simp only [keep,lk,Nat.reduceEqDiff,reduceIte];exact rfl) ?_
  refine bZ (fun K hK=>?_);simp only [push_cast,simprocAttr,qG9]
  refine ⟨_,hs.cells rfl,?_⟩;refine v2s ?_;try simp only [push_cast,simprocAttr,qG9];obtain ⟨w5,hr,hr5,ho⟩:=qHq (P:=Try.prog) (ty:=80) (vs:=#[.int .i64 wd,.slice (some ⟨g,0,none⟩) n n]) hr0 qG9 (by simp [Value.oneCell']) rfl
  refine ⟨w5,hr,?_⟩;refine v2s ?_;try simp only [push_cast,simprocAttr];refine hK _ _ ?_;clear hK K;clear hr;refine zV ?_;refine qG4 ?_;simp only [qYd,nG,tup,lk,Nat.reduceEqDiff,reduceIte,reduceCtorEq,qG9];exact ⟨_,hr5.cells rfl,g,n,cs,rfl,hn,by omega,hg.only ho (by omega),hT,ho.below hB0 (by omega)⟩
end Go.Proofs.Ytmgilahhnbopmaa
