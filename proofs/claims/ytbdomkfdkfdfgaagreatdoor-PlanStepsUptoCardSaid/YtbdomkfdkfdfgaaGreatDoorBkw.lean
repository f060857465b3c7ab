/-
  slices.Backward over entries: its closure, for every loop body that keeps some blocks.
-/
import Derived.Test.YtbdomkfdkfdfgaaGreatDoorRnh
import Derived.RangeFuncBox
import Derived.RangeFuncLeaves
import Derived.Shelf.Abstract
import Derived.WalkKit
import Derived.OwnWalkIn
import Derived.TacticsInMore
import Derived.LoopNIn
import Derived.LoopIn
import Derived.Test.YtbdomkfdkfdfgaaGreatDoorProg
set_option linter.unusedSimpArgs false
set_option linter.unusedVariables false
section
namespace Go.Eng
open Go Go.RowKit
section
variable {P:Program} {N:Nat} {fn:Func} {Q:HV→aD→Prop} {S S':HS}
def zWo (Q:HV→aD→Prop) (w0:World) (v:Value) (w':World):Prop :=
 Below w0.heap.size w0 w'∧∃ h st',(∀ i r,rlk st' i=some r→i < 8)∧Q h st'∧InvV (cx w0 (fun _=>False) (fun b=>b < w0.heap.size)) ⟨[],st'⟩ h v (fun _=>none) w'
def HMD (P:Program) (N:Nat) (fn:Func) (Q:HV→aD→Prop) (x:Code) (S:HS):Prop :=
 ∀ (w0:World) (l:Env) (w:World),Inv (cx w0 (fun _=>False) (fun _=>False)) S (lk l) w→MD P N fn (zWo Q w0) [] x l w
theorem zGu {x y:Code} (h:HW P N x (fun e S'=>e=.normal∧HMD P N fn Q y S') S):HMD P N fn Q (.seq x y) S:=fun w0 l w I =>
 zT6 ((h _ l w I).mono fun e l' w' ⟨S',I',he,h'⟩=>⟨he,h' w0 l' w' I'⟩)
theorem zN4 {x:Code} (ks ids:List Nat) {S':HS} (he:S.keep ks ids=S') (h:HMD P N fn Q x S'):HMD P N fn Q x S:=fun w0 l w I=>h w0 l w (by rw [← he];exact I.keep ks ids)
theorem zVs {f:FuncId} {x:Code} {args:List HV} (hf:P.funcs[f]?=some fn) (hb:fn.body=some x) (hN:fn.ntmps=N) (hle:args.length≤N) (h:HMD P N fn Q x ⟨qAl 0 args,[]⟩):HFun P f args Q:=fun w vs R=>by
 refine zAm hf hb hN (by rw [R.1];exact hle) (h w _ _ ?_)
 refine ⟨fun _=>undef,fun _=>[],fun id r hr=>by simp [rlk] at hr,fun i j r s b hne hi=>by simp [rlk] at hi,fun k h hk=>?_,Kept.refl _ _,fun b hb=>hb.elim⟩
 obtain ⟨-,h2⟩:=qC3 args 0 k h hk;rw [Nat.sub_zero] at h2;obtain ⟨hlt,rfl⟩:=List.getElem?_eq_some_iff.1 h2
 have hlt':k < vs.length:=by rw [R.1];exact hlt
 refine ⟨vs[k],qGu vs 0 k _ (Nat.zero_le _) (by simp [hlt']),(R.2 k hlt' hlt).up (Nat.le_refl _) (fun _ _ _=>rfl) (fun b _ hA=>?_) (Nat.le_refl _)⟩
 rcases hA with h0|⟨i,r,hi,-⟩
 ·exact h0
 ·simp [rlk] at hi
theorem qMz {l:Env} {a k:Nat} {v:Value} (h:a≠k):lk ((a,v) :: l) k=lk l k:=by simp only [lk];rw [if_neg h]
theorem zJq {reg assign body rest:Code} {tg t13 ti tx ta b0 t1:Nat} {tsl ty:TypeId} {gf:FuncId} {env:aK} {st:aD} {fr:Bool} {xs:List (List FV)} (E:List (Fin xs.length)→aD)
  (hN:tx < N∧ti < N∧ta < N) (hix:ti≠tx∧tx≠ta∧ti≠ta) (h1:hlk env t1=some (.lst fr xs)) (h3:∀ x ∈ xs,x.length=3)
  (hfr:∀ k x,hlk env k=some x→tg≠k∧t13≠k∧ti≠k∧tx≠k∧ta≠k)
  (hnw:∀ id r,rlk st id=some r→r.nw=true) (hE0:E []=qAx st) (hst:∀ pre k h,hlk env k=some h→zT5 (E pre) h)
  (hty:∀ pre id r,rlk (E pre) id=some r→r.ty=ty→∃ cs,r=.bx false ty cs)
  (hreg:∀ (l:Env) (w:World) (a:Option Addr) (n cap:Nat),lk l t1=some (.slice a n cap)→W P N reg (fun e l' w'=>e=.normal∧l'=(tg,.func (.func gf) #[] #[.pointer (some ⟨w.heap.size,0,none⟩)]) :: (t13,.slice a n cap) :: l∧w'=w.alloc (.cells #[.slice a n cap] tsl)) l w)
  (eg:∀ args w,(callFunc gf args).run P w=.ok (.enter gf args) w)
  (hseq:∀ (W:World) (Bs:Nat) (sv:Value) (T:Nat→Prop) (vals:Nat→Nat→Value),T Bs→(∀ k,T k→k < W.heap.size)→W.cell? ⟨Bs,0,none⟩=some sv→BkE T W sv xs.length vals →
   SeqStopsK Fence.wide 1 P gf #[.pointer (some ⟨Bs,0,none⟩)] (fun j:Fin xs.length=>#[.int .i64 ((j:Nat):Int),.agg #[vals j 0,vals j 1,vals j 2]]) (Stay T) (fun ys=>ys=(List.finRange xs.length).reverse) (fun _=>True) xs.length W)
  (hasg:∀ (l:Env) (w:World) (v0 v1 v2:Value),v0.oneCell'=true→v1.oneCell'=true→v2.oneCell'=true→lk l tx=some (.agg #[v0,v1,v2]) →
   W P N assign (fun e l' w'=>e=.normal∧l'=(ta,.pointer (some ⟨w.heap.size,0,none⟩)) :: l∧Below w.heap.size w w'∧w'.heap[w.heap.size]?=some (.cells #[v0,v1,v2] ty (0,0))) l w)
  (hbody:∀ (pre:List (Fin xs.length)) (j:Fin xs.length),pre.length < xs.length→HW P N body (fun e S'=>e=.normal∧∃ ids,vN ids S'.st=E (pre ++ [j])) ⟨(ta,.elt true [xs[j]] 3 0 0) :: env,E pre⟩)
  (hrest:∀ D,HWM P N rest (fun e g S=>(e=.normal∨e=.ret)∧g=[.dfr D]∧tP P S fn.results.toList fun hs=>qB9 S (qD6 hs) Q) [.dfr D] ⟨env,rE (E (List.finRange xs.length).reverse)⟩) :
  HMD P N fn Q (.seq (.seq reg (.block b0 (.rangeFunc (.tmp tg) #[ti,tx] assign body))) rest) ⟨env,st⟩:=fun w0 l w I hk F hF=>by
 obtain ⟨c,hc⟩:∃ c,cx w0 (fun _=>False) (fun _=>False)=c:=⟨_,rfl⟩
 obtain ⟨ρ,ys,G⟩:=I;rw [hc] at G;obtain ⟨v1,hv1,hr1⟩:=G.env t1 _ h1
 cases hr1 with
|lst hr1 =>
 cases hr1 with
|@lst a n cap _ _ sz vals hn hcap hm hnil hsz ha hone vA =>
 have h13:=hreg l w a n cap hv1 hk F
 rw [hF] at h13;refine wpIn_seq (wpIn_seq (Code.wpIn_mono ?_ h13));rintro e A1 w1 ⟨F1,l1,hf1,rfl,hk1,rfl,rfl,rfl⟩;show (Code.block b0 _).wpIn Fence.wide 0 P _ _ _
 refine wpIn_block ?_;refine wpIn_wide.2 (wpIn_wide (n:=2).1 ?_)
 -- the world behind slices.Backward
 obtain ⟨w1,hw1⟩:∃ w1,w.alloc (.cells #[.slice a n cap] tsl)=w1:=⟨_,rfl⟩
 have hsz1:w1.heap.size=w.heap.size + 1:=by rw [← hw1];exact World.size_alloc _ _
 have hb1:Below w.heap.size w w1:=by rw [← hw1];exact (Below.refl _ w).alloc (Nat.le_refl _) _
 have hBs:w1.cell? ⟨w.heap.size,0,none⟩=some (.slice a n cap):=by
  rw [← hw1];unfold World.cell?;rw [World.alloc_heap_new];rfl
 have ltO:∀ b,eV ρ st b→b < w.heap.size:=fun b ⟨i,s,hi,hb⟩=>G.lt hi hb
 obtain ⟨lg,hlg⟩:∃ lg,((tg,Value.func (.func gf) #[] #[.pointer (some ⟨w.heap.size,0,none⟩)]) :: (t13,Value.slice a n cap) :: l:Env)=lg:=⟨_,rfl⟩
 have lkl:∀ k x,hlk env k=some x→lk lg k=lk l k:=fun k x hx=>by
  obtain ⟨q1,q2,-⟩:=hfr k x hx;rw [← hlg,qMz q1,qMz q2]
 have G1:Good c ⟨env,st⟩ (lk lg) w1 ρ ys:=by
  have:=G.below hb1
  exact ⟨this.rows,this.apart,fun k x hx=>by rw [lkl k x hx];exact this.env k x hx,this.kept,this.a0⟩
 have hlk1:bK N lg=true:=by rw [← hlg];exact hk1
 have hgv:lk lg tg=some (.func (.func gf) #[] #[.pointer (some ⟨w.heap.size,0,none⟩)]):=by rw [← hlg];simp [lk]
 rw [hw1,hlg]
 have hcn:c.n0≤w1.heap.size:=Nat.le_trans c.hn G1.kept.size
 -- what pR
 obtain ⟨T,hT⟩:∃ T:Nat→Prop,T=fun b=>b=w.heap.size∨(b < w.heap.size∧¬ c.A ρ st b):=⟨_,rfl⟩
 have hTl:∀ k,T k→k < w1.heap.size:=fun k h=>by rw [hT] at h;rcases h with rfl|h <;> omega
 have hTO:∀ k,T k→¬ eV ρ st k:=fun k h ho=>by
  rw [hT] at h
  rcases h with rfl|h
  ·exact absurd (ltO _ ho) (by omega)
  ·exact h.2 (.inr ho)
 subst hn
 have hsz3:0 < xs.length→sz=3:=fun h=>by
  have:=hsz xs[0] (List.getElem_mem h)
  rw [h3 _ (List.getElem_mem h)] at this;exact this.symm
 have hBk:BkE T w1 (.slice a xs.length cap) xs.length vals:=⟨a,cap,rfl,fun hpos=>by
  obtain ⟨b,off,e,q1,q2,q3,q4⟩:=ha hpos;refine ⟨b,off,e,by rw [hT];exact .inr ⟨q2,q1⟩,fun i k hi hk=>?_⟩
  have:=q4 i k hi (by rw [hsz3 hpos];exact hk)
  rw [hsz3 hpos] at this;exact (hb1.cell (p:=⟨b,off + (i * 3 + k),none⟩) q2).trans this⟩
 have hsq:=hseq w1 w.heap.size _ T vals (by rw [hT];exact .inl rfl) hTl hBs hBk
 -- the loop's state: the variables' places are known
 let c1:Ctx:=qRf c w1 ρ st hcn
 let Iv:List (Fin xs.length)→World→Prop:=fun pre W=>∃ ρ' xs',Good c1 ⟨[],E pre⟩ (fun _=>none) W ρ' xs'
 have stay:∀ {pre pre':List (Fin xs.length)} {W W':World},Iv pre W→Iv pre' W'→Stay T W W':=fun ⟨ρ1,_,g1⟩ ⟨ρ2,_,g2⟩ k hk =>
  (g2.kept.block k (hTl k hk) (hTO k hk)).trans (g1.kept.block k (hTl k hk) (hTO k hk)).symm
 have hown:∀ B,B=w1.heap.size→OwnFrom B Iv:=fun B hB pre W W' row ⟨ρ',xs',g⟩ hg hr=>⟨ρ',xs',g.grown hg fun r e=>⟨by have:=(hr r e).1;rw [hB] at this;exact this,(hr r e).2⟩⟩
 -- what reads,at any later world
 have later:∀ {pre:List (Fin xs.length)} {W:World} {ρ':Nat→Value} {xs':Nat→List Value},Good c1 ⟨[],E pre⟩ (fun _=>none) W ρ' xs'→∀ {v h},RepH w1 (c.A ρ st) c.n0 ρ v h→zT5 (E pre) h→RepH W (c1.A ρ' (E pre)) c.n0 ρ' v h :=
  by
   intro pre W ρ' xs' g v h hr hs;exact RepH.later (S:=⟨env,st⟩) (hn:=hcn) (S':=⟨[],E pre⟩) g hr hs
 have I0:Iv [] w1:=⟨ρ,ys,by
  have:=G1.pin hnw hcn
  rw [← hE0] at this;exact ⟨this.rows,this.apart,fun k x hx=>by simp [hlk] at hx,this.kept,this.a0⟩⟩
 let cv:Fin xs.length→Array Value:=fun j=>#[vals j 0,vals j 1,vals j 2]
 let Ax:Fin xs.length→Act→World→Prop:=fun j a' W'=>∃ (F':Fr N) (g9:Nat),F'.ds.1=[]∧a'=mk F' ((ta,.pointer (some ⟨g9,0,none⟩)) :: (tx,.agg (cv j)) :: (ti,.int .i64 ((j:Nat):Int)) :: lg)∧w1.heap.size≤g9∧W'.heap[g9]?=some (.cells (cv j) ty (0,0))
 have hone3:∀ (j:Fin xs.length) k,k < 3→(vals j k).oneCell'=true:=fun j k hk=>hone j k j.2 (by rw [hsz3 (by have:=j.2;omega)];exact hk)
 have hF1:F1.ds=([],none):=by rw [hf1]
 refine wpIn_rangeFunc_ownH (F:=Fence.wide) (Kp:=Stay T) (w0:=w1) rfl (by decide) (gf:=gf) (lb:=#[.pointer (some ⟨w.heap.size,0,none⟩)]) (qH F1 hlk1 (x:=.tmp tg) hgv) trivial eg hsq
  (fun h k b hb=>(k b hb).trans (h b hb)) (fun W l' o o' hl _ _ _ k hk=>World.putObj_heap_other (by have:=hTl k hk;omega)) (Below.refl _ _) (fun x=>rfl)
  Iv (fun _ _ _=>False) (hown _ rfl) (fun _ _ _ _ _ h=>h.elim) I0 Ax ?_ ?_ ?_ ?_ ?_
 · -- what the assignment leaves abides
  rintro j a' u W W' row ⟨F',g9,e1,e2,e3,e4⟩ hg hr;refine ⟨F',g9,e1,e2,e3,(hg.block g9 (Array.getElem?_eq_some_iff.1 e4).1 fun e=>?_).trans e4⟩
  obtain ⟨_,o,ho,hc'⟩:=hr g9 e.symm;rw [e4] at ho
  cases ho
  cases hc'
 · -- the assignment
  intro l' pre j W K hI hK
  let F2:Fr N:=⟨F1.base,F1.hN,([],some l')⟩
  let l2:Env:=(tx,.agg (cv j)) :: (ti,.int .i64 ((j:Nat):Int)) :: lg
  have hk2:bK N l2=true:=by
   simp only [l2,bK,Bool.and_eq_true];exact ⟨Nat.ble_eq_true_of_le hN.1,Nat.ble_eq_true_of_le hN.2.1,hlk1⟩
  have hw:=hasg l2 W (vals j 0) (vals j 1) (vals j 2) (hone3 j 0 (by decide)) (hone3 j 1 (by decide)) (hone3 j 2 (by decide)) (by simp [l2,lk,cv]) hk2 F2
  have ea:({ tmps:=((#[ti,tx]:Array Tmp).zip #[Value.int .i64 ((j:Nat):Int),.agg #[vals j 0,vals j 1,vals j 2]]).foldl (fun t (p,v)=>t.setIfInBounds p v) (mk F1 lg).tmps,defers:=[] }:Act)=mk F2 l2:=by simp [mk,kF,l2,F2,cv]
  rw [← ea] at hw;refine Code.wpIn_mono ?_ (show assign.wpIn (FW (some l')) 0 P _ _ W from hw)
  rintro e a' W' ⟨F3,l3,hf3,rfl,hk3,rfl,rfl,hbW,hcl⟩;obtain ⟨ρ',xs',g⟩:=hI
  have hI':Iv pre W':=⟨ρ',xs',g.below hbW⟩
  refine hK _ _ ⟨hbW.size,fun k o _ hk _=>(hbW.block k (Array.getElem?_eq_some_iff.1 hk).1).trans hk⟩ (fun k hk=>?_) hI' ⟨F3,W.heap.size,by rw [hf3],rfl,?_,hcl⟩
  ·have hkl:k < W.heap.size:=Nat.lt_of_lt_of_le (hTl k hk) g.kept.size
   exact hbW.block k hkl
  ·exact g.kept.size
 · -- the body
  rintro l' pre j a' W hl hrec ⟨ρ',xs',g⟩ ⟨F',g9,e1,rfl,e3,e4⟩ hlen
  have hz:0 < xs.length:=by omega
  have hg9:g9 < W.heap.size:=(Array.getElem?_eq_some_iff.1 e4).1
  -- no row lies aU
  have hno:¬ c1.A ρ' (E pre) g9:=by
   rintro (h|⟨i,r,hi,hb⟩)
   ·have:=(g.a0 g9 h).1
    have e:c1.w0.heap.size=w1.heap.size:=rfl
    omega
   ·have R:=g.rows i r hi
    rcases R.own.2 with ⟨h2,_⟩|⟨g',cap',cur,h2,_,h5,_⟩
    ·rw [h2] at hb;cases hb
    ·rw [h2] at hb;simp only [Value.ownBlock,Option.some.injEq] at hb;subst hb;rw [e4] at h5;simp only [Option.some.injEq,Obj.cells.injEq] at h5;obtain ⟨cs,rfl⟩:=hty pre i r hi h5.2.1.symm;obtain ⟨g2,q1,q2⟩:=R.rep.1;rw [q1] at h2;simp only [Value.slice.injEq,Option.some.injEq,Addr.mk.injEq] at h2;obtain ⟨r0,hr0⟩:=(q2 rfl).1
     have:=G1.lt (b:=g2) hr0 (by rw [(q2 rfl).2.1];rfl)
     have:=h2.1.1
     omega
  let l2:Env:=(ta,.pointer (some ⟨g9,0,none⟩)) :: (tx,.agg (cv j)) :: (ti,.int .i64 ((j:Nat):Int)) :: lg
  have hk2:bK N l2=true:=by
   simp only [l2,bK,Bool.and_eq_true];exact ⟨Nat.ble_eq_true_of_le hN.2.2,Nat.ble_eq_true_of_le hN.1,Nat.ble_eq_true_of_le hN.2.1,hlk1⟩
  have hj3:(xs[j]).length=3:=h3 _ (List.getElem_mem _)
  have hlst:RepF W (c1.A ρ' (E pre)) c.n0 (.slice (some ⟨g9,0,none⟩) 1 1) (.lst true [xs[j]]):=by
   refine .lst 3 (fun _ k=>vals j k) rfl (Nat.le_refl _) (by decide) (fun h=>by cases h) (fun x hx=>by rw [List.mem_singleton.1 hx];exact hj3) (fun _=>⟨g9,0,rfl,hno,hg9,fun _=>by omega,fun i k hi hk=>?_⟩) (fun i k hi hk=>hone3 j k hk) (fun i k hi hk=>?_)
   ·obtain rfl:i=0:=by omega
    match k,hk with
   |0,_=>simp [World.cell?,e4,cv]
   |1,_=>simp [World.cell?,e4,cv]
   |2,_=>simp [World.cell?,e4,cv]
   ·obtain rfl:i=0:=by have hi':i < 1:=hi;omega
    obtain ⟨q1,q2,q3⟩:=qYb (S:=⟨env,st⟩) (hn:=hcn) g
    have hk':k < (xs[j]).length:=by simpa using hk
    have:=(vA j k j.2 hk').up hb1.size (fun b hb _=>hb1.block b hb) (A':=c.A ρ st) (fun b _ h=>h) (Nat.le_refl _)
    exact this.up q1 q2 q3 (Nat.le_refl _)
  have I9:Inv c1 ⟨(ta,.elt true [xs[j]] 3 0 0) :: env,E pre⟩ (lk l2) W:=by
   refine ⟨ρ',xs',g.rows,g.apart,fun k x hx=>?_,g.kept,g.a0⟩
   by_cases e:ta=k
   ·subst e;simp only [hlk,if_true,Option.some.injEq] at hx;subst hx;refine ⟨_,by simp [l2,lk];rfl,?_⟩
    have:=RepH.elt (ρ:=ρ') (sz:=3) (i:=0) (k:=0) hlst (fun x hx=>by rw [List.mem_singleton.1 hx];exact hj3) (by simp)
    exact this
   ·simp only [hlk] at hx;rw [if_neg e] at hx;obtain ⟨q1,q2,q3,q4,q5⟩:=hfr k x hx;obtain ⟨v,u1,u2⟩:=G1.env k x hx;refine ⟨v,by simp only [l2];rw [qMz q5,qMz q4,qMz q3];exact u1,later g u2 (hst pre k x hx)⟩
  obtain ⟨c3,I3,back⟩:=zG2 I9
  have hw:=hbody pre j hlen c3 l2 W I3 hk2 ⟨F'.base,F'.hN,([],some l')⟩
  have ea:mk F' l2=mk (N:=N) ⟨F'.base,F'.hN,([],some l')⟩ l2:=by
   show Act.mk _ _=Act.mk _ _
   rw [e1]
  rw [ea];refine Code.wpIn_mono ?_ (show body.wpIn (FW (some l')) 0 P _ _ W from hw)
  rintro e a' W' ⟨F3,l3,hf3,rfl,hk3,S',I',rfl,ids,hids⟩;obtain ⟨⟨ρ2,xs2,g2⟩,kf⟩:=back S' _ _ I'
  have hI2:Iv (pre ++ [j]) W':=by
   have:Inv c1 ⟨[],vN ids S'.st⟩ (fun _=>none) W':=Inv.agree (look:=lk l3) (Inv.less ⟨ρ2,xs2,g2⟩ (fun k h e=>by simp [hlk] at e) (fun k h e=>qSf e)) (fun k x hx=>by simp [hlk] at hx)
   rw [hids] at this;exact this
  exact ⟨kf _,stay ⟨ρ',xs',g⟩ hI2,hI2⟩
 · -- behind the loop
  rintro D zs W hD rfl ⟨ρ',xs',g⟩ hdf
  have g2:=G1.unpin (hn:=hcn) (show Good (qRf c w1 ρ st hcn) ⟨env,E (List.finRange xs.length).reverse⟩ (lk lg) W ρ' xs' from ⟨g.rows,g.apart,fun k x hx=>by
   obtain ⟨v,u1,u2⟩:=G1.env k x hx;exact ⟨v,u1,later g u2 (hst _ k x hx)⟩,g.kept,g.a0⟩)
  have hDc:c.w0.heap.size≤D:=Nat.le_trans G1.kept.size hD
  have M:MsOk P c W [.dfr D]:=⟨fun i m hi=>by
   cases i with
  |zero=>simp only [List.getElem?_cons_zero,Option.some.injEq] at hi;subst hi;exact hdf
  |succ i=>simp at hi,fun i j m m' b hne hi hj=>by
   cases i with
  |zero =>
    cases j with
   |zero=>exact absurd rfl hne
   |succ j=>simp at hj
  |succ i=>simp at hi,fun i m b hi hb=>by
   cases i with
  |zero=>simp only [List.getElem?_cons_zero,Option.some.injEq] at hi;subst hi;simp only [MO.bs,List.mem_singleton] at hb;subst hb;exact .inl hDc
  |succ i=>simp at hi⟩
  have hr:=hrest D c lg W ⟨ρ',xs',g2⟩ M
  have hend:MD P N fn (zWo Q w0) [{ target:=.collected D,args:=#[] }] rest lg W:=zT7 (hr.mono fun e l' W' ⟨S',g',I',M',he,hg',hres⟩=>by
   subst hg'
   have hdW:W'.heap[D]?=some (.deferred (some [])):=M'.ok 0 _ rfl
   refine ⟨he,hdW,?_⟩;obtain ⟨ρ3,xs3,g3⟩:=I'
   have g4:Good c S' (lk l') (W'.putObj D (.deferred none)) ρ3 xs3:=g3.grown (grownBy_putObj' W' D _) fun r e=>by cases e;exact ⟨hDc,_,hdW,rfl⟩
   subst hc;exact resH_resE.resE_mono (resH_resE g4 _ _ hres) fun vs ⟨hs,hR,hv⟩=>qXe g4 (qM8 hv) hR)
  show rest.wpIn (FW none) 0 P _ _ _
  have:=hend hlk1 ⟨F1.base,F1.hN,([{ target:=.collected D,args:=#[] }],none)⟩ rfl
  have ea:({ mk F1 lg with defers:={ target:=.collected D,args:=#[] } :: (mk F1 lg).defers }:Act)=mk (N:=N) ⟨F1.base,F1.hN,([{ target:=.collected D,args:=#[] }],none)⟩ lg:=by
   show Act.mk _ _=Act.mk _ _
   have:(mk F1 lg).defers=[]:=by show F1.ds.1=[];rw [hF1]
   rw [this];rfl
  rw [ea];exact this
 ·rintro D cd pre W _ _ h _;exact h.elim
end
end Go.Eng
end
section
namespace Go.Proofs.YtbdomkfdkfdfgaaGreatDoor
open Go Go.RowKit Go.Shelf
attribute [local go_sem] Oper.semAt_some
def rv (len:Nat):List (Fin len):=(List.finRange len).reverse
theorem qG1 (len:Nat):(rv len).length=len:=by simp [rv]
theorem zPj {len k:Nat} (h:k < len):(rv len).take (k + 1)=(rv len).take k ++ [⟨len - 1 - k,by omega⟩]:=by
 rw [List.take_succ_eq_append_getElem (by rw [qG1];exact h)]
 congr 2
 simp [rv,List.getElem_reverse]
set_option maxRecDepth 100000 in
set_option maxHeartbeats 4000000 in
theorem zT0 (F:Fence) (n:Nat) (h71:F.fn 71) (hro:F.round=none) (hn:1≤n) (l Bs:Nat) (T:Nat→Prop) (b off len cap:Nat) (vals:Nat→Nat→Value) (hreach:len * 40≤140737488351232) (hTb:T b) (hTs:T Bs) (J Jx:List (Fin len)→World→Prop)
  (hY:∀ pre (x:Fin len) W,J pre W→pre.length < len→YieldAt F (n - 1) Tryz.prog l #[.int .i64 ((x:Nat):Int),.agg #[vals x 0,vals x 1,vals x 2]] W fun e W' =>
   (e=.returned (.bool true)∧J (pre ++ [x]) W'∧Eng.Stay T W W')∨(e=.returned (.bool false)∧Jx (pre ++ [x]) W'))
  (W:World) (hBs:W.cell? ⟨Bs,0,none⟩=some (.slice (some ⟨b,off,none⟩) len cap))
  (hc:∀ i k,i < len→k < 3→W.cell? ⟨b,off + (i * 3 + k),none⟩=some (vals i k)) (h0:J [] W) :
  CallsIn F n Tryz.prog 71 #[.func (.yield l) #[] #[],.pointer (some ⟨Bs,0,none⟩)] W fun e W'=>(∃ v,e=.returned v) ∧
   ((∃ ys,ys=rv len∧J ys W')∨(∃ pre,True∧Jx pre W')):=by
 refine callsIn_of_wp Tryz.func71 rfl h71 ?_ hro;simp only [Tryz.ntmps71,List.size_toArray,List.length_cons,List.length_nil,Nat.reduceAdd,Nat.reduceSub,Array.replicate_succ,Array.replicate_zero,List.push_toArray,List.append_toArray,List.nil_append,List.cons_append]
 gi_wp2
 gi_loopw [3] (fun i wr=>∃ k:Nat,k≤len∧i=.int .i64 ((len:Int) - 1 - k)∧J ((rv len).take k) wr∧Eng.Stay T W wr)
  (fun i _=>(intOf i + 1).toNat)
 case atStart=>exact ⟨0,Nat.zero_le _,by simp,h0,fun _ _=>rfl⟩
 case round =>
  obtain ⟨k,hk,rfl,hJs,hnx⟩:=hrel
  have hBs':=(World.cell?_of_block (a:=⟨Bs,0,none⟩) (hnx Bs hTs)).trans hBs
  by_cases hlt:k < len
  ·obtain ⟨j,hj⟩:∃ j,len - 1 - k=j:=⟨_,rfl⟩
   have hjl:j < len:=by omega
   have e:((len:Int) - 1 - k)=(j:Int):=by omega
   rw [e]
   have c0:wr.cell? ⟨b,off + j * 3,none⟩=some (vals j 0):=(World.cell?_of_block (a:=⟨b,off + j * 3,none⟩) (hnx b hTb)).trans (hc j 0 hjl (by omega))
   have c1:wr.cell? ⟨b,off + j * 3 + 1,none⟩=some (vals j 1):=(World.cell?_of_block (a:=⟨b,off + j * 3 + 1,none⟩) (hnx b hTb)).trans (hc j 1 hjl (by omega))
   have c2:wr.cell? ⟨b,off + j * 3 + 2,none⟩=some (vals j 2):=(World.cell?_of_block (a:=⟨b,off + j * 3 + 2,none⟩) (hnx b hTb)).trans (hc j 2 hjl (by omega))
   obtain ⟨fn,tmps,assign,body,hy,hR⟩:=hY _ ⟨j,hjl⟩ wr hJs (by rw [List.length_take,qG1];omega)
   dsimp only at hy
   gi_wp2
   have hup:(rv len).take (k + 1)=(rv len).take k ++ [⟨j,hjl⟩]:=by rw [zPj hlt];congr 2;exact Fin.ext hj
   refine hR.mono ?_;rintro e W3 (⟨rfl,hJ3,hk3⟩|⟨rfl,hJx3⟩)
   ·gi_wp2
    go_roundw
    case rel=>exact ⟨k + 1,by omega,by congr 1;omega,by rw [hup];exact hJ3,fun q hq=>(hk3 q hq).trans (hnx q hq)⟩
    case measure=>simp [intOf]
   ·gi_wp2
    refine bodyPost_ret (results_none rfl _ _ _) rfl ?_;exact ⟨⟨_,rfl⟩,.inr ⟨_,trivial,hJx3⟩⟩
  ·obtain rfl:k=len:=by omega
   have e:((k:Int) - 1 - k)=-1:=by omega
   rw [e]
   gi_wp2
   go_end0
   exact ⟨⟨_,rfl⟩,.inl ⟨_,rfl,by rw [List.take_of_length_le (by rw [qG1];exact Nat.le_refl _)] at hJs;exact hJs⟩⟩
set_option maxRecDepth 100000 in
set_option maxHeartbeats 1000000 in
theorem zCw (F:Fence) (n:Nat) (h71:F.fn 71) (hro:F.round=none) (l Bs:Nat) (a:Option Addr) (cap:Nat) (J:World→Prop) (W:World) (hBs:W.cell? ⟨Bs,0,none⟩=some (.slice a 0 cap)) (h0:J W) :
  CallsIn F n Tryz.prog 71 #[.func (.yield l) #[] #[],.pointer (some ⟨Bs,0,none⟩)] W fun e W'=>(∃ v,e=.returned v)∧J W':=by
 refine callsIn_of_wp Tryz.func71 rfl h71 ?_ hro;simp only [Tryz.ntmps71,List.size_toArray,List.length_cons,List.length_nil,Nat.reduceAdd,Nat.reduceSub,Array.replicate_succ,Array.replicate_zero,List.push_toArray,List.append_toArray,List.nil_append,List.cons_append]
 gi_wp2
 gi_loopw [3] (fun i wr=>i=.int .i64 (-1)∧J wr) (fun _ _=>0)
 case atStart=>exact ⟨rfl,h0⟩
 case round =>
  obtain ⟨rfl,hJs⟩:=hrel
  gi_wp2
  go_end0
  exact ⟨⟨_,rfl⟩,hJs⟩
set_option maxHeartbeats 1000000 in
theorem zWf (F:Fence) (n:Nat) (h47:F.fn 47) (hro:F.round=none) (a:Option Addr) (len cap:Nat) (w:World) :
  CallsIn F n Tryz.prog 47 #[.slice a len cap] w fun e w'=>e=.returned (.func (.func 71) #[] #[.pointer (some ⟨w.heap.size,0,none⟩)])∧w'=w.alloc (.cells #[.slice a len cap] 22):=by
 refine callsIn_of_wp Tryz.func47 rfl h47 ?_ hro;simp only [Tryz.ntmps47,List.size_toArray,List.length_cons,List.length_nil,Nat.reduceAdd,Nat.reduceSub,Array.replicate_succ,Array.replicate_zero,List.push_toArray,List.append_toArray,List.nil_append,List.cons_append]
 gi_wp2
 go_ret
 exact ⟨rfl,rfl⟩
theorem zNq (F:Fence) (n:Nat) (h71:F.fn 71) (hro:F.round=none) (hn:1≤n) (Bs:Nat) (sv:Value) (T:Nat→Prop) (len:Nat) (vals:Nat→Nat→Value) (hreach:len * 40≤140737488351232) (w:World) (hTs:T Bs) (hTl:∀ k,T k→k < w.heap.size)
  (hc:w.cell? ⟨Bs,0,none⟩=some sv) (hI:Eng.BkE T w sv len vals) :
  SeqStopsK F n Tryz.prog 71 #[.pointer (some ⟨Bs,0,none⟩)] (fun x:Fin len=>#[Value.int .i64 ((x:Nat):Int),.agg #[vals x 0,vals x 1,vals x 2]]) (Eng.Stay T) (fun ys=>ys=rv len) (fun _=>True) len w:=fun l J Jx W hW _ _ hY h0=>by
 have hc':=(hW.cell (p:=⟨Bs,0,none⟩) (hTl Bs hTs)).trans hc
 obtain ⟨a,cap,rfl,hb⟩:=hI
 rcases Nat.eq_zero_or_pos len with rfl|hpos
 ·exact (zCw F n h71 hro l Bs a cap (J []) W hc' h0).mono fun e W' ⟨he,hj⟩=>⟨he,.inl ⟨_,rfl,hj⟩⟩
 ·obtain ⟨b,off,rfl,hTb,hcl⟩:=hb hpos;exact zT0 F n h71 hro hn l Bs T b off len cap vals hreach hTb hTs J Jx hY W hc' (fun i k hi hk=>(hW.cell (p:=⟨b,off + (i * 3 + k),none⟩) (hTl b hTb)).trans (hcl i k hi hk)) h0
end Go.Proofs.YtbdomkfdkfdfgaaGreatDoor
end
