/-
  Slices that share no memory: marked, grown, looked at. Of no program.
-/
import Derived.Test.YtbdomkfdkfdfgaaGreatDoorTfl
import Derived.Test.YtbdomkfdkfdfgaaGreatDoorUpt
set_option linter.unusedSimpArgs false
set_option linter.unusedVariables false
section
set_option maxRecDepth 20000
namespace Go.Proofs.YtbdomkfdkfdfgaaGreatDoor
open Go Go.Eng Go.RowKit Go.Tr
attribute [local push_cast] qM0 qFo qQh qBw wX qGb qGa qBv qAr qAs qB2 xC xH tL sP rY sF sD sC sN wL rX lD sM sE sG sJ sK sL sB rZ qZ qY qT qU qV qW qX oY oU pA oZ oX oW mL oV pB xA wZ rJ rK rG nD nC nB iX iY oS wE wD kZ mZ vU rL vV vT vS vW rM qCh vY qFc qG9 qXg qFe qBa rP qBb qA9 qA8 qA6 qL7 rQ qFf qFd qA5 qBd qL8 qBc vX qA7 qGe qBy qB0 wY qBz qQl qGf qQk qGc qBx qGd qQj wA rT wC wB tB sZ qMk qFj qBe qFk qBk wR wQ qFr wM wP qBl qFs sR wS qBm sQ wN qK2 qEm qK1 qEl qAq
attribute [local push_cast] List.take_succ_cons List.take_zero List.drop_succ_cons List.drop_zero true_and and_true Option.isSome_some List.getElem?_cons_zero List.getElem?_cons_succ List.length_cons List.length_nil cond_true cond_false Int.toNat_natCast Nat.mul_one Nat.add_zero Nat.zero_add Addr.add_lit bne_self_eq_false beq_self_eq_true Bool.not_true Bool.not_false List.size_toArray Array.getD_eq_getD_getElem? List.getElem?_toArray Option.getD_some decide_true decide_false eq_self Bool.true_beq Bool.false_beq
set_option maxHeartbeats 2000000 in
theorem zCf (w:World) (g c:Nat) (t:List Ent) (ad:Option Addr) (cd:Nat) (hl:t.length≤1048576) (h1:RepH w (fun _=>False) w.heap.size (fun _=>undef) (.slice (some ⟨g,0,none⟩) t.length c) (.lst false (aG t)))
  (h2:RepH w (fun _=>False) w.heap.size (fun _=>undef) (.slice ad t.length cd) (.lst false (aG t))) (hc:t.length + 1≤c) (hcell:w.cell? ⟨g,t.length * 3,none⟩=some (.string spare.1)) :
  Calls Tryz.prog 15 #[.slice (some ⟨g,0,none⟩) t.length c,.slice ad t.length cd] w (Ret fun r w'=>r=.bool true∧Below w.heap.size w w'):=by
 refine qGp (args:=[_,_]) Tryz.func15 rfl Tryz.ntmps15 Tryz.results15 (by simp) ?_
 have c22:=qEz t t (by omega)
 rw [decide_eq_true rfl] at c22;refine bM ?_;refine cN (fun K hK=>?_);simp only [push_cast,Nat.reduceBEq,Nat.reduceAdd,Nat.reduceLT,Nat.reduceEqDiff,reduceIte,reduceCtorEq,Nat.reduceLeDiff,Nat.reduceSub];refine hK _ _ ?_;clear hK K
 refine bM ?_;refine cN (fun K hK=>?_);simp only [push_cast,Nat.reduceBEq,Nat.reduceAdd,Nat.reduceLT,Nat.reduceEqDiff,reduceIte,reduceCtorEq,Nat.reduceLeDiff,Nat.reduceSub]
 refine ⟨zJi,Ret.mono (c22 w [_,_] ⟨rfl,fun i h1' h2'=>?_⟩) ?_⟩
 ·match i,h1' with
 |0,_=>exact h1
 |1,_=>exact h2
 rintro u w1 ⟨B,h,st,h8,rfl,ρ',xs',G',hr⟩
 have hu:=bL hr
 subst hu
 have hcell1:=oJ B hcell
 have hw:IntKind.i64.wrap ((t.length:Int) + 1)=(t.length:Int) + 1:=qDo (by omega) (by omega)
 have hx:((t.length:Int) + 1).toNat=t.length + 1:=by omega
 have hsub:iT (some ⟨g,0,none⟩) c (Int.toNat 0) 3=some ⟨g,0,none⟩:=by
  rw [iT,if_neg (show ¬ c=Int.toNat 0 by show ¬ c=0;omega)]
  rfl
 have e1:t.length + 1 - Int.toNat 0=t.length + 1:=rfl
 have e2:c - Int.toNat 0=c:=rfl
 have e3:decide (spare.1=({ data:=#[115,112,97,114,101] }:ByteArray))=true:=by decide +kernel
 refine v2s ?_;try simp only [push_cast,Nat.reduceBEq,Nat.reduceAdd,Nat.reduceLT,Nat.reduceEqDiff,reduceIte,reduceCtorEq,Nat.reduceLeDiff,Nat.reduceSub,qK3,hw,hx,hc,kt9,zCl,hsub,e1,e2,hcell1,e3];refine ⟨by omega,by omega,?_⟩
 refine hK _ _ ?_;clear hK K;refine zV ?_;refine qB5 ?_;simp only [qRj,mY,tup,lk,Nat.reduceEqDiff,reduceIte,reduceCtorEq];exact ⟨by trivial,B⟩
theorem zJt {w:World} {A:Nat→Prop} {n0:Nat} {ρ:Nat→Value} {v:Value} {id g n cap m sz:Nat} (h:RepH w A n0 ρ v (.vw id sz 0 m)) (hg:ρ id=.slice (some ⟨g,0,none⟩) n cap) (hm:m + 1≤cap):∃ c1,v=.slice (some ⟨g,0,none⟩) m c1∧m + 1≤c1:=by
 cases h with
|vw _ _ _ hρ h1 hc hn hx ha =>
  rw [hg] at hρ;simp only [Value.slice.injEq] at hρ;obtain ⟨rfl,rfl,rfl⟩:=hρ;obtain ⟨g',eg,rfl⟩:=ha (by omega)
  simp only [Option.some.injEq,Addr.mk.injEq] at eg;obtain ⟨rfl,-,-⟩:=eg;exact ⟨cap,by rw [Nat.zero_mul,hc,Nat.sub_zero],hm⟩
theorem zHu {w:World} {A:Nat→Prop} {n0:Nat} {ρ:Nat→Value} {v:Value} {fr:Bool} {t:List Ent} (h:RepH w A n0 ρ v (.lst fr (aG t))):∃ ad cd,v=.slice ad t.length cd:=by
 generalize hx:aG t=xs at h
 cases h with
|lst hF =>
  cases hF with
 |lst sz vals hn =>
   subst hx;rw [yV] at hn;subst hn;exact ⟨_,_,rfl⟩
section
variable {S:HS} {id:Nat} {t:List Ent} {h2:HV}
theorem zL5 (hl:t.length≤1048576) (hr:rlk S.st id=some (dT (t ++ [spare]))) (L2:Lend S.st h2 (.lst false (aG t)))
  {c:Ctx} {look:Nat→Option Value} {w:World} {ρ:Nat→Value} {xs:Nat→List Value} {vs:List Value} (G:Eng.Good c S look w ρ xs) (R:vJ w (c.A ρ S.st) c.n0 ρ vs [.vw id 3 0 t.length,h2]) :
  Calls Tryz.prog 15 vs.toArray w (Ret fun v w'=>v=.bool true∧Below w.heap.size w w'):=by
 obtain ⟨R1,R2⟩:=R
 match vs,R1 with
|[v0,v1],_ =>
 have r0:=R2 0 (by simp) (by simp)
 have r1:=R2 1 (by simp) (by simp)
 simp only [List.getElem_cons_zero,List.getElem_cons_succ] at r0 r1
 have l0:=qM3 G r0 (qJo (ys:=aG t) (by rw [List.drop_zero,qP,List.take_left' rfl,yT]) hr)
 have l1:=qM3 G r1 L2
 obtain ⟨o1,o2,o3⟩:=dK G hr;rw [yV,List.length_append] at o1;obtain ⟨g,cap,hg,hcap,-,hcell⟩:=fZ o1 (by simp)
 have hsp:w.cell? ⟨g,t.length * 3,none⟩=some (.string spare.1):=by
  obtain ⟨u,u1,-,u3⟩:=o3 t.length 0 (by rw [yV];simp) (by rw [o2 _ (List.getElem_mem _)];omega)
  have e:(aG (t ++ [spare]))[t.length]'(by rw [yV];simp)=qQm spare:=by simp [aG]
  have e2:((aG (t ++ [spare]))[t.length]'(by rw [yV];simp))[0]'(by rw [e];simp [qQm])=.v (.string spare.1):=by simp only [e];rfl
  rw [e2] at u3
  cases u3
  exact hcell _ _ u1
 have hcap':t.length + 1≤cap:=by simpa using hcap
 obtain ⟨c1,rfl,hc1⟩:∃ c1,v0=.slice (some ⟨g,0,none⟩) t.length c1∧t.length + 1≤c1:=zJt r0 hg hcap';obtain ⟨ad,cd,rfl⟩:∃ ad cd,v1=.slice ad t.length cd:=zHu l1;exact zCf w g c1 t ad cd hl l0 l1 hc1 hsp
theorem zFc (hl:t.length≤1048576) {K:HV→HS→Prop} (hr:rlk S.st id=some (dT (t ++ [spare]))) (L2:Lend S.st h2 (.lst false (aG t))) (hK:K (.v (.bool true)) S):HAt Tryz.prog 15 [.vw id 3 0 t.length,h2] S K :=
 ⟨zXs,fun c look w ρ xs vs G R=>Ret.mono (zL5 hl hr L2 G R) fun v w' ⟨e,B⟩=>⟨_,_,hK,ρ,xs,G.below B,by subst e;exact .v _⟩⟩
end
end Go.Proofs.YtbdomkfdkfdfgaaGreatDoor
end
section
namespace Go.Eng
open Go Go.RowKit
def Rd (w:World) (v:Value) (xs:List Value):Prop:=∀ b,v.ownBlock=some b→∀ (p:Nat) (u:Value),xs[p]?=some u→w.cell? ⟨b,p,none⟩=some u
theorem Own.rd {w:World} {v:Value} {xs:List Value} {base te sz n:Nat} (h:Own w base te sz v n xs):Rd w v xs:=by
 intro b hb p u hu
 have hl:=h.1
 have hh:=h
 rcases h.2 with ⟨rfl,_⟩|⟨g,cap,cur,rfl,_⟩
 ·cases hb
 ·cases hb
  rw [World.ownsRow.cellAt hh p (by have:=(List.getElem?_eq_some_iff.1 hu).1;omega),hu]
end Go.Eng
end
section
namespace Go.Eng
open Go Go.RowKit
section
variable {w w' w0:World} {v x x':Value} {xs ys:List Value} {base te sz n k:Nat}
theorem Rd.pre (h:Rd w v (xs ++ ys)):Rd w v xs:=fun b hb p u hu=>h b hb p u (by rw [List.getElem?_append_left (List.getElem?_eq_some_iff.1 hu).1];exact hu)
theorem Rd.block (h:Rd w v xs) (hb:∀ b,v.ownBlock=some b→w'.heap[b]?=w.heap[b]?):Rd w' v xs:=fun b hv p u hu=>by
 rw [iE (hb b hv)];exact h b hv p u hu
def Tag (w:World) (ow:Nat→Nat) (v:Value) (t:Nat):Prop:=∀ b,v.ownBlock=some b→ow b=t∧b < w.heap.size
theorem qQ2 {P:Program} {t ty e sz by':Nat} {z:Array Value} {v:Value} {n:Nat} {l:List Value} (hse:jU P t=some (e,sz,by',z)) (hz:z.size=sz) (hsz:0 < sz) (hby0:0 < by') (h:Own w 0 e sz v n l)
  {x:Value} {m:Nat} {news:List Value} (hx:tN w x m news) (hl:news.length=m * sz) (h1:∀ u ∈ news,u.oneCell'=true) (hby:(n + m) * by'≤140737488355328) :
  ∃ v' w',(Builtin.append_ #[t,t] ty #[v,x]).run P w=.ok v' w'∧Own w' 0 e sz v' (n + m) (l ++ news)∧w.grownBy w' v.ownBlock∧(∀ b,v'.ownBlock=some b→w.heap.size≤b∨v.ownBlock=some b)∧(v'.ownBlock=v.ownBlock∨Below w.heap.size w w'):=by
 obtain ⟨v',w',r1,r2,r3,r4,r5⟩:=kM (P:=P) (ty:=ty) hse hz hsz hby0 h hx hl h1 hby;refine ⟨v',w',r1,r2,r3,r5,?_⟩
 have h63:n + m≤maxLen:=by
  have:n + m≤(n + m) * by':=Nat.le_mul_of_pos_right _ hby0
  simp only [maxLen];omega
 obtain ⟨hu,i,u,hi,h2,h3,h4,h5⟩:=jL hse
 rcases hx with ⟨a,cp,rfl,hnews⟩|⟨rfl,rfl,rfl⟩
 ·subst h2;subst h3
  rcases h.2 with ⟨rfl,rfl⟩|⟨g,cap,cur,rfl,hbg,hg,hnc,hcm,hcs,htake⟩
  ·right
   exact ⟨r3.os,r3.tape,r3.output,r3.size,fun b hb=>r3.block b hb (by simp [Value.ownBlock])⟩
  ·by_cases hroom:n + m≤cap
   ·have hfit:n * i.size + news.length≤cur.size:=by rw [hl,hcs,← Nat.add_mul];exact Nat.mul_le_mul_right _ hroom
    have hr:=run_append_room (P:=P) w t ty e i hu hi g n cap cur hg a m cp news hl hnews h1 hroom hfit
    rw [hr] at r1;simp only [Result.ok.injEq] at r1;rw [← r1.1];exact .inl rfl
   ·have holds:∀ j y,l[j]?=some y→w.cell? ((⟨g,0,none⟩:Addr).add j)=some y:=h.cells (g:=g) rfl
    have hr:=run_append_grow (P:=P) w t ty e i u hu hi h4 ⟨g,0,none⟩ n cap l h.1 holds a m cp news hl hnews (by omega) (by simp only [maxLen] at h63;omega) (growslice_fits (by omega) hby)
    rw [hr] at r1;simp only [Result.ok.injEq] at r1
    right
    rw [← r1.2]
    have:Below w.heap.size w w.drew:=⟨rfl,rfl,rfl,Nat.le_refl _,fun _ _=>rfl⟩
    exact this.alloc (Nat.le_refl _) _
 ·have hr:=run_append_owned_none (P:=P) (w:=w) 0 t ty e i sz hu hi v n l h
  rw [hr] at r1;simp only [Result.ok.injEq] at r1;exact .inl (by rw [← r1.1])
structure Marked (w0 w:World) (T:Nat→Prop) (te sz n:Nat) (V:Nat→Value) (m:Nat→Nat) (Y:Nat→List Value):Prop where
 kept:Kept T w0 w
 own:∀ j,j < n→Own w 0 te sz (V j) (m j) (Y j)
def qRb {α:Type} (f:Nat→α) (i:Nat) (x:α):Nat→α:=fun j=>if j=i then x else f j
theorem vK {α:Type} (f:Nat→α) (i:Nat) (x:α):qRb f i x i=x:=by simp [qRb]
theorem qEn {α:Type} (f:Nat→α) (i:Nat) (x:α) (j:Nat) (h:j≠i):qRb f i x j=f j:=by simp [qRb,h]
variable {T:Nat→Prop} {tO i i' L:Nat} {V U:Nat→Value} {m:Nat→Nat} {was news Y:Nat→List Value} {ow:Nat→Nat} {lv lv':Value}
theorem Marked.turn (h:Marked w0 w T te sz n V m Y) (hd:∀ i j b,i < n→j < n→(V i).ownBlock=some b→(V j).ownBlock=some b→i=j) (hT:∀ j b,j < n→(V j).ownBlock=some b→T b)
  (hi:i < n) {g:Nat} (hg:(V i).ownBlock=some g) (hO:Only g w w') (ho:Own w' 0 te sz (V i) (m i) ys):Marked w0 w' T te sz n V m (qRb Y i ys):=by
 refine ⟨h.kept.trans (T':=fun b=>b=g) ⟨hO.os,hO.tape,hO.output,Nat.le_of_eq hO.size.symm,fun b _ hb=>hO.block b hb⟩ (fun b _ e=>by subst e;exact hT i b hi hg),fun j hj=>?_⟩
 by_cases e:j=i
 ·subst e;rw [vK];exact ho
 ·rw [qEn _ _ _ _ e];exact (h.own j hj).only hO fun hb=>e (hd j i g hj hi hb hg)
theorem Marked.up (h:Marked w0 w T te sz n V m Y) (hb:Below w.heap.size w w'):Marked w0 w' T te sz n V m Y :=
 ⟨h.kept.trans (T':=fun _=>False) ⟨hb.os,hb.tape,hb.output,hb.size,fun b hlt _=>hb.block b hlt⟩ (fun _ _ h=>h.elim),fun j hj=>(h.own j hj).up hb⟩
structure Grown (w0 w:World) (T:Nat→Prop) (te sz tO n i i' L:Nat) (V:Nat→Value) (m:Nat→Nat) (was news:Nat→List Value) (ow:Nat→Nat) (U:Nat→Value) (lv:Value):Prop where
 kept:Kept T w0 w
 rd:∀ j,j < n→Rd w (V j) (was j)
 own:∀ j,i'≤j→j < n→Own w 0 te sz (V j) (m j) (was j)
 grown:∀ j,j < i→Own w 0 te sz (U j) (m j + 20) (was j ++ news j)
 long:Own w 0 tO 1 lv i ((List.range i).map U)
 newL:∀ b,lv.ownBlock=some b→w0.heap.size≤b
 tagV:∀ j,j < n→Tag w ow (V j) j
 tagU:∀ j,j < i→Tag w ow (U j) j
 tagL:Tag w ow lv n
 outer:∀ j,j < n→ow L=n + 1∧L < w.heap.size∧w.cell? ⟨L,j,none⟩=some (V j)
theorem Tag.up (h:Tag w ow v k) (hs:w.heap.size≤w'.heap.size):Tag w' ow v k:=fun b hb=>⟨(h b hb).1,by have:=(h b hb).2;omega⟩
theorem Grown.up (h:Grown w0 w T te sz tO n i i' L V m was news ow U lv) (hb:Below w.heap.size w w'):Grown w0 w' T te sz tO n i i' L V m was news ow U lv :=
 ⟨h.kept.trans (T':=fun _=>False) ⟨hb.os,hb.tape,hb.output,hb.size,fun b hlt _=>hb.block b hlt⟩ (fun _ _ h=>h.elim),fun j hj=>(h.rd j hj).block fun b hv=>hb.block b ((h.tagV j hj b hv).2),
  fun j h1 h2=>(h.own j h1 h2).up hb,fun j hj=>(h.grown j hj).up hb,h.long.up hb,h.newL,fun j hj=>(h.tagV j hj).up hb.size,fun j hj=>(h.tagU j hj).up hb.size,h.tagL.up hb.size,
  fun j hj=>⟨(h.outer j hj).1,by have:=(h.outer j hj).2.1;have:=hb.size;omega,oJ hb (h.outer j hj).2.2⟩⟩
def owN (w:World) (ow:Nat→Nat) (t:Nat):Nat→Nat:=fun b=>if w.heap.size≤b then t else ow b
theorem qKt {t b:Nat} (h:b < w.heap.size):owN w ow t b=ow b:=by simp [owN];omega
theorem Tag.old (h:Tag w ow v k) (t:Nat) (hs:w.heap.size≤w'.heap.size):Tag w' (owN w ow t) v k:=fun b hb=>by
 obtain ⟨h1,h2⟩:=h b hb;exact ⟨by rw [qKt h2];exact h1,by omega⟩
theorem Own.other (h:Own w base te sz v n xs) {j t:Nat} (hv:Tag w ow v j) (hx:Tag w ow x t) (hne:j≠t) (r3:w.grownBy w' x.ownBlock):Own w' base te sz v n xs :=
 h.block fun b hb=>r3.block b (hv b hb).2 fun e=>hne (by rw [← (hv b hb).1,(hx b e.symm).1])
theorem Rd.other (h:Rd w v xs) {j t:Nat} (hv:Tag w ow v j) (hx:Tag w ow x t) (hne:j≠t) (r3:w.grownBy w' x.ownBlock):Rd w' v xs :=
 h.block fun b hb=>r3.block b (hv b hb).2 fun e=>hne (by rw [← (hv b hb).1,(hx b e.symm).1])
theorem zC7 {t:Nat} (hx:Tag w ow x t) (r2:Own w' base te sz x' n xs) (r5:∀ b,x'.ownBlock=some b→w.heap.size≤b∨x.ownBlock=some b):Tag w' (owN w ow t) x' t:=fun b hb=>by
 refine ⟨?_,(r2.lt b hb).2⟩
 rcases r5 b hb with h|h
 ·simp [owN,h]
 ·rw [qKt (hx b h).2];exact (hx b h).1
theorem qM7 (h:Kept T w0 w) (r3:w.grownBy w' x.ownBlock) (hT:∀ b,x.ownBlock=some b→w0.heap.size≤b∨T b):Kept T w0 w' :=
 h.trans (T':=fun b=>x.ownBlock=some b) ⟨r3.os,r3.tape,r3.output,r3.size,fun b hlt hn=>r3.block b hlt fun e=>hn e.symm⟩ fun b hlt e=>(hT b e).resolve_left (by omega)
theorem Grown.app (h:Grown w0 w T te sz tO n i (i + 1) L V m was news ow U lv) (hi:i < n) (hx:Tag w ow x i) {zs:List Value} (r2:Own w' 0 te sz x' k (was i ++ zs)) (r3:w.grownBy w' x.ownBlock)
  (r5:∀ b,x'.ownBlock=some b→w.heap.size≤b∨x.ownBlock=some b) (r6:x'.ownBlock=x.ownBlock∨Below w.heap.size w w') (hT:∀ b,x.ownBlock=some b→w0.heap.size≤b∨T b) :
  Grown w0 w' T te sz tO n i (i + 1) L V m was news (owN w ow i) U lv∧Tag w' (owN w ow i) x' i∧(∀ b,x'.ownBlock=some b→w0.heap.size≤b∨T b):=by
 have hs:=h.kept.size
 refine ⟨⟨qM7 h.kept r3 hT,fun j hj=>?_,fun j h1 h2=>(h.own j h1 h2).other (h.tagV j h2) hx (by omega) r3,fun j hj=>(h.grown j hj).other (h.tagU j hj) hx (by omega) r3,h.long.other h.tagL hx (by omega) r3,h.newL,
  fun j hj=>(h.tagV j hj).old i r3.size,fun j hj=>(h.tagU j hj).old i r3.size,h.tagL.old i r3.size,fun j hj=>?_⟩,zC7 hx r2 r5,fun b hb=>?_⟩
 ·by_cases e:j=i
  ·subst e
   rcases r6 with r6|r6
   ·intro b hb p u hu
    by_cases e:x.ownBlock=some b
    ·exact r2.rd.pre b (by rw [r6,e]) p u hu
    ·rw [iE (r3.block b (h.tagV j hj b hb).2 (fun e2=>e e2.symm))]
     exact h.rd j hj b hb p u hu
   ·exact (h.rd j hj).block fun b hv=>r6.block b ((h.tagV j hj b hv).2)
  ·exact (h.rd j hj).other (h.tagV j hj) hx e r3
 ·obtain ⟨h1,h2,h3⟩:=h.outer j hj;refine ⟨by rw [qKt h2];exact h1,by have:=r3.size;omega,?_⟩
  rw [iE (r3.block L h2 fun e=>?_)]
  ·exact h3
  ·have:=(hx L e.symm).1;omega
 ·rcases r5 b hb with h'|h'
  ·left;omega
  ·exact hT b h'
theorem Grown.next (h:Grown w0 w T te sz tO n i (i + 1) L V m was news ow U lv) (hi:i < n) (hx:Tag w ow x i) (ho:Own w 0 te sz x (m i + 20) (was i ++ news i)) (r2:Own w' 0 tO 1 lv' (i + 1) ((List.range i).map U ++ [x])) (r3:w.grownBy w' lv.ownBlock)
  (r5:∀ b,lv'.ownBlock=some b→w.heap.size≤b∨lv.ownBlock=some b) :
  Grown w0 w' T te sz tO n (i + 1) (i + 1) L V m was news (owN w ow n) (qRb U i x) lv':=by
 have hs:=h.kept.size
 have hl:=h.tagL
 refine ⟨qM7 h.kept r3 (fun b hb=>.inl (h.newL b hb)),fun j hj=>(h.rd j hj).other (h.tagV j hj) hl (by omega) r3,fun j h1 h2=>(h.own j h1 h2).other (h.tagV j h2) hl (by omega) r3,fun j hj=>?_,?_,fun b hb=>?_,
  fun j hj=>(h.tagV j hj).old n r3.size,fun j hj=>?_,zC7 hl r2 r5,fun j hj=>?_⟩
 ·by_cases e:j=i
  ·subst e;rw [vK];exact ho.other hx hl (by omega) r3
  ·rw [qEn _ _ _ _ e];exact (h.grown j (by omega)).other (h.tagU j (by omega)) hl (by omega) r3
 ·have:(List.range (i + 1)).map (qRb U i x)=(List.range i).map U ++ [x]:=by
   rw [List.range_succ,List.map_append,List.map_singleton,vK]
   congr 1
   apply List.map_congr_left
   intro j hj;rw [qEn _ _ _ _ (by have:=List.mem_range.1 hj;omega)]
  rw [this];exact r2
 ·rcases r5 b hb with h'|h'
  ·omega
  ·exact h.newL b h'
 ·by_cases e:j=i
  ·subst e;rw [vK];exact hx.old n r3.size
  ·rw [qEn _ _ _ _ e];exact (h.tagU j (by omega)).old n r3.size
 ·obtain ⟨h1,h2,h3⟩:=h.outer j hj;refine ⟨by rw [qKt h2];exact h1,by have:=r3.size;omega,?_⟩
  rw [iE (r3.block L h2 fun e=>?_)]
  ·exact h3
  ·have:=(hl L e.symm).1;omega
theorem Marked.grown (h:Marked w0 w T te sz n V m was) (ht:∀ j,j < n→Tag w0 ow (V j) j) (hL:∀ j,j < n→ow L=n + 1∧L < w0.heap.size∧¬ T L∧w0.cell? ⟨L,j,none⟩=some (V j)) (news:Nat→List Value) (U:Nat→Value) (tO:Nat) :
  Grown w0 w T te sz tO n 0 0 L V m was news ow U (.slice none 0 0) :=
 ⟨h.kept,fun j hj=>(h.own j hj).rd,fun j _ hj=>h.own j hj,fun j hj=>absurd hj (Nat.not_lt_zero _),World.ownsRow_nil w 0 tO 1,fun b hb=>(by cases hb),fun j hj=>(ht j hj).up h.kept.size,fun j hj=>absurd hj (Nat.not_lt_zero _),fun b hb=>(by cases hb),
  fun j hj=>by
   obtain ⟨a,b,d,e⟩:=hL j hj;exact ⟨a,by have:=h.kept.size;omega,by rw [iE (h.kept.block L b d)];exact e⟩⟩
end
end Go.Eng
end
