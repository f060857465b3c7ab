/-
  The document's Size: walked (also in XTsC).
-/
import Derived.Test.YtlihpgmgiehjkaaGreatDoorRdd
import Derived.Test.YtlihpgmgiehjkaaGreatDoorUpe
import Derived.Test.YtlihpgmgiehjkaaGreatDoorMr
import Derived.Test.YtlihpgmgiehjkaaGreatDoorSwN
set_option linter.unusedSimpArgs false
set_option linter.unusedVariables false
section
namespace Go.Eng
open Go Go.RowKit
section
variable {w w' w0:World} {v x x':Value} {xs ys:List Value} {base te sz n k:Nat}
theorem Rd.pre (h:Rd w v (xs ++ ys)):Rd w v xs:=fun b hb p u hu=>h b hb p u (by rw [List.getElem?_append_left (List.getElem?_eq_some_iff.1 hu).1];exact hu)
theorem Rd.block (h:Rd w v xs) (hb:∀ b,v.ownBlock=some b→w'.heap[b]?=w.heap[b]?):Rd w' v xs:=fun b hv p u hu=>by
 rw [fP (hb b hv)];exact h b hv p u hu
def Tag (w:World) (ow:Nat→Nat) (v:Value) (t:Nat):Prop:=∀ b,v.ownBlock=some b→ow b=t∧b < w.heap.size
structure Marked (w0 w:World) (T:Nat→Prop) (te sz n:Nat) (V:Nat→Value) (m:Nat→Nat) (Y:Nat→List Value):Prop where
 kept:Kept T w0 w
 own:∀ j,j < n→Own w 0 te sz (V j) (m j) (Y j)
def qYd {α:Type} (f:Nat→α) (i:Nat) (x:α):Nat→α:=fun j=>if j=i then x else f j
theorem xY {α:Type} (f:Nat→α) (i:Nat) (x:α):qYd f i x i=x:=by simp [qYd]
theorem qG3 {α:Type} (f:Nat→α) (i:Nat) (x:α) (j:Nat) (h:j≠i):qYd f i x j=f j:=by simp [qYd,h]
variable {T:Nat→Prop} {tO i i' L:Nat} {V U:Nat→Value} {m:Nat→Nat} {was news Y:Nat→List Value} {ow:Nat→Nat} {lv lv':Value}
theorem Marked.turn (h:Marked w0 w T te sz n V m Y) (hd:∀ i j b,i < n→j < n→(V i).ownBlock=some b→(V j).ownBlock=some b→i=j) (hT:∀ j b,j < n→(V j).ownBlock=some b→T b)
  (hi:i < n) {g:Nat} (hg:(V i).ownBlock=some g) (hO:Only g w w') (ho:Own w' 0 te sz (V i) (m i) ys):Marked w0 w' T te sz n V m (qYd Y i ys):=by
 refine ⟨h.kept.trans (T':=fun b=>b=g) ⟨hO.os,hO.tape,hO.output,Nat.le_of_eq hO.size.symm,fun b _ hb=>hO.block b hb⟩ (fun b _ e=>by subst e;exact hT i b hi hg),fun j hj=>?_⟩
 by_cases e:j=i
 ·subst e;rw [xY];exact ho
 ·rw [qG3 _ _ _ _ e];exact (h.own j hj).only hO fun hb=>e (hd j i g hj hi hb hg)
theorem Marked.up (h:Marked w0 w T te sz n V m Y) (hb:Below w.heap.size w w'):Marked w0 w' T te sz n V m Y :=
 ⟨h.kept.trans (T':=fun _=>False) ⟨hb.os,hb.tape,hb.output,hb.size,fun b hlt _=>hb.block b hlt⟩ (fun _ _ h=>h.elim),fun j hj=>(h.own j hj).up hb⟩
structure Grown (w0 w:World) (T:Nat→Prop) (te sz tO n i i' L:Nat) (V:Nat→Value) (m:Nat→Nat) (was news:Nat→List Value) (ow:Nat→Nat) (U:Nat→Value) (lv:Value):Prop where
 kept:Kept T w0 w
 rd:∀ j,j < n→Rd w (V j) (was j)
 own:∀ j,i'≤j→j < n→Own w 0 te sz (V j) (m j) (was j)
 grown:∀ j,j < i→Own w 0 te sz (U j) (m j + 20) (was j ++ news j)
 long:Own w 0 tO 1 lv i ((List.range i).map U)
 newL:∀ b,lv.ownBlock=some b→w0.heap.size≤b
 tagV:∀ j,j < n→Tag w ow (V j) j
 tagU:∀ j,j < i→Tag w ow (U j) j
 tagL:Tag w ow lv n
 outer:∀ j,j < n→ow L=n + 1∧L < w.heap.size∧w.cell? ⟨L,j,none⟩=some (V j)
theorem Tag.up (h:Tag w ow v k) (hs:w.heap.size≤w'.heap.size):Tag w' ow v k:=fun b hb=>⟨(h b hb).1,by have:=(h b hb).2;omega⟩
theorem Grown.up (h:Grown w0 w T te sz tO n i i' L V m was news ow U lv) (hb:Below w.heap.size w w'):Grown w0 w' T te sz tO n i i' L V m was news ow U lv :=
 ⟨h.kept.trans (T':=fun _=>False) ⟨hb.os,hb.tape,hb.output,hb.size,fun b hlt _=>hb.block b hlt⟩ (fun _ _ h=>h.elim),fun j hj=>(h.rd j hj).block fun b hv=>hb.block b ((h.tagV j hj b hv).2),
  fun j h1 h2=>(h.own j h1 h2).up hb,fun j hj=>(h.grown j hj).up hb,h.long.up hb,h.newL,fun j hj=>(h.tagV j hj).up hb.size,fun j hj=>(h.tagU j hj).up hb.size,h.tagL.up hb.size,
  fun j hj=>⟨(h.outer j hj).1,by have:=(h.outer j hj).2.1;have:=hb.size;omega,lE hb (h.outer j hj).2.2⟩⟩
def owN (w:World) (ow:Nat→Nat) (t:Nat):Nat→Nat:=fun b=>if w.heap.size≤b then t else ow b
theorem qTc {t b:Nat} (h:b < w.heap.size):owN w ow t b=ow b:=by simp [owN];omega
theorem Tag.old (h:Tag w ow v k) (t:Nat) (hs:w.heap.size≤w'.heap.size):Tag w' (owN w ow t) v k:=fun b hb=>by
 obtain ⟨h1,h2⟩:=h b hb;exact ⟨by rw [qTc h2];exact h1,by omega⟩
theorem Own.other (h:Own w base te sz v n xs) {j t:Nat} (hv:Tag w ow v j) (hx:Tag w ow x t) (hne:j≠t) (r3:w.grownBy w' x.ownBlock):Own w' base te sz v n xs :=
 h.block fun b hb=>r3.block b (hv b hb).2 fun e=>hne (by rw [← (hv b hb).1,(hx b e.symm).1])
theorem Rd.other (h:Rd w v xs) {j t:Nat} (hv:Tag w ow v j) (hx:Tag w ow x t) (hne:j≠t) (r3:w.grownBy w' x.ownBlock):Rd w' v xs :=
 h.block fun b hb=>r3.block b (hv b hb).2 fun e=>hne (by rw [← (hv b hb).1,(hx b e.symm).1])
theorem zL3 {t:Nat} (hx:Tag w ow x t) (r2:Own w' base te sz x' n xs) (r5:∀ b,x'.ownBlock=some b→w.heap.size≤b∨x.ownBlock=some b):Tag w' (owN w ow t) x' t:=fun b hb=>by
 refine ⟨?_,(r2.lt b hb).2⟩
 rcases r5 b hb with h|h
 ·simp [owN,h]
 ·rw [qTc (hx b h).2];exact (hx b h).1
theorem qZf (h:Kept T w0 w) (r3:w.grownBy w' x.ownBlock) (hT:∀ b,x.ownBlock=some b→w0.heap.size≤b∨T b):Kept T w0 w' :=
 h.trans (T':=fun b=>x.ownBlock=some b) ⟨r3.os,r3.tape,r3.output,r3.size,fun b hlt hn=>r3.block b hlt fun e=>hn e.symm⟩ fun b hlt e=>(hT b e).resolve_left (by omega)
theorem Grown.next (h:Grown w0 w T te sz tO n i (i + 1) L V m was news ow U lv) (hi:i < n) (hx:Tag w ow x i) (ho:Own w 0 te sz x (m i + 20) (was i ++ news i)) (r2:Own w' 0 tO 1 lv' (i + 1) ((List.range i).map U ++ [x])) (r3:w.grownBy w' lv.ownBlock)
  (r5:∀ b,lv'.ownBlock=some b→w.heap.size≤b∨lv.ownBlock=some b) :
  Grown w0 w' T te sz tO n (i + 1) (i + 1) L V m was news (owN w ow n) (qYd U i x) lv':=by
 have hs:=h.kept.size
 have hl:=h.tagL
 refine ⟨qZf h.kept r3 (fun b hb=>.inl (h.newL b hb)),fun j hj=>(h.rd j hj).other (h.tagV j hj) hl (by omega) r3,fun j h1 h2=>(h.own j h1 h2).other (h.tagV j h2) hl (by omega) r3,fun j hj=>?_,?_,fun b hb=>?_,
  fun j hj=>(h.tagV j hj).old n r3.size,fun j hj=>?_,zL3 hl r2 r5,fun j hj=>?_⟩
 ·by_cases e:j=i
  ·subst e;rw [xY];exact ho.other hx hl (by omega) r3
  ·rw [qG3 _ _ _ _ e];exact (h.grown j (by omega)).other (h.tagU j (by omega)) hl (by omega) r3
 ·have:(List.range (i + 1)).map (qYd U i x)=(List.range i).map U ++ [x]:=by
   rw [List.range_succ,List.map_append,List.map_singleton,xY]
   congr 1
   apply List.map_congr_left
   intro j hj;rw [qG3 _ _ _ _ (by have:=List.mem_range.1 hj;omega)]
  rw [this];exact r2
 ·rcases r5 b hb with h'|h'
  ·omega
  ·exact h.newL b h'
 ·by_cases e:j=i
  ·subst e;rw [xY];exact hx.old n r3.size
  ·rw [qG3 _ _ _ _ e];exact (h.tagU j (by omega)).old n r3.size
 ·obtain ⟨h1,h2,h3⟩:=h.outer j hj;refine ⟨by rw [qTc h2];exact h1,by have:=r3.size;omega,?_⟩
  rw [fP (r3.block L h2 fun e=>?_)]
  ·exact h3
  ·have:=(hl L e.symm).1;omega
theorem Marked.grown (h:Marked w0 w T te sz n V m was) (ht:∀ j,j < n→Tag w0 ow (V j) j) (hL:∀ j,j < n→ow L=n + 1∧L < w0.heap.size∧¬ T L∧w0.cell? ⟨L,j,none⟩=some (V j)) (news:Nat→List Value) (U:Nat→Value) (tO:Nat) :
  Grown w0 w T te sz tO n 0 0 L V m was news ow U (.slice none 0 0) :=
 ⟨h.kept,fun j hj=>(h.own j hj).rd,fun j _ hj=>h.own j hj,fun j hj=>absurd hj (Nat.not_lt_zero _),World.ownsRow_nil w 0 tO 1,fun b hb=>(by cases hb),fun j hj=>(ht j hj).up h.kept.size,fun j hj=>absurd hj (Nat.not_lt_zero _),fun b hb=>(by cases hb),
  fun j hj=>by
   obtain ⟨a,b,d,e⟩:=hL j hj;exact ⟨a,by have:=h.kept.size;omega,by rw [fP (h.kept.block L b d)];exact e⟩⟩
end
end Go.Eng
end
section
set_option maxRecDepth 20000
namespace Go.Tr
open Go Go.Eng Go.RowKit
end Go.Tr
namespace Go.Proofs.YtlihpgmgiehjkaaGreatDoor
open Go Go.Eng Go.RowKit Go.Tr
attribute [local push_cast] qKo qCy qM7 xH tJ qDq qDp xG vF vG xP tS tX pT oY oK oR oP oN oX sP oJ iH oW oQ oS oT oU oV oM oL nP nN nH nJ nK nL nM lX lS lZ lY lW lV lU lT mA tR tQ nW nX nV jY jX jW fT fU lQ sF sE iC jV rU nY rV rT rS rW nZ qCm rY qCl qJt qUt qCo wC oA wD wB wA vY qJr oB qCp qCn vX wF qJs wE rX vZ qDt xL xN tL xM qNa qDu qM9 qDr xK qDs qM8 sA oC sD sC pP pN qJ8 qCr wG qCs wN sV sU qC3 sR sT wP qC4 pA sW wQ oZ sS qHj qBs qHi qBr vD
attribute [local push_cast] List.take_succ_cons List.take_zero List.drop_succ_cons List.drop_zero true_and and_true Option.isSome_some List.getElem?_cons_zero List.getElem?_cons_succ List.length_cons List.length_nil cond_true cond_false Int.toNat_natCast Nat.mul_one Nat.add_zero Nat.zero_add Addr.add_lit bne_self_eq_false beq_self_eq_true Bool.not_true Bool.not_false List.size_toArray Array.getD_eq_getD_getElem? List.getElem?_toArray Option.getD_some decide_true decide_false eq_self Bool.true_beq Bool.false_beq
end Go.Proofs.YtlihpgmgiehjkaaGreatDoor
end
section
set_option maxRecDepth 20000
namespace Go.Proofs.YtlihpgmgiehjkaaGreatDoor
open Go Go.Eng Go.RowKit Go.Tr
end Go.Proofs.YtlihpgmgiehjkaaGreatDoor
end
section
namespace Go.Eng
open Go Go.RowKit
end Go.Eng
end
section
set_option maxRecDepth 20000
namespace Go.Sw
open Go Go.Tr Go.Eng Go.Dk Go.Proofs.YtlihpgmgiehjkaaGreatDoor
structure SnSt (d:Dk) (R:LN) (S i:Nat) (l:List Sn):Prop where
 bd:Bd d S i i
 rel:Rel d R i
 sy:∃ D,Sy d D∧∀ s ∈ l,s.2.2.1=2→D s.2.1=s.2.2.2∧s.2.1≤d.stamps
 sn:∀ s ∈ l,zFc s
 len:l.length≤1000
theorem qPg {d:Dk} {D:Int→ByteArray} (hf:Fine d D) {v:ByteArray} (hv:v≠{ data:=#[] }) {s:Sn} (h:s ∈ jE d v):∃ q x,aH d.L q=some x∧s=(cC v q,x.stamp,gZ x):=by
 rw [jE,List.mem_map] at h;obtain ⟨e,he,rfl⟩:=h;rw [pX,List.mem_map] at he;obtain ⟨y,hy,rfl⟩:=he;obtain ⟨y1,y2⟩:=List.mem_filter.1 hy;obtain ⟨a1,a2⟩:=iM.1 y2
 have hx:=cN hf.ok.rise (show (y.1,y.2) ∈ d.L from y1)
 refine ⟨y.1,y.2,hx,?_⟩;unfold jF;dsimp only;rw [← qEn a1 a2 hv,bS,aT,hx];rfl
theorem zF3 {d:Dk} {D:Int→ByteArray} (hf:Fine d D) {v:ByteArray} (hv:v≠{ data:=#[] }):(∀ s ∈ jE d v,zFc s)∧(jE d v).length≤1000∧∀ s ∈ jE d v,s.2.2.1=2→D s.2.1=s.2.2.2∧s.2.1≤d.stamps:=by
 refine ⟨fun s hs=>?_,?_,fun s hs hk=>?_⟩
 ·obtain ⟨q,x,hx,rfl⟩:=qPg hf hv hs
  have h1:=hf.st _ (cB hx)
  refine ⟨Nat.le_trans (qU6 _ _) (hf.ok.keys _ (cB hx)),?_⟩;simp only [Lit.wf,Bool.and_eq_true,decide_eq_true_eq];rw [show IntKind.i64.min=-9223372036854775808 from rfl,show IntKind.i64.max=9223372036854775807 from rfl]
  dsimp only at h1 ⊢;omega
 ·rw [zDq];exact Nat.le_trans (zGh d v) hf.len
 ·obtain ⟨q,x,hx,rfl⟩:=qPg hf hv hs;refine ⟨?_,(hf.sy.st q x hx).2⟩
  have hd:x.dir=false:=by
   cases hd:x.dir with
  |false=>rfl
  |true=>simp only [gZ,hd,if_true] at hk;cases hk
  rw [hf.sy.kn q x hx hd];simp [gZ,hd]
end Go.Sw
namespace Go.Proofs.YtlihpgmgiehjkaaGreatDoor
open Go Go.Eng Go.RowKit Go.Maps Go.Tr Go.Dk Go.Sw
end Go.Proofs.YtlihpgmgiehjkaaGreatDoor
end
section
set_option maxRecDepth 20000
namespace Go.Proofs.YtlihpgmgiehjkaaGreatDoor
open Go Go.Eng Go.RowKit Go.Tr
attribute [local push_cast] qKo qCy qM7 xH tJ qDq qDp xG vF vG xP tS tX pT oY oK oR oP oN oX sP oJ iH oW oQ oS oT oU oV oM oL nP nN nH nJ nK nL nM lX lS lZ lY lW lV lU lT mA tR tQ nW nX nV jY jX jW fT fU lQ sF sE iC jV rU nY rV rT rS rW nZ qCm rY qCl qJt qUt qCo wC oA wD wB wA vY qJr oB qCp qCn vX wF qJs wE rX vZ qDt xL xN tL xM qNa qDu qM9 qDr xK qDs qM8 sA oC sD sC pP pN qJ8 qCr wG qCs wN sV sU qC3 sR sT wP qC4 pA sW wQ oZ sS qHj qBs qHi qBr vD
attribute [local push_cast] List.take_succ_cons List.take_zero List.drop_succ_cons List.drop_zero true_and and_true Option.isSome_some List.getElem?_cons_zero List.getElem?_cons_succ List.length_cons List.length_nil cond_true cond_false Int.toNat_natCast Nat.mul_one Nat.add_zero Nat.zero_add Addr.add_lit bne_self_eq_false beq_self_eq_true Bool.not_true Bool.not_false List.size_toArray Array.getD_eq_getD_getElem? List.getElem?_toArray Option.getD_some decide_true decide_false eq_self Bool.true_beq Bool.false_beq
set_option maxHeartbeats 2000000 in
theorem qZn (w:World) (g c:Nat) (t:List Ent) (ad:Option Addr) (cd:Nat) (hl:t.length≤1048576) (h1:RepH w (fun _=>False) w.heap.size (fun _=>undef) (.slice (some ⟨g,0,none⟩) t.length c) (.lst false (bR t)))
  (h2:RepH w (fun _=>False) w.heap.size (fun _=>undef) (.slice ad t.length cd) (.lst false (bR t))) (hc:t.length + 1≤c) (hcell:w.cell? ⟨g,t.length * 3,none⟩=some (.string spare.1)) :
  Calls Tryz.prog 21 #[.slice (some ⟨g,0,none⟩) t.length c,.slice ad t.length cd] w (Ret fun r w'=>r=.bool true∧Below w.heap.size w w'):=by
 refine qDy (args:=[_,_]) Tryz.func21 rfl Tryz.ntmps21 Tryz.results21 (by simp) ?_
 have c22:=qSy t t (by omega)
 rw [decide_eq_true rfl] at c22;refine eF ?_;refine fZ (fun K hK=>?_);simp only [push_cast,Nat.reduceBEq,Nat.reduceAdd,Nat.reduceLT,Nat.reduceEqDiff,reduceIte,reduceCtorEq,Nat.reduceLeDiff,Nat.reduceSub];refine hK _ _ ?_;clear hK K
 refine eF ?_;refine fZ (fun K hK=>?_);simp only [push_cast,Nat.reduceBEq,Nat.reduceAdd,Nat.reduceLT,Nat.reduceEqDiff,reduceIte,reduceCtorEq,Nat.reduceLeDiff,Nat.reduceSub]
 refine ⟨zNm,Ret.mono (c22 w [_,_] ⟨rfl,fun i h1' h2'=>?_⟩) ?_⟩
 ·match i,h1' with
 |0,_=>exact h1
 |1,_=>exact h2
 rintro u w1 ⟨B,h,st,h8,rfl,ρ',xs',G',hr⟩
 have hu:=bD hr
 subst hu
 have hcell1:=lE B hcell
 have hw:IntKind.i64.wrap ((t.length:Int) + 1)=(t.length:Int) + 1:=zL1 (by omega) (by omega)
 have hx:((t.length:Int) + 1).toNat=t.length + 1:=by omega
 have hsub:fG (some ⟨g,0,none⟩) c (Int.toNat 0) 3=some ⟨g,0,none⟩:=by
  rw [fG,if_neg (show ¬ c=Int.toNat 0 by show ¬ c=0;omega)]
  rfl
 have e1:t.length + 1 - Int.toNat 0=t.length + 1:=rfl
 have e2:c - Int.toNat 0=c:=rfl
 have e3:decide (spare.1=({ data:=#[115,112,97,114,101] }:ByteArray))=true:=by decide +kernel
 refine v2s ?_;try simp only [push_cast,Nat.reduceBEq,Nat.reduceAdd,Nat.reduceLT,Nat.reduceEqDiff,reduceIte,reduceCtorEq,Nat.reduceLeDiff,Nat.reduceSub,zP2,hw,hx,hc,kt9,qZu,hsub,e1,e2,hcell1,e3];refine ⟨by omega,by omega,?_⟩
 refine hK _ _ ?_;clear hK K;refine zV ?_;refine qA1 ?_;simp only [qTo,jT,tup,lk,Nat.reduceEqDiff,reduceIte,reduceCtorEq];exact ⟨by trivial,B⟩
theorem zFi {w:World} {A:Nat→Prop} {n0:Nat} {ρ:Nat→Value} {v:Value} {id g n cap m sz:Nat} (h:RepH w A n0 ρ v (.vw id sz 0 m)) (hg:ρ id=.slice (some ⟨g,0,none⟩) n cap) (hm:m + 1≤cap):∃ c1,v=.slice (some ⟨g,0,none⟩) m c1∧m + 1≤c1:=by
 cases h with
|vw _ _ _ hρ h1 hc hn hx ha =>
  rw [hg] at hρ;simp only [Value.slice.injEq] at hρ;obtain ⟨rfl,rfl,rfl⟩:=hρ;obtain ⟨g',eg,rfl⟩:=ha (by omega)
  simp only [Option.some.injEq,Addr.mk.injEq] at eg;obtain ⟨rfl,-,-⟩:=eg;exact ⟨cap,by rw [Nat.zero_mul,hc,Nat.sub_zero],hm⟩
theorem zEe {w:World} {A:Nat→Prop} {n0:Nat} {ρ:Nat→Value} {v:Value} {fr:Bool} {t:List Ent} (h:RepH w A n0 ρ v (.lst fr (bR t))):∃ ad cd,v=.slice ad t.length cd:=by
 generalize hx:bR t=xs at h
 cases h with
|lst hF =>
  cases hF with
 |lst sz vals hn =>
   subst hx;rw [yV] at hn;subst hn;exact ⟨_,_,rfl⟩
section
variable {S:HS} {id:Nat} {t:List Ent} {h2:HV}
theorem zJg (hl:t.length≤1048576) (hr:rlk S.st id=some (zP8 (t ++ [spare]))) (L2:Lend S.st h2 (.lst false (bR t)))
  {c:Ctx} {look:Nat→Option Value} {w:World} {ρ:Nat→Value} {xs:Nat→List Value} {vs:List Value} (G:Eng.Good c S look w ρ xs) (R:iZ w (c.A ρ S.st) c.n0 ρ vs [.vw id 3 0 t.length,h2]) :
  Calls Tryz.prog 21 vs.toArray w (Ret fun v w'=>v=.bool true∧Below w.heap.size w w'):=by
 obtain ⟨R1,R2⟩:=R
 match vs,R1 with
|[v0,v1],_ =>
 have r0:=R2 0 (by simp) (by simp)
 have r1:=R2 1 (by simp) (by simp)
 simp only [List.getElem_cons_zero,List.getElem_cons_succ] at r0 r1
 have l0:=qKq G r0 (zSm (ys:=bR t) (by rw [List.drop_zero,zEt,List.take_left' rfl,yT]) hr)
 have l1:=qKq G r1 L2
 obtain ⟨o1,o2,o3⟩:=dB G hr;rw [yV,List.length_append] at o1;obtain ⟨g,cap,hg,hcap,-,hcell⟩:=fV o1 (by simp)
 have hsp:w.cell? ⟨g,t.length * 3,none⟩=some (.string spare.1):=by
  obtain ⟨u,u1,-,u3⟩:=o3 t.length 0 (by rw [yV];simp) (by rw [o2 _ (List.getElem_mem _)];omega)
  have e:(bR (t ++ [spare]))[t.length]'(by rw [yV];simp)=qNb spare:=by simp [bR]
  have e2:((bR (t ++ [spare]))[t.length]'(by rw [yV];simp))[0]'(by rw [e];simp [qNb])=.v (.string spare.1):=by simp only [e];rfl
  rw [e2] at u3
  cases u3
  exact hcell _ _ u1
 have hcap':t.length + 1≤cap:=by simpa using hcap
 obtain ⟨c1,rfl,hc1⟩:∃ c1,v0=.slice (some ⟨g,0,none⟩) t.length c1∧t.length + 1≤c1:=zFi r0 hg hcap';obtain ⟨ad,cd,rfl⟩:∃ ad cd,v1=.slice ad t.length cd:=zEe l1;exact qZn w g c1 t ad cd hl l0 l1 hc1 hsp
theorem zM6 (hl:t.length≤1048576) {K:HV→HS→Prop} (hr:rlk S.st id=some (zP8 (t ++ [spare]))) (L2:Lend S.st h2 (.lst false (bR t))) (hK:K (.v (.bool true)) S):HAt Tryz.prog 21 [.vw id 3 0 t.length,h2] S K :=
 ⟨zUs,fun c look w ρ xs vs G R=>Ret.mono (zJg hl hr L2 G R) fun v w' ⟨e,B⟩=>⟨_,_,hK,ρ,xs,G.below B,by subst e;exact .v _⟩⟩
end
end Go.Proofs.YtlihpgmgiehjkaaGreatDoor
end
section
set_option maxRecDepth 20000
namespace Go.Proofs.YtlihpgmgiehjkaaGreatDoor
open Go Go.Eng Go.RowKit Go.Tr
set_option maxHeartbeats 4000000 in
theorem zMd (t:List Ent) (hl:t.length≤1048576) (hs:∀ e ∈ t,e.2.2.size≤1048576):HFun Tryz.prog 25 [.lst false (bR t)] (fun h st=>h=.v (.int .i64 (kK t))):=by
 refine jP (N:=21) Tryz.func25 rfl Tryz.ntmps25 Tryz.results25 (by simp) ?_
 refine zE ?_;refine zJ (fun K hK=>?_);simp (disch:=omega) only [push_cast,↓iC9,simprocAttr];refine hK _ ?_;clear hK K
 refine zE ?_;refine zJ (fun K hK=>?_);simp (disch:=omega) only [push_cast,↓iC9,simprocAttr];refine hK _ ?_;clear hK K
 refine zE ?_;refine zE ?_;refine zJ (fun K hK=>?_);simp (disch:=omega) only [push_cast,↓iC9,simprocAttr];refine hK _ ?_;clear hK K
 refine zA ?_;refine zD ?_;refine iN (fun i:Nat=>⟨[(0,.lst false (bR t)),(3,.v (.int .i64 (kK (t.take i)))),(4,.v (.int .i64 i))],[]⟩) (fun i=>i≤t.length) (fun i=>t.length - i) [0,3,4] [] 0 rfl (Nat.zero_le _) ?_
 rintro i hi
 by_cases hlt:i < t.length
 ·have h1:=hs _ (List.getElem_mem hlt)
  have h2:=qUg (t.take i) (by rw [List.length_take];omega) (fun e he=>hs e (List.mem_of_mem_take he))
  rw [List.length_take,Nat.min_eq_left hi] at h2
  have h3:kK (t.take (i + 1))=kK (t.take i) + t[i].2.2.size:=by rw [List.take_succ_eq_append_getElem hlt,qYp]
  generalize kK (t.take i)=a at *
  refine zE ?_;refine zE ?_;refine zJ (fun K hK=>?_);simp (disch:=omega) only [push_cast,↓iC9,simprocAttr,yV];refine hK _ ?_;clear hK K
  refine zA ?_;refine yD rfl ?_;refine zC ?_;refine zE ?_;refine zD ?_;refine zJ (fun K hK=>?_);simp (disch:=omega) only [push_cast,↓iC9,simprocAttr,yV,yU,yW hlt];refine hK _ ?_;clear hK K
  refine zB ?_;refine zA ?_;refine zJ (fun K hK=>?_);simp (disch:=omega) only [push_cast,↓iC9,simprocAttr];refine hK _ ?_;clear hK K
  refine zA ?_;exact ⟨i + 1,by simp only [zZ,zR,zP,zQ,zN,zS,zM,zX,zU,Nat.reduceEqDiff,reduceIte];rw [h3];rfl,hlt,by omega⟩
 ·have hne:i=t.length:=by omega
  subst hne;rw [List.take_length];refine zE ?_;refine zE ?_;refine zJ (fun K hK=>?_);simp (disch:=omega) only [push_cast,↓iC9,simprocAttr,yV];refine hK _ ?_;clear hK K
  refine zA ?_;refine yC rfl ?_;refine zT ?_;refine zG ?_;refine zG ?_;refine zH ?_;refine zE ?_;refine zJ (fun K hK=>?_);simp (disch:=omega) only [push_cast,↓iC9,simprocAttr];refine hK _ ?_;clear hK K
  refine zA ?_;refine zW ?_;simp only [yA,yM,yH,yE,aL,aV,yK,yJ,zS,zM,Nat.reduceEqDiff,reduceIte,reduceCtorEq];exact bQ rfl
end Go.Proofs.YtlihpgmgiehjkaaGreatDoor
end
