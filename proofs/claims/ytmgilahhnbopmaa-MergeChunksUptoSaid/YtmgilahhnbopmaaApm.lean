/-
  Slices that share no memory: marked, grown, looked at. Of no program.
-/
import Derived.Test.YtmgilahhnbopmaaRdd
set_option linter.unusedSimpArgs false
set_option linter.unusedVariables false
namespace Go.Eng
open Go Go.RowKit
section
variable {w w' w0:World} {v x x':Value} {xs ys:List Value} {base te sz n k:Nat}
theorem Rd.pre (h:Rd w v (xs ++ ys)):Rd w v xs:=fun b hb p u hu=>h b hb p u (by rw [List.getElem?_append_left (List.getElem?_eq_some_iff.1 hu).1];exact hu)
theorem Rd.block (h:Rd w v xs) (hb:∀ b,v.ownBlock=some b→w'.heap[b]?=w.heap[b]?):Rd w' v xs:=fun b hv p u hu=>by
 rw [kA (hb b hv)];exact h b hv p u hu
def Tag (w:World) (ow:Nat→Nat) (v:Value) (t:Nat):Prop:=∀ b,v.ownBlock=some b→ow b=t∧b < w.heap.size
theorem qM6 {P:Program} {t ty e sz by':Nat} {z:Array Value} {v:Value} {n:Nat} {l:List Value} (hse:mF P t=some (e,sz,by',z)) (hz:z.size=sz) (hsz:0 < sz) (hby0:0 < by') (h:Own w 0 e sz v n l)
  {x:Value} {m:Nat} {news:List Value} (hx:sN w x m news) (hl:news.length=m * sz) (h1:∀ u ∈ news,u.oneCell'=true) (hby:(n + m) * by'≤140737488355328) :
  ∃ v' w',(Builtin.append_ #[t,t] ty #[v,x]).run P w=.ok v' w'∧Own w' 0 e sz v' (n + m) (l ++ news)∧w.grownBy w' v.ownBlock∧(∀ b,v'.ownBlock=some b→w.heap.size≤b∨v.ownBlock=some b)∧(v'.ownBlock=v.ownBlock∨Below w.heap.size w w'):=by
 obtain ⟨v',w',r1,r2,r3,r4,r5⟩:=kG (P:=P) (ty:=ty) hse hz hsz hby0 h hx hl h1 hby;refine ⟨v',w',r1,r2,r3,r5,?_⟩
 have h63:n + m≤maxLen:=by
  have:n + m≤(n + m) * by':=Nat.le_mul_of_pos_right _ hby0
  simp only [maxLen];omega
 obtain ⟨hu,i,u,hi,h2,h3,h4,h5⟩:=nD hse
 rcases hx with ⟨a,cp,rfl,hnews⟩|⟨rfl,rfl,rfl⟩
 ·subst h2;subst h3
  rcases h.2 with ⟨rfl,rfl⟩|⟨g,cap,cur,rfl,hbg,hg,hnc,hcm,hcs,htake⟩
  ·right
   exact ⟨r3.os,r3.tape,r3.output,r3.size,fun b hb=>r3.block b hb (by simp [Value.ownBlock])⟩
  ·by_cases hroom:n + m≤cap
   ·have hfit:n * i.size + news.length≤cur.size:=by rw [hl,hcs,← Nat.add_mul];exact Nat.mul_le_mul_right _ hroom
    have hr:=run_append_room (P:=P) w t ty e i hu hi g n cap cur hg a m cp news hl hnews h1 hroom hfit
    rw [hr] at r1;simp only [Result.ok.injEq] at r1;rw [← r1.1];exact .inl rfl
   ·have holds:∀ j y,l[j]?=some y→w.cell? ((⟨g,0,none⟩:Addr).add j)=some y:=h.cells (g:=g) rfl
    have hr:=run_append_grow (P:=P) w t ty e i u hu hi h4 ⟨g,0,none⟩ n cap l h.1 holds a m cp news hl hnews (by omega) (by simp only [maxLen] at h63;omega) (growslice_fits (by omega) hby)
    rw [hr] at r1;simp only [Result.ok.injEq] at r1
    right
    rw [← r1.2]
    have:Below w.heap.size w w.drew:=⟨rfl,rfl,rfl,Nat.le_refl _,fun _ _=>rfl⟩
    exact this.alloc (Nat.le_refl _) _
 ·have hr:=run_append_owned_none (P:=P) (w:=w) 0 t ty e i sz hu hi v n l h
  rw [hr] at r1;simp only [Result.ok.injEq] at r1;exact .inl (by rw [← r1.1])
structure Marked (w0 w:World) (T:Nat→Prop) (te sz n:Nat) (V:Nat→Value) (m:Nat→Nat) (Y:Nat→List Value):Prop where
 kept:Kept T w0 w
 own:∀ j,j < n→Own w 0 te sz (V j) (m j) (Y j)
def qNg {α:Type} (f:Nat→α) (i:Nat) (x:α):Nat→α:=fun j=>if j=i then x else f j
theorem uE {α:Type} (f:Nat→α) (i:Nat) (x:α):qNg f i x i=x:=by simp [qNg]
theorem qC2 {α:Type} (f:Nat→α) (i:Nat) (x:α) (j:Nat) (h:j≠i):qNg f i x j=f j:=by simp [qNg,h]
variable {T:Nat→Prop} {tO i i' L:Nat} {V U:Nat→Value} {m:Nat→Nat} {was news Y:Nat→List Value} {ow:Nat→Nat} {lv lv':Value}
theorem Marked.turn (h:Marked w0 w T te sz n V m Y) (hd:∀ i j b,i < n→j < n→(V i).ownBlock=some b→(V j).ownBlock=some b→i=j) (hT:∀ j b,j < n→(V j).ownBlock=some b→T b)
  (hi:i < n) {g:Nat} (hg:(V i).ownBlock=some g) (hO:Only g w w') (ho:Own w' 0 te sz (V i) (m i) ys):Marked w0 w' T te sz n V m (qNg Y i ys):=by
 refine ⟨h.kept.trans (T':=fun b=>b=g) ⟨hO.os,hO.tape,hO.output,Nat.le_of_eq hO.size.symm,fun b _ hb=>hO.block b hb⟩ (fun b _ e=>by subst e;exact hT i b hi hg),fun j hj=>?_⟩
 by_cases e:j=i
 ·subst e;rw [uE];exact ho
 ·rw [qC2 _ _ _ _ e];exact (h.own j hj).only hO fun hb=>e (hd j i g hj hi hb hg)
theorem Marked.up (h:Marked w0 w T te sz n V m Y) (hb:Below w.heap.size w w'):Marked w0 w' T te sz n V m Y :=
 ⟨h.kept.trans (T':=fun _=>False) ⟨hb.os,hb.tape,hb.output,hb.size,fun b hlt _=>hb.block b hlt⟩ (fun _ _ h=>h.elim),fun j hj=>(h.own j hj).up hb⟩
structure Grown (w0 w:World) (T:Nat→Prop) (te sz tO n i i' L:Nat) (V:Nat→Value) (m:Nat→Nat) (was news:Nat→List Value) (ow:Nat→Nat) (U:Nat→Value) (lv:Value):Prop where
 kept:Kept T w0 w
 rd:∀ j,j < n→Rd w (V j) (was j)
 own:∀ j,i'≤j→j < n→Own w 0 te sz (V j) (m j) (was j)
 grown:∀ j,j < i→Own w 0 te sz (U j) (m j + 20) (was j ++ news j)
 long:Own w 0 tO 1 lv i ((List.range i).map U)
 newL:∀ b,lv.ownBlock=some b→w0.heap.size≤b
 tagV:∀ j,j < n→Tag w ow (V j) j
 tagU:∀ j,j < i→Tag w ow (U j) j
 tagL:Tag w ow lv n
 outer:∀ j,j < n→ow L=n + 1∧L < w.heap.size∧w.cell? ⟨L,j,none⟩=some (V j)
theorem Tag.up (h:Tag w ow v k) (hs:w.heap.size≤w'.heap.size):Tag w' ow v k:=fun b hb=>⟨(h b hb).1,by have:=(h b hb).2;omega⟩
theorem Grown.up (h:Grown w0 w T te sz tO n i i' L V m was news ow U lv) (hb:Below w.heap.size w w'):Grown w0 w' T te sz tO n i i' L V m was news ow U lv :=
 ⟨h.kept.trans (T':=fun _=>False) ⟨hb.os,hb.tape,hb.output,hb.size,fun b hlt _=>hb.block b hlt⟩ (fun _ _ h=>h.elim),fun j hj=>(h.rd j hj).block fun b hv=>hb.block b ((h.tagV j hj b hv).2),
  fun j h1 h2=>(h.own j h1 h2).up hb,fun j hj=>(h.grown j hj).up hb,h.long.up hb,h.newL,fun j hj=>(h.tagV j hj).up hb.size,fun j hj=>(h.tagU j hj).up hb.size,h.tagL.up hb.size,
  fun j hj=>⟨(h.outer j hj).1,by have:=(h.outer j hj).2.1;have:=hb.size;omega,fC hb (h.outer j hj).2.2⟩⟩
def owN (w:World) (ow:Nat→Nat) (t:Nat):Nat→Nat:=fun b=>if w.heap.size≤b then t else ow b
theorem qHb {t b:Nat} (h:b < w.heap.size):owN w ow t b=ow b:=by simp [owN];omega
theorem Tag.old (h:Tag w ow v k) (t:Nat) (hs:w.heap.size≤w'.heap.size):Tag w' (owN w ow t) v k:=fun b hb=>by
 obtain ⟨h1,h2⟩:=h b hb;exact ⟨by rw [qHb h2];exact h1,by omega⟩
theorem Own.other (h:Own w base te sz v n xs) {j t:Nat} (hv:Tag w ow v j) (hx:Tag w ow x t) (hne:j≠t) (r3:w.grownBy w' x.ownBlock):Own w' base te sz v n xs :=
 h.block fun b hb=>r3.block b (hv b hb).2 fun e=>hne (by rw [← (hv b hb).1,(hx b e.symm).1])
theorem Rd.other (h:Rd w v xs) {j t:Nat} (hv:Tag w ow v j) (hx:Tag w ow x t) (hne:j≠t) (r3:w.grownBy w' x.ownBlock):Rd w' v xs :=
 h.block fun b hb=>r3.block b (hv b hb).2 fun e=>hne (by rw [← (hv b hb).1,(hx b e.symm).1])
theorem qYy {t:Nat} (hx:Tag w ow x t) (r2:Own w' base te sz x' n xs) (r5:∀ b,x'.ownBlock=some b→w.heap.size≤b∨x.ownBlock=some b):Tag w' (owN w ow t) x' t:=fun b hb=>by
 refine ⟨?_,(r2.lt b hb).2⟩
 rcases r5 b hb with h|h
 ·simp [owN,h]
 ·rw [qHb (hx b h).2];exact (hx b h).1
theorem qJ9 (h:Kept T w0 w) (r3:w.grownBy w' x.ownBlock) (hT:∀ b,x.ownBlock=some b→w0.heap.size≤b∨T b):Kept T w0 w' :=
 h.trans (T':=fun b=>x.ownBlock=some b) ⟨r3.os,r3.tape,r3.output,r3.size,fun b hlt hn=>r3.block b hlt fun e=>hn e.symm⟩ fun b hlt e=>(hT b e).resolve_left (by omega)
theorem Grown.app (h:Grown w0 w T te sz tO n i (i + 1) L V m was news ow U lv) (hi:i < n) (hx:Tag w ow x i) {zs:List Value} (r2:Own w' 0 te sz x' k (was i ++ zs)) (r3:w.grownBy w' x.ownBlock)
  (r5:∀ b,x'.ownBlock=some b→w.heap.size≤b∨x.ownBlock=some b) (r6:x'.ownBlock=x.ownBlock∨Below w.heap.size w w') (hT:∀ b,x.ownBlock=some b→w0.heap.size≤b∨T b) :
  Grown w0 w' T te sz tO n i (i + 1) L V m was news (owN w ow i) U lv∧Tag w' (owN w ow i) x' i∧(∀ b,x'.ownBlock=some b→w0.heap.size≤b∨T b):=by
 have hs:=h.kept.size
 refine ⟨⟨qJ9 h.kept r3 hT,fun j hj=>?_,fun j h1 h2=>(h.own j h1 h2).other (h.tagV j h2) hx (by omega) r3,fun j hj=>(h.grown j hj).other (h.tagU j hj) hx (by omega) r3,h.long.other h.tagL hx (by omega) r3,h.newL,
  fun j hj=>(h.tagV j hj).old i r3.size,fun j hj=>(h.tagU j hj).old i r3.size,h.tagL.old i r3.size,fun j hj=>?_⟩,qYy hx r2 r5,fun b hb=>?_⟩
 ·by_cases e:j=i
  ·subst e
   rcases r6 with r6|r6
   ·intro b hb p u hu
    by_cases e:x.ownBlock=some b
    ·exact r2.rd.pre b (by rw [r6,e]) p u hu
    ·rw [kA (r3.block b (h.tagV j hj b hb).2 (fun e2=>e e2.symm))]
     exact h.rd j hj b hb p u hu
   ·exact (h.rd j hj).block fun b hv=>r6.block b ((h.tagV j hj b hv).2)
  ·exact (h.rd j hj).other (h.tagV j hj) hx e r3
 ·obtain ⟨h1,h2,h3⟩:=h.outer j hj;refine ⟨by rw [qHb h2];exact h1,by have:=r3.size;omega,?_⟩
  rw [kA (r3.block L h2 fun e=>?_)]
  ·exact h3
  ·have:=(hx L e.symm).1;omega
 ·rcases r5 b hb with h'|h'
  ·left;omega
  ·exact hT b h'
theorem Grown.next (h:Grown w0 w T te sz tO n i (i + 1) L V m was news ow U lv) (hi:i < n) (hx:Tag w ow x i) (ho:Own w 0 te sz x (m i + 20) (was i ++ news i)) (r2:Own w' 0 tO 1 lv' (i + 1) ((List.range i).map U ++ [x])) (r3:w.grownBy w' lv.ownBlock)
  (r5:∀ b,lv'.ownBlock=some b→w.heap.size≤b∨lv.ownBlock=some b) :
  Grown w0 w' T te sz tO n (i + 1) (i + 1) L V m was news (owN w ow n) (qNg U i x) lv':=by
 have hs:=h.kept.size
 have hl:=h.tagL
 refine ⟨qJ9 h.kept r3 (fun b hb=>.inl (h.newL b hb)),fun j hj=>(h.rd j hj).other (h.tagV j hj) hl (by omega) r3,fun j h1 h2=>(h.own j h1 h2).other (h.tagV j h2) hl (by omega) r3,fun j hj=>?_,?_,fun b hb=>?_,
  fun j hj=>(h.tagV j hj).old n r3.size,fun j hj=>?_,qYy hl r2 r5,fun j hj=>?_⟩
 ·by_cases e:j=i
  ·subst e;rw [uE];exact ho.other hx hl (by omega) r3
  ·rw [qC2 _ _ _ _ e];exact (h.grown j (by omega)).other (h.tagU j (by omega)) hl (by omega) r3
 ·have:(List.range (i + 1)).map (qNg U i x)=(List.range i).map U ++ [x]:=by
   rw [List.range_succ,List.map_append,List.map_singleton,uE]
   congr 1
   apply List.map_congr_left
   intro j hj;rw [qC2 _ _ _ _ (by have:=List.mem_range.1 hj;omega)]
  rw [this];exact r2
 ·rcases r5 b hb with h'|h'
  ·omega
  ·exact h.newL b h'
 ·by_cases e:j=i
  ·subst e;rw [uE];exact hx.old n r3.size
  ·rw [qC2 _ _ _ _ e];exact (h.tagU j (by omega)).old n r3.size
 ·obtain ⟨h1,h2,h3⟩:=h.outer j hj;refine ⟨by rw [qHb h2];exact h1,by have:=r3.size;omega,?_⟩
  rw [kA (r3.block L h2 fun e=>?_)]
  ·exact h3
  ·have:=(hl L e.symm).1;omega
theorem Marked.grown (h:Marked w0 w T te sz n V m was) (ht:∀ j,j < n→Tag w0 ow (V j) j) (hL:∀ j,j < n→ow L=n + 1∧L < w0.heap.size∧¬ T L∧w0.cell? ⟨L,j,none⟩=some (V j)) (news:Nat→List Value) (U:Nat→Value) (tO:Nat) :
  Grown w0 w T te sz tO n 0 0 L V m was news ow U (.slice none 0 0) :=
 ⟨h.kept,fun j hj=>(h.own j hj).rd,fun j _ hj=>h.own j hj,fun j hj=>absurd hj (Nat.not_lt_zero _),World.ownsRow_nil w 0 tO 1,fun b hb=>(by cases hb),fun j hj=>(ht j hj).up h.kept.size,fun j hj=>absurd hj (Nat.not_lt_zero _),fun b hb=>(by cases hb),
  fun j hj=>by
   obtain ⟨a,b,d,e⟩:=hL j hj;exact ⟨a,by have:=h.kept.size;omega,by rw [kA (h.kept.block L b d)];exact e⟩⟩
end
end Go.Eng
