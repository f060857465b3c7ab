/-
  A range over a function, said of values: the variables that were zJb ahead of it keep their places, the loop's state runs over what has come.
-/
import Derived.Test.YtbdomkfdkfdfgaaGreatDoorRng
import Derived.RangeFuncNested
set_option linter.unusedSimpArgs false
set_option linter.unusedVariables false
namespace Go.Eng
open Go Go.RowKit
section
variable {P:Program} {N:Nat} {c:Ctx} {S S':HS} {look look':Nat→Option Value} {w w':World} {ρ ρ':Nat→Value} {xs xs':Nat→List Value}
def vB (st:aB):aB:=st.map fun p=>(p.1,p.2.dark)
def Row.light:Row→Row
|.bx _ t cs=>.bx true t cs
|r=>r
def oE (st:aB):aB:=st.map fun p=>(p.1,p.2.light)
theorem pP (f:Row→Row):∀ (st:aB) (i:Nat),rlk (st.map fun p=>(p.1,f p.2)) i=(rlk st i).map f
|[],i=>rfl
|(k,r) :: s,i=>by
  simp only [List.map_cons,rlk]
  by_cases e:k=i
  ·rw [if_pos e,if_pos e];rfl
  ·rw [if_neg e,if_neg e];exact pP f s i
def qPl (c:Ctx) (w:World) (ρ:Nat→Value) (st:aB) (hn:c.n0≤w.heap.size):Ctx :=
 ⟨w,dP ρ st,fun b=>c.A ρ st b∧¬ dP ρ st b,c.n0,hn,fun id g=>(∃ r,rlk st id=some r)∧ρ id=.slice (some ⟨g,0,none⟩) 1 1∧c.n0≤g⟩
theorem zFe {st:aB} (b:Nat):dP ρ (vB st) b↔dP ρ st b:=by
 constructor
 ·rintro ⟨i,r,h1,h2⟩;rw [vB,pP] at h1
  cases h:rlk st i with
 |none=>rw [h] at h1;cases h1
 |some r0=>exact ⟨i,r0,h,h2⟩
 ·rintro ⟨i,r,h1,h2⟩;exact ⟨i,r.dark,by rw [vB,pP,h1];rfl,h2⟩
theorem Good.pin (G:Good c S look w ρ xs) (hnw:∀ id r,rlk S.st id=some r→r.nw=true) (hn:c.n0≤w.heap.size):Good (qPl c w ρ S.st hn) ⟨S.env,vB S.st⟩ look w ρ xs:=by
 have hA:∀ b,(qPl c w ρ S.st hn).A ρ (vB S.st) b→c.A ρ S.st b:=by
  rintro b (h|h)
  ·exact h.1
  ·exact .inr ((zFe b).1 h)
 refine ⟨fun id r hr=>?_,fun i j r s b hne hi hj hbi hbj=>?_,fun k x hk=>?_,Kept.refl _ _,fun b hb=>⟨?_,hb.2⟩⟩
 ·have hr:rlk (vB S.st) id=some r:=hr
  rw [vB,pP] at hr
  cases h:rlk S.st id with
 |none=>rw [h] at hr;cases hr
 |some r0 =>
   rw [h] at hr
   cases hr
   have R:=(G.rows id r0 h).up (Nat.le_refl _) (fun _ _ _=>rfl) (fun b _=>hA b) (fun _ _=>rfl)
   have hw:=hnw id r0 h
   refine ⟨by rw [(Row.dark_facts r0).1,(Row.dark_facts r0).2.1,(Row.dark_facts r0).2.2];exact R.own,?_,fun b hb=>⟨.inr ⟨id,r0,h,hb⟩,fun _=>(R.new b hb).2 hw⟩⟩
   have rp:=R.rep
   cases r0 with
  |sl nw ty sz els=>exact rp
  |hl nw ty sz els=>exact rp
  |bx nw ty cells =>
    obtain ⟨⟨g,g1,-⟩,rp⟩:=rp;exact ⟨⟨g,g1,fun _=>⟨⟨_,h⟩,g1,(R.new g (by rw [g1];rfl)).2 hw⟩⟩,rp⟩
 ·have hi:rlk (vB S.st) i=some r:=hi
  have hj:rlk (vB S.st) j=some s:=hj
  rw [vB,pP] at hi hj
  cases h:rlk S.st i with
 |none=>rw [h] at hi;cases hi
 |some r0 =>
   cases h':rlk S.st j with
  |none=>rw [h'] at hj;cases hj
  |some s0=>exact G.apart i j r0 s0 b hne h h' hbi hbj
 ·obtain ⟨v,a,b⟩:=G.env k x hk;exact ⟨v,a,b.up (Nat.le_refl _) (fun _ _ _=>rfl) (fun b _=>hA b) (Nat.le_refl _)⟩
 ·rcases hb.1 with h0|⟨i,r,hi,hbi⟩
  ·have:=(G.a0 b h0).1;have:=G.kept.size;show b < w.heap.size;omega
  ·exact G.lt hi hbi
theorem Good.unpin {hn:c.n0≤w.heap.size} (G:Good c S look w ρ xs) (G':Good (qPl c w ρ S.st hn) S' look' w' ρ' xs'):Good c ⟨S'.env,oE S'.st⟩ look' w' ρ' xs':=by
 have hO:∀ b,dP ρ S.st b→c.w0.heap.size≤b∨c.T b:=fun b ⟨i,s,hi,hb⟩=>((G.rows i s hi).new b hb).1
 have ow:∀ b,dP ρ' (oE S'.st) b→dP ρ' S'.st b:=by
  rintro b ⟨i,r,h1,h2⟩;rw [oE,pP] at h1
  cases h:rlk S'.st i with
 |none=>rw [h] at h1;cases h1
 |some r0=>exact ⟨i,r0,h,h2⟩
 have hA:∀ b,c.A ρ' (oE S'.st) b→(qPl c w ρ S.st hn).A ρ' S'.st b:=by
  rintro b (h0|h0)
  ·refine .inl ⟨.inl h0,fun ho=>?_⟩
   have h1:=G.a0 b h0
   rcases hO b ho with h2|h2
   ·omega
   ·exact h1.2 h2
  ·exact .inr (ow b h0)
 have hsz:=G.kept.size
 have new:∀ b,w.heap.size≤b∨dP ρ S.st b→c.w0.heap.size≤b∨c.T b:=fun b h=>by
  rcases h with h1|h1
  ·exact .inl (by omega)
  ·exact hO b h1
 refine ⟨fun id r hr=>?_,fun i j r s b hne hi hj hbi hbj=>?_,fun k x hk=>?_,G.kept.trans G'.kept fun b hb hT=>?_,G.a0⟩
 ·have hr:rlk (oE S'.st) id=some r:=hr
  rw [oE,pP] at hr
  cases h:rlk S'.st id with
 |none=>rw [h] at hr;cases hr
 |some r0 =>
   rw [h] at hr
   cases hr
   have R:=(G'.rows id r0 h).up (Nat.le_refl _) (fun _ _ _=>rfl) (fun b _=>hA b) (fun _ _=>rfl)
   have rp:=R.rep
   cases r0 with
  |sl nw ty sz els=>exact ⟨R.own,rp,fun b hb=>⟨new b (R.new b hb).1,(R.new b hb).2⟩⟩
  |hl nw ty sz els=>exact ⟨R.own,rp,fun b hb=>⟨new b (R.new b hb).1,(R.new b hb).2⟩⟩
  |bx nw ty cells =>
    obtain ⟨⟨g,g1,g2⟩,rp⟩:=rp;refine ⟨R.own,⟨⟨g,g1,fun e=>by cases e⟩,rp⟩,fun b hb=>⟨new b (R.new b hb).1,fun _=>?_⟩⟩
    cases nw with
   |true=>exact (R.new b hb).2 rfl
   |false =>
     have e:g=b:=by rw [g1] at hb;exact Option.some.inj hb
     subst e;exact (g2 rfl).2.2
 ·have hi:rlk (oE S'.st) i=some r:=hi
  have hj:rlk (oE S'.st) j=some s:=hj
  rw [oE,pP] at hi hj
  cases h:rlk S'.st i with
 |none=>rw [h] at hi;cases hi
 |some r0 =>
   cases h':rlk S'.st j with
  |none=>rw [h'] at hj;cases hj
  |some s0=>exact G'.apart i j r0 s0 b hne h h' hbi hbj
 ·obtain ⟨v,h1,h2⟩:=G'.env k x hk;exact ⟨v,h1,h2.up (Nat.le_refl _) (fun _ _ _=>rfl) (fun b _=>hA b) (Nat.le_refl _)⟩
 ·rcases hO b hT with h1|h1
  ·omega
  ·exact h1
def zRx (st:aB):HV→Prop
|.v _=>True
|.lst _ _=>True
|.elt _ _ _ _ _=>True
|.ptr id _ _ _=>∃ t cs,rlk st id=some (.bx false t cs)
|_=>False
theorem qWa {hn:c.n0≤w.heap.size} (G':Good (qPl c w ρ S.st hn) S' look' w' ρ' xs') :
  w.heap.size≤w'.heap.size∧(∀ b,b < w.heap.size→¬ c.A ρ S.st b→w'.heap[b]?=w.heap[b]?)∧∀ b,b < w.heap.size→(qPl c w ρ S.st hn).A ρ' S'.st b→c.A ρ S.st b:=by
 refine ⟨G'.kept.size,fun b hb h=>G'.kept.block b hb fun h'=>h (.inr h'),?_⟩
 rintro b hb (h|⟨i,r,hi,hbi⟩)
 ·exact h.1
 ·rcases ((G'.rows i r hi).new b hbi).1 with h|h
  ·have h:w.heap.size≤b:=h
   omega
  ·exact .inr h
theorem RepH.later {hn:c.n0≤w.heap.size} (G':Good (qPl c w ρ S.st hn) S' look' w' ρ' xs') {v:Value} {h:HV} (hr:RepH w (c.A ρ S.st) c.n0 ρ v h) (hs:zRx S'.st h):RepH w' ((qPl c w ρ S.st hn).A ρ' S'.st) c.n0 ρ' v h:=by
 obtain ⟨h1,h2,h3⟩:=qWa G'
 cases hr with
|v=>exact .v _
|lst h=>exact .lst (h.up h1 h2 h3 (Nat.le_refl _))
|elt h a b=>exact .elt (h.up h1 h2 h3 (Nat.le_refl _)) a b
|ptr sz i k h =>
  obtain ⟨t,cs,hb⟩:=hs;obtain ⟨g',e1,e2⟩:=(G'.rows _ _ hb).rep.1
  have e3:=(e2 rfl).2.1
  exact .ptr sz i k (by rw [e1,← e3];exact h)
|own=>exact hs.elim
|vw=>exact hs.elim
|agg=>exact hs.elim
|tup=>exact hs.elim
|junk=>exact hs.elim
theorem qTz {b o:Nat} {u:Value} {x:Obj} (h:w.heap[b]?=some x) (hx:x.isCells=false) (hu:w.cell? ⟨b,o,none⟩=some u):False:=by
 cases x with
|cells=>cases hx
|_=>simp only [World.cell?,h] at hu;cases hu
theorem qKq (G:Good c S look w ρ xs) {b:Nat} {x:Obj} (h:w.heap[b]?=some x) (hx:x.isCells=false):¬ dP ρ S.st b:=by
 rintro ⟨i,s,hi,hb⟩
 rcases (G.rows i s hi).own.2 with ⟨h2,_⟩|⟨g',cap,cur,h2,_,h3,_⟩
 ·rw [h2] at hb;cases hb
 ·rw [h2] at hb;simp only [Value.ownBlock,Option.some.injEq] at hb;subst hb;rw [h] at h3
  cases h3
  cases hx
theorem Good.grown (G:Good c S look w ρ xs) {row:Option Nat} (hg:w.grownBy w' row) (hr:∀ r,row=some r→c.w0.heap.size≤r∧∃ o:Obj,w.heap[r]?=some o∧o.isCells=false):Good c S look w' ρ xs:=by
 refine G.upm hg.size (fun a o u hu=>?_) (fun a ha=>hg.block a ?_ fun e=>?_) ?_
 ·rw [uG (hg.block a (World.block_lt_of_cell? w ⟨a,o,none⟩ hu) fun e=>?_)]
  ·exact hu
  ·obtain ⟨_,x,h1,h2⟩:=hr a e.symm;exact qTz h1 h2 hu
 ·obtain ⟨i,s,h5,h6⟩:=ha;exact G.lt h5 h6
 ·obtain ⟨_,x,h1,h2⟩:=hr a e.symm;exact qKq G h1 h2 ha
 ·exact G.kept.trans (T':=fun a=>some a=row) ⟨hg.os,hg.tape,hg.output,hg.size,fun a ha hne=>hg.block a ha fun e=>hne e⟩ fun a ha e=>by
   have:=(hr a e.symm).1
   omega
theorem zEn (I:Inv c S look w):∃ c1:Ctx,Inv c1 S look w∧∀ S' look' w',Inv c1 S' look' w'→Inv c S' look' w'∧∀ B,KeepsFrom B w w':=by
 obtain ⟨ρ,xs,G⟩:=I;obtain ⟨G1,hA⟩:=G.sub (T:=S.env) (st1:=S.st) (look1:=look) (fun k r hr=>⟨r,hr,fun _ h=>h⟩) (fun t x hx=>G.env t x hx)
 refine ⟨_,⟨ρ,xs,G1⟩,fun S' look' w' ⟨ρ',xs',G'⟩=>⟨⟨ρ',xs',?_⟩,fun B=>⟨G'.kept.size,fun k o _ hk ho=>(G'.kept.block k (Array.getElem?_eq_some_iff.1 hk).1 (qKq G hk ho)).trans hk⟩⟩⟩
 have hO:∀ b,dP ρ S.st b→c.w0.heap.size≤b∨c.T b:=fun b ⟨i,s,hi,hb⟩=>((G.rows i s hi).new b hb).1
 have hAA:∀ b,c.A ρ' S'.st b→Ctx.A ⟨w,dP ρ S.st,fun b=>c.A ρ S.st b∧¬ dP ρ S.st b,c.n0,Nat.le_trans c.hn G.kept.size,c.B⟩ ρ' S'.st b:=by
  rintro b (h0|h0)
  ·refine .inl ⟨.inl h0,fun ho=>?_⟩
   have h1:=G.a0 b h0
   rcases hO b ho with h2|h2
   ·omega
   ·exact h1.2 h2
  ·exact .inr h0
 refine ⟨fun i s hi=>?_,G'.apart,fun t y hy=>?_,G.kept.trans G'.kept fun b hb hT=>?_,G.a0⟩
 ·have R:=G'.rows i s hi
  refine (R.up (Nat.le_refl _) (fun _ _ _=>rfl) (fun b _=>hAA b) (fun _ _=>rfl)).ctx rfl rfl fun b hb=>?_
  rcases (R.new b hb).1 with h1|h1
  ·have h1:w.heap.size≤b:=h1
   have:=G.kept.size
   exact .inl (by omega)
  ·exact hO b h1
 ·obtain ⟨v,h1,h2⟩:=G'.env t y hy;exact ⟨v,h1,h2.up (Nat.le_refl _) (fun _ _ _=>rfl) (fun b _=>hAA b) (Nat.le_refl _)⟩
 ·rcases hO b hT with h1|h1
  ·omega
  ·exact h1
end
end Go.Eng
