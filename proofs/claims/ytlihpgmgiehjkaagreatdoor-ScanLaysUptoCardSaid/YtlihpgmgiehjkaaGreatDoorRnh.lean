/-
  A range over a function, said of values: the variables that were zHj ahead of it keep their places, the loop's state runs over what has come.
-/
import Derived.Test.YtlihpgmgiehjkaaGreatDoorRng
import Derived.RangeFuncNested
set_option linter.unusedSimpArgs false
set_option linter.unusedVariables false
namespace Go.Eng
open Go Go.RowKit
section
variable {P:Program} {N:Nat} {c:Ctx} {S S':HS} {look look':Nat→Option Value} {w w':World} {ρ ρ':Nat→Value} {xs xs':Nat→List Value}
def vM (st:aF):aF:=st.map fun p=>(p.1,p.2.dark)
theorem qCb (f:Row→Row):∀ (st:aF) (i:Nat),rlk (st.map fun p=>(p.1,f p.2)) i=(rlk st i).map f
|[],i=>rfl
|(k,r) :: s,i=>by
  simp only [List.map_cons,rlk]
  by_cases e:k=i
  ·rw [if_pos e,if_pos e];rfl
  ·rw [if_neg e,if_neg e];exact qCb f s i
def zMq (c:Ctx) (w:World) (ρ:Nat→Value) (st:aF) (hn:c.n0≤w.heap.size):Ctx :=
 ⟨w,dD ρ st,fun b=>c.A ρ st b∧¬ dD ρ st b,c.n0,hn,fun id g=>(∃ r,rlk st id=some r)∧ρ id=.slice (some ⟨g,0,none⟩) 1 1∧c.n0≤g⟩
theorem zD6 {st:aF} (b:Nat):dD ρ (vM st) b↔dD ρ st b:=by
 constructor
 ·rintro ⟨i,r,h1,h2⟩;rw [vM,qCb] at h1
  cases h:rlk st i with
 |none=>rw [h] at h1;cases h1
 |some r0=>exact ⟨i,r0,h,h2⟩
 ·rintro ⟨i,r,h1,h2⟩;exact ⟨i,r.dark,by rw [vM,qCb,h1];rfl,h2⟩
def zNs (st:aF):HV→Prop
|.v _=>True
|.lst _ _=>True
|.elt _ _ _ _ _=>True
|.ptr id _ _ _=>∃ t cs,rlk st id=some (.bx false t cs)
|_=>False
theorem zHp {hn:c.n0≤w.heap.size} (G':Good (zMq c w ρ S.st hn) S' look' w' ρ' xs') :
  w.heap.size≤w'.heap.size∧(∀ b,b < w.heap.size→¬ c.A ρ S.st b→w'.heap[b]?=w.heap[b]?)∧∀ b,b < w.heap.size→(zMq c w ρ S.st hn).A ρ' S'.st b→c.A ρ S.st b:=by
 refine ⟨G'.kept.size,fun b hb h=>G'.kept.block b hb fun h'=>h (.inr h'),?_⟩
 rintro b hb (h|⟨i,r,hi,hbi⟩)
 ·exact h.1
 ·rcases ((G'.rows i r hi).new b hbi).1 with h|h
  ·have h:w.heap.size≤b:=h
   omega
  ·exact .inr h
theorem RepH.later {hn:c.n0≤w.heap.size} (G':Good (zMq c w ρ S.st hn) S' look' w' ρ' xs') {v:Value} {h:HV} (hr:RepH w (c.A ρ S.st) c.n0 ρ v h) (hs:zNs S'.st h):RepH w' ((zMq c w ρ S.st hn).A ρ' S'.st) c.n0 ρ' v h:=by
 obtain ⟨h1,h2,h3⟩:=zHp G'
 cases hr with
|v=>exact .v _
|lst h=>exact .lst (h.up h1 h2 h3 (Nat.le_refl _))
|elt h a b=>exact .elt (h.up h1 h2 h3 (Nat.le_refl _)) a b
|ptr sz i k h =>
  obtain ⟨t,cs,hb⟩:=hs;obtain ⟨g',e1,e2⟩:=(G'.rows _ _ hb).rep.1
  have e3:=(e2 rfl).2.1
  exact .ptr sz i k (by rw [e1,← e3];exact h)
|own=>exact hs.elim
|vw=>exact hs.elim
|agg=>exact hs.elim
|tup=>exact hs.elim
|junk=>exact hs.elim
theorem qTf {b o:Nat} {u:Value} {x:Obj} (h:w.heap[b]?=some x) (hx:x.isCells=false) (hu:w.cell? ⟨b,o,none⟩=some u):False:=by
 cases x with
|cells=>cases hx
|_=>simp only [World.cell?,h] at hu;cases hu
theorem qKb (G:Good c S look w ρ xs) {b:Nat} {x:Obj} (h:w.heap[b]?=some x) (hx:x.isCells=false):¬ dD ρ S.st b:=by
 rintro ⟨i,s,hi,hb⟩
 rcases (G.rows i s hi).own.2 with ⟨h2,_⟩|⟨g',cap,cur,h2,_,h3,_⟩
 ·rw [h2] at hb;cases hb
 ·rw [h2] at hb;simp only [Value.ownBlock,Option.some.injEq] at hb;subst hb;rw [h] at h3
  cases h3
  cases hx
theorem Good.grown (G:Good c S look w ρ xs) {row:Option Nat} (hg:w.grownBy w' row) (hr:∀ r,row=some r→c.w0.heap.size≤r∧∃ o:Obj,w.heap[r]?=some o∧o.isCells=false):Good c S look w' ρ xs:=by
 refine G.upm hg.size (fun a o u hu=>?_) (fun a ha=>hg.block a ?_ fun e=>?_) ?_
 ·rw [fP (hg.block a (World.block_lt_of_cell? w ⟨a,o,none⟩ hu) fun e=>?_)]
  ·exact hu
  ·obtain ⟨_,x,h1,h2⟩:=hr a e.symm;exact qTf h1 h2 hu
 ·obtain ⟨i,s,h5,h6⟩:=ha;exact G.lt h5 h6
 ·obtain ⟨_,x,h1,h2⟩:=hr a e.symm;exact qKb G h1 h2 ha
 ·exact G.kept.trans (T':=fun a=>some a=row) ⟨hg.os,hg.tape,hg.output,hg.size,fun a ha hne=>hg.block a ha fun e=>hne e⟩ fun a ha e=>by
   have:=(hr a e.symm).1
   omega
end
end Go.Eng
