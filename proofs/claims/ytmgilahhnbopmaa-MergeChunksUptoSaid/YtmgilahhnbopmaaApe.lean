/-
  Regions that draw their order, appends to rows of one's own among their heads: the rule.
-/
import Derived.Test.YtmgilahhnbopmaaGd
set_option linter.unusedSimpArgs false
set_option linter.unusedVariables false
section
namespace Go.Eng
open Go Go.RowKit
section
variable {P:Program} {N:Nat} {ops:List Oper} {n:Nat} {l:Env} {vs:Nat→Value}
end
section
variable {P:Program} {N:Nat} {Q:qB5} {l:Env} {w:World}
end
end Go.Eng
end
section
namespace Go.Eng
open Go Go.RowKit
def inl (ids:List Nat) (i:Nat):Bool:=match ids with
|[]=>false
|k :: r=>k == i || inl r i
abbrev Aps:=List (Nat × Nat × List Nat)
def bad (W:Aps) (i:Nat):List Nat:=match W with
|[]=>[]
|(a,id,D) :: r=>bif a == i || inl D i then bad r i else id :: bad r i
def wat (W:Aps) (i:Nat):Option Nat:=match W with
|[]=>none
|(a,id,_) :: r=>bif a == i then some id else wat r i
def pL (W:Aps) (L:Nat→Bool) (id:Nat):Bool:=match W with
|[]=>false
|(a,i,_) :: r=>(L a && i == id) || pL r L id
end Go.Eng
end
section
namespace Go.Eng
open Go Go.RowKit
abbrev Acc:=List (Nat × Nat × Row)
section
variable {P:Program} {N:Nat} {c:Ctx} {S T:HS} {Q:gQ} {l:Env} {look:Nat→Option Value} {w w':World} {ρ:Nat→Value} {xs:Nat→List Value}
structure HeadA (P:Program) (N:Nat) (ops:List Oper) (E0:aN) (st st0:aB) (W:Aps) (hs:Nat→HV) (acc:Acc) (i:Nat) (o:Oper):Prop where
  lt:kM N o.dst
  head:∃ T:aN,FrOk ops E0 hs i T∧(∀ t h,hlk T t=some h→t ∈ jL (eH ops) o.guard ++ cE o.op)∧(∀ t h,hlk T t=some h→h.kill (inl (bad W i))=h) ∧
    ((wat W i=none∧∀ (c:Ctx) (l:Env) (w:World) (ρ:Nat→Value) (xs:Nat→List Value),Good c ⟨T,st0⟩ (lk l) w ρ xs →
      ∃ b,gd l (eH ops) o.guard (·=b)∧(b=true→bR P l o.op o.type w (fun u w'=>RepH w' (c.A ρ st0) c.n0 ρ u (hs i)∧Below w.heap.size w w') (fun u w'=>RepH w' (c.A ρ st0) c.n0 ρ u (hs i)∧Below w.heap.size w w'))∧(b=false→hs i=.v undef)) ∨
     ∃ id d nw ty sz els cnd S' nw' ty' sz' els',wat W i=some id∧o.guard=none∧o.dst=some d∧hs i=.own id∧rlk st id=some (.sl nw ty sz els)∧hop P ⟨T,[(id,.sl nw ty sz els)]⟩ (rS o.dst) o.op=.go cnd (.own id) S'∧cnd ∧
       rlk S'.st id=some (.sl nw' ty' sz' els')∧(d,id,.sl nw' ty' sz' els') ∈ acc)
theorem RowOk.ctx {A:Nat→Prop} {c c':Ctx} {id:Nat} {r:Row} {ys:List Value} (h:RowOk w A c ρ id r ys) (e1:c'.n0=c.n0) (e2:c'.B=c.B) (hn:∀ b,(ρ id).ownBlock=some b→c'.w0.heap.size≤b∨c'.T b):RowOk w A c' ρ id r ys:=by
  refine ⟨h.own,?_,fun b hb=>⟨hn b hb,fun e=>by rw [e1];exact (h.new b hb).2 e⟩⟩
  have:=h.rep
  cases r with
 |sl=>rw [e1];exact this
 |bx=>rw [e1,e2];exact this
 |hl=>rw [e1];exact this
def lkB (l:Env) (vs:Nat→Value) (k:Nat):Option Value:=if k % 2=0 then lk l (k / 2) else some (vs (k / 2))
structure Jn (c:Ctx) (S:HS) (W:Aps) (acc:Acc) (hs:Nat→HV) (n:Nat) (l:Env) (L:Nat→Bool) (vs:Nat→Value) (w:World) (ρ:Nat→Value) (xs:Nat→List Value) (E:aN) (st':aB):Prop where
  good:Good c ⟨E,st'⟩ (lkB l vs) w ρ xs
  env:∀ k x,hlk S.env k=some x→hlk E (2 * k)=some (x.kill (pL W L))
  hds:∀ j,j < n→L j=true→hlk E (2 * j + 1)=some (match wat W j with|some id=>.own id|none=>(hs j).kill (pL W L))
  rows:∀ k r,rlk S.st k=some r→(pL W L k=false→rlk st' k=some (r.kill (pL W L)))∧∀ d row,(d,k,row) ∈ acc→pL W L k=true→rlk st' k=some row
  none:∀ k,rlk S.st k=none→rlk st' k=none
theorem zCw {st st':aB} (h:∀ k r,rlk st k=some r→∃ r',rlk st' k=some r') (b:Nat) (hb:oY ρ st b):oY ρ st' b:=by
  obtain ⟨i,r,h1,h2⟩:=hb;obtain ⟨r',h3⟩:=h i r h1;exact ⟨i,r',h3,h2⟩
theorem zL1 {c c':Ctx} {st st':aB} (h0:∀ b,c'.A0 b↔c.A ρ st' b∧¬ oY ρ st b) (h1:∀ b,oY ρ st b→oY ρ st' b) (b:Nat):c'.A ρ st b↔c.A ρ st' b:=by
  constructor
  · rintro (h|h)
    · exact ((h0 b).1 h).1
    · exact .inr (h1 b h)
  · intro h
    by_cases e:oY ρ st b
    · exact .inr e
    · exact .inl ((h0 b).2 ⟨h,e⟩)
theorem Good.sub {E T : aN} {st st1 : aB} {look1 : Nat → Option Value} (G : Good c ⟨E, st⟩ look w ρ xs) (h1 : ∀ k r, rlk st1 k = some r → ∃ r', rlk st k = some r' ∧ (∀ ys, RowOk w (c.A ρ st) c ρ k r' ys → RowOk w (c.A ρ st) c ρ k r ys))
    (hT:∀ t x,hlk T t=some x→∃ v,look1 t=some v∧RepH w (c.A ρ st) c.n0 ρ v x) :
    Good ⟨w,oY ρ st1,fun b=>c.A ρ st b∧¬ oY ρ st1 b,c.n0,Nat.le_trans c.hn G.kept.size,c.B⟩ ⟨T,st1⟩ look1 w ρ xs ∧
      (∀ b,Ctx.A ⟨w,oY ρ st1,fun b=>c.A ρ st b∧¬ oY ρ st1 b,c.n0,Nat.le_trans c.hn G.kept.size,c.B⟩ ρ st1 b↔c.A ρ st b):=by
  have hO:∀ b,oY ρ st1 b→oY ρ st b:=zCw fun k r hr=>by obtain ⟨r',e,_⟩:=h1 k r hr;exact ⟨r',e⟩
  have hA:=fun b=>zL1 (ρ:=ρ) (c:=c) (c':=⟨w,oY ρ st1,fun b=>c.A ρ st b∧¬ oY ρ st1 b,c.n0,Nat.le_trans c.hn G.kept.size,c.B⟩) (st:=st1) (st':=st) (fun _=>Iff.rfl) hO b
  refine ⟨⟨fun id r hr=>?_,fun i j r s b hne hi hj hbi hbj=>?_,fun k x hk=>?_,Kept.refl _ _,fun b hb=>⟨?_,hb.2⟩⟩,hA⟩
  · obtain ⟨r',e,f⟩:=h1 id r hr
    exact ((f _ (G.rows id r' e)).up (Nat.le_refl _) (fun _ _ _=>rfl) (fun b _=>(hA b).1) (fun _ _=>rfl)).ctx rfl rfl fun b hb=>.inr ⟨id,r,hr,hb⟩
  · obtain ⟨r',e,_⟩:=h1 i r hi
    obtain ⟨s',e',_⟩:=h1 j s hj;exact G.apart i j r' s' b hne e e' hbi hbj
  · obtain ⟨v,a,b⟩:=hT k x hk
    exact ⟨v,a,b.up (Nat.le_refl _) (fun _ _ _=>rfl) (fun b _=>(hA b).1) (Nat.le_refl _)⟩
  · rcases hb.1 with h0|⟨i,r,hi,hbi⟩
    · have:=(G.a0 b h0).1;have:=G.kept.size;show b < w.heap.size;omega
    · exact G.lt hi hbi
end
end Go.Eng
end
