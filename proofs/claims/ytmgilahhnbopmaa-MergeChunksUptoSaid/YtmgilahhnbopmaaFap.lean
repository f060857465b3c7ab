/-
  Leaves: lent out of rows that name them; handed to a function that writes into all of them.
-/
import Derived.Test.YtmgilahhnbopmaaFor
import Derived.Test.YtmgilahhnbopmaaApm
set_option linter.unusedSimpArgs false
set_option linter.unusedVariables false
namespace Go.Eng
open Go Go.RowKit
section
variable {P:Program} {N:Nat} {c c1:Ctx} {F F':List Leaf} {S S':HS} {Q Q':xY} {l:Env} {look look':Nat→Option Value} {w w':World} {ρ:Nat→Value} {xs:Nat→List Value}
theorem zB3 {f:Leaf} {els:List (List FV)} {A:Nat→Prop} {n0:Nat} (hn:f.n=els.length) (hw:∀ x ∈ els,x.length=f.sz) (hc:∀ i k (hi:i < els.length) (hk:k < els[i].length),∃ u,els[i][k]=.v u∧f.xs[i * f.sz + k]?=some u∧u.oneCell'=true)
  (h:Own w 0 f.ty f.sz f.v f.n f.xs) (hA:∀ b,f.v.ownBlock=some b→¬ A b):RepF w A n0 f.v (.lst false els):=by
 obtain ⟨v,ty,sz,n,ys⟩:=f;dsimp only at hn hw hc h hA ⊢;subst hn;refine sU h hw (fun i k hi hk=>?_) (fun b hb=>⟨hA b hb,fun e=>by cases e⟩)
 obtain ⟨u,e,u1,u2⟩:=hc i k hi hk;exact ⟨u,u1,u2,by rw [e];exact .v _⟩
structure LeafIs (f:Leaf) (els:List (List FV)):Prop where
 n:f.n=els.length
 w:∀ x ∈ els,x.length=f.sz
 c:∀ i k (hi:i < els.length) (hk:k < els[i].length),∃ u,els[i][k]=.v u∧f.xs[i * f.sz + k]?=some u∧u.oneCell'=true
inductive LendC (F:List Leaf):HV→FV→Prop
|v (x:Value):LendC F (.v x) (.v x)
|leaf {f:Leaf} {els:List (List FV)} (h:f ∈ F) (hr:LeafIs f els):LendC F (.v f.v) (.lst false els)
theorem LendF.row {id:Nat} {nw:Bool} {ty sz:Nat} {els:List (List HV)} {ys:List (List FV)} (hr:rlk S.st id=some (.hl nw ty sz els)) (hl:ys.length=els.length) (hw:∀ y ∈ ys,y.length=sz)
  (h:∀ i k (hi:i < els.length) (hk:k < els[i].length) (hi':i < ys.length) (hk':k < ys[i].length),LendC F els[i][k] ys[i][k]):LendF F S (.own id) (.lst false ys):=fun c1 look w ρ xs v G hF hv=>by
 cases hv with
|own _ _ =>
 obtain ⟨o1,o2,o3⟩:=kE G hr;rw [← hl] at o1;refine .lst (sU o1 hw (fun i k hi hk=>?_) (fun b _=>⟨fun h=>h,fun e=>by cases e⟩))
 have hi':i < els.length:=by omega
 have hk2:k < els[i].length:=by rw [o2 _ (List.getElem_mem hi'),← hw _ (List.getElem_mem hi)];exact hk
 obtain ⟨u,u1,u2,u3⟩:=o3 i k hi' hk2
 have hL:=h i k hi' hk2 hi hk
 refine ⟨u,u1,u2,?_⟩;generalize els[i][k]=a at u3 hL;generalize ys[i][k]=b at hL ⊢
 cases hL with
|v x=>cases u3;exact .v _
|leaf hm hl=>cases u3;exact zB3 hl.n hl.w hl.c (hF _ hm) (fun b _ h=>h)
inductive ApAt (F:List Leaf) (st:aB) (te sz:Nat):Nat ⊕ Nat→HV→Nat→Prop
|row {id:Nat} {nw:Bool} {els:List (List FV)} (h:rlk st id=some (.sl nw te sz els)):ApAt F st te sz (.inl id) (.own id) els.length
|leaf {p:Nat} {f:Leaf} (h:F[p]?=some f) (h1:f.ty=te) (h2:f.sz=sz):ApAt F st te sz (.inr p) (.v f.v) f.n
def qXb (F:List Leaf) (ρ:Nat→Value):Nat ⊕ Nat→Value
|.inl id=>ρ id
|.inr p=>(F[p]?.map Leaf.v).getD undef
def zGj (F:List Leaf) (xs:Nat→List Value):Nat ⊕ Nat→List Value
|.inl id=>xs id
|.inr p=>(F[p]?.map Leaf.xs).getD []
theorem ApAt.rep {F:List Leaf} {te sz m:Nat} {a:Nat ⊕ Nat} {x:HV} {v:Value} {A:Nat→Prop} {n0:Nat} (h:ApAt F S.st te sz a x m) (hr:RepH w A n0 ρ v x):v=qXb F ρ a:=by
 cases h with
|row h=>cases hr;rfl
|leaf h h1 h2=>cases hr;simp [qXb,h]
theorem ApAt.own {F:List Leaf} {te sz m:Nat} {a:Nat ⊕ Nat} {x:HV} (h:ApAt F S.st te sz a x m) (G:Good c1 S look w ρ xs) (hF:∀ f ∈ F,Own w 0 f.ty f.sz f.v f.n f.xs):Own w 0 te sz (qXb F ρ a) m (zGj F xs a):=by
 cases h with
|row h=>exact (eK G h).1
|leaf h h1 h2 =>
  have:=hF _ (List.mem_of_getElem? h)
  subst h1;subst h2
  simpa [qXb,zGj,h] using this
theorem ApAt.blk {F:List Leaf} {te sz m:Nat} {a:Nat ⊕ Nat} {x:HV} {b:Nat} (h:ApAt F S.st te sz a x m) (hb:(qXb F ρ a).ownBlock=some b):(∃ id r,a=.inl id∧rlk S.st id=some r∧(ρ id).ownBlock=some b)∨(∃ p f,a=.inr p∧F[p]?=some f∧f.v.ownBlock=some b):=by
 cases h with
|row h=>exact .inl ⟨_,_,rfl,h,hb⟩
|leaf h h1 h2=>exact .inr ⟨_,_,rfl,h,by simpa [qXb,h] using hb⟩
abbrev zHw (P:Program) (f:FuncId) (te sz:Nat):Prop:=∀ (w:World) (n L cap:Nat) (ad:Option Addr) (V:Nat→Value) (m:Nat→Nat) (X:Nat→List Value) (ow:Nat→Nat) (T:Nat→Prop),(0 < n→ad=some ⟨L,0,none⟩) →
  Marked w w T te sz n V m X→(∀ j,j < n→Tag w ow (V j) j)→(∀ j b,j < n→(V j).ownBlock=some b→T b)→(∀ j,j < n→ow L=n + 1∧L < w.heap.size∧¬ T L∧w.cell? ⟨L,j,none⟩=some (V j)) →
  n≤1000000→(∀ j,j < n→m j≤1000000000)→Calls P f #[.slice ad n cap] w (Ret fun r w'=>r=.bool true∧Kept T w w')
theorem qYs {ds:List (Option Nat)} {K:List Leaf→HS→Prop} {o:Oper} {rest:List Oper} {f:FuncId} {x:Operand} {ay:Array Operand} {ats:Array TypeId} {te sz tO lid:Nat} {nw:Bool} {els:List (List HV)} (AP:zHw P f te sz) (hlid:rlk S.st lid=some (.hl nw tO 1 els))
  (who:Nat→Nat ⊕ Nat) (len:Nat→Nat) (hat:∀ j (h:j < els.length),∃ x,els[j]=[x]∧ApAt F S.st te sz (who j) x (len j)) (hne:∀ j,j < els.length→who j≠.inl lid) (inj:∀ i j,i < els.length→j < els.length→who i=who j→i=j)
  (hn:els.length≤1000000) (hm:∀ j,j < els.length→len j≤1000000000) (E:aN) (hE:∀ k x,hlk E k=some x→hlk S.env k=some x∧∃ u,x=.v u)
  (hc:aM P f=true) (hop:o.op=.call ⟨.value x,ay,ats⟩) (hg:zE4 (hG S.env ds o.guard)=true) (hd:gZ N o.dst=true) (hfn:fnH (hev S.env x)=some f) (has:jR S.env ay.toList=some [.own lid])
  (h:qB6 P N ds K rest [] ((⟨E,[]⟩:HS).set o.dst (.v (.bool true)))):qB6 P N ds K (o :: rest) F S:=fun c l w ⟨c1,hs,ρ,xs,G⟩=>by
 rw [VC];refine qSq ⟨ρ,xs,G⟩ hg ⟨fE hd,?_⟩;obtain ⟨vs,e1,e2,e3⟩:=G.evs (cD _ _) has;rw [hop];unfold bR;simp only [qNp,aG,cU,e1,G.fn (cD _ _) hfn];obtain ⟨v,rfl⟩:∃ v,vs=[v]:=by
  match vs,e2 with
 |[v],_=>exact ⟨v,rfl⟩
 have hv:=e3 0 (by simp) (by simp)
 simp only [List.getElem_cons_zero] at hv
 cases hv with
|own _ h1 =>
 obtain ⟨o1,o2,o3⟩:=kE G hlid;obtain ⟨ad,cap,hv0,hvf⟩:=Own.form o1
 let V:Nat→Value:=fun j=>qXb F ρ (who j)
 have hcellV:∀ i (h:i < els.length),(xs lid)[i]?=some (V i):=fun i hi=>by
  obtain ⟨y,ey,ha⟩:=hat i hi;obtain ⟨u,u1,-,u3⟩:=o3 i 0 hi (by rw [ey];simp)
  simp only [ey,List.getElem_cons_zero] at u3;rw [Nat.mul_one,Nat.add_zero] at u1;rw [u1,ha.rep u3]
 have hL:∃ L,(0 < els.length→ad=some ⟨L,0,none⟩∧L < w.heap.size∧∀ j u,(xs lid)[j]?=some u→w.cell? ⟨L,j,none⟩=some u):=by
  by_cases h:0 < els.length
  ·obtain ⟨g,e,-,a,b⟩:=hvf h;exact ⟨g,fun _=>⟨e,a,b⟩⟩
  ·exact ⟨0,fun h'=>absurd h' h⟩
 obtain ⟨L,hL⟩:=hL
 let T:Nat→Prop:=fun b=>∃ i,i < els.length∧(V i).ownBlock=some b
 -- a row's block is none of a leaf's
 have hrl:∀ id r f b,rlk S.st id=some r→(ρ id).ownBlock=some b→f ∈ F→f.v.ownBlock=some b→False:=fun id r f b hr hb hf hfb=>by
  obtain ⟨a1,a2⟩:=G.a0 b (hs.L b ⟨f,hf,hfb⟩).1
  rcases ((G.rows id r hr).new b hb).1 with h|h
  ·omega
  ·exact a2 h
 have huniq:∀ i j b,i < els.length→j < els.length→(V i).ownBlock=some b→(V j).ownBlock=some b→i=j:=fun i j b hi hj h1 h2=>by
  obtain ⟨x1,-,p1⟩:=hat i hi;obtain ⟨x2,-,p2⟩:=hat j hj
  rcases p1.blk h1 with ⟨id,r,ea,hr,hb⟩|⟨p,f,ea,hp,hb⟩ <;> rcases p2.blk h2 with ⟨id2,r2,eb,hr2,hb2⟩|⟨p2',f2,eb,hp2,hb2⟩
  ·by_cases e:id=id2
   ·exact inj i j hi hj (by rw [ea,eb,e])
   ·exact (G.apart id id2 r r2 b e hr hr2 hb hb2).elim
  ·exact (hrl id r f2 b hr hb (List.mem_of_getElem? hp2) hb2).elim
  ·exact (hrl id2 r2 f b hr2 hb2 (List.mem_of_getElem? hp) hb).elim
  ·by_cases e:p=p2'
   ·exact inj i j hi hj (by rw [ea,eb,e])
   ·exfalso
    have key:∀ p q (f g:Leaf),p < q→F[p]?=some f→F[q]?=some g→f.v.ownBlock=some b→g.v.ownBlock=some b→False:=fun p q f g hpq hf hg h1 h2=>by
     obtain ⟨hpl,rfl⟩:=List.getElem?_eq_some_iff.1 hf;obtain ⟨hql,rfl⟩:=List.getElem?_eq_some_iff.1 hg;exact List.pairwise_iff_getElem.1 hs.nod p q hpl hql hpq b h1 h2
    rcases Nat.lt_or_gt_of_ne e with h|h
    ·exact key _ _ _ _ h hp hp2 hb hb2
    ·exact key _ _ _ _ h hp2 hp hb2 hb
 classical
 let ow:Nat→Nat:=fun b=>if h:T b then Classical.choose h else els.length + 1
 have how:∀ i b,i < els.length→(V i).ownBlock=some b→ow b=i:=fun i b hi hb=>by
  have h:T b:=⟨i,hi,hb⟩
  show (if h:T b then Classical.choose h else _)=i
  rw [dif_pos h];exact huniq _ _ b (Classical.choose_spec h).1 hi (Classical.choose_spec h).2 hb
 have hTL:0 < els.length→¬ T L:=fun h ⟨i,hi,hb⟩=>by
  have hbl:(ρ lid).ownBlock=some L:=by rw [hv0,(hL h).1];rfl
  obtain ⟨x1,-,p1⟩:=hat i hi
  rcases p1.blk hb with ⟨id,r,ea,hr,hb⟩|⟨p,f,ea,hp,hb⟩
  ·exact G.apart id lid r _ L (fun e=>hne i hi (by rw [ea,e])) hr hlid hb hbl
  ·exact hrl lid _ f L hlid hbl (List.mem_of_getElem? hp) hb
 have hO:∀ j,j < els.length→Own w 0 te sz (V j) (len j) (zGj F xs (who j)):=fun j hj=>by
  obtain ⟨x1,-,p1⟩:=hat j hj;exact p1.own G hs.own
 rw [hv0];refine ⟨hc,Ret.mono (AP w els.length L cap ad V len (fun i=>zGj F xs (who i)) ow T (fun h=>(hL h).1) ⟨Kept.refl _ _,hO⟩ (fun j hj b hb=>⟨how j b hj hb,((hO j hj).lt b hb).2⟩) (fun j b hj hb=>⟨j,hj,hb⟩) (fun j hj=>?_) hn hm) ?_⟩
 ·obtain ⟨a,b,d⟩:=hL (by omega)
  refine ⟨?_,b,hTL (by omega),d j _ (hcellV j hj)⟩
  show (if h:T L then Classical.choose h else _)=_
  rw [dif_neg (hTL (by omega))]
 ·rintro r w' ⟨rfl,hK⟩
  have hsz:=G.kept.size
  let c2:Ctx:=⟨w',fun _=>False,c1.A0,c1.n0,by have:=c1.hn;have:=hK.size;omega,c1.B⟩
  have hTc:∀ b,c1.w0.heap.size≤b∨c1.T b→c.w0.heap.size≤b∨c.T b:=fun b h=>by
   rcases h with h|h
   ·have:=hs.kept.size;exact .inl (by omega)
   ·exact hs.T b h
  have hs2:Sub c c2 [] w':=by
   refine ⟨hs.n0,hs.B,(hs.kept.trans G.kept fun b hb ht=>?_).trans hK fun b hb ht=>?_,fun b h=>h.elim,hs.A,fun b ⟨f,hf,_⟩=>by simp at hf,fun f hf=>by simp at hf,List.Pairwise.nil⟩
   ·exact (hs.T b ht).resolve_left (by omega)
   ·obtain ⟨i,hi,hbi⟩:=ht;obtain ⟨x1,-,p1⟩:=hat i hi
    rcases p1.blk hbi with ⟨id,r,ea,hr,hb'⟩|⟨p,f,ea,hp,hb'⟩
    ·exact (hTc b ((G.rows id r hr).new b hb').1).resolve_left (by omega)
    ·exact (hs.L b ⟨f,List.mem_of_getElem? hp,hb'⟩).2.1.resolve_left (by omega)
  have I2:InvV c2 ⟨E,[]⟩ (.v (.bool true)) (.bool true) (lk l) w':=by
   refine ⟨ρ,xs,⟨fun i r h=>by simp [rlk] at h,fun i j r s b _ h=>by simp [rlk] at h,fun k x hk=>?_,Kept.refl _ _,fun b hb=>?_⟩,.v _⟩
   ·obtain ⟨hk1,u,rfl⟩:=hE k x hk;obtain ⟨v,a1,a2⟩:=G.env k _ hk1
    cases a2
    exact ⟨u,a1,.v _⟩
   ·have:=(G.a0 b hb).1
    have:=hK.size
    exact ⟨by show b < w'.heap.size;omega,fun h=>h⟩
  exact h c _ w' ⟨c2,hs2,I2.set o.dst⟩
theorem qW7 {ds:List (Option Nat)} {K:List Leaf→HS→Prop} {o:Oper} {rest:List Oper} {f:FuncId} {x:Operand} {ay:Array Operand} {ats:Array TypeId} {te sz tO lid:Nat} {nw:Bool} {els:List (List HV)} (AP:zHw P f te sz) (hlid:rlk S.st lid=some (.hl nw tO 1 els))
  (who:Nat→Nat ⊕ Nat) (hat:∀ j (h:j < els.length),∃ x m,els[j]=[x]∧ApAt F S.st te sz (who j) x m∧m≤1000000000) (hne:∀ j,j < els.length→who j≠.inl lid) (inj:∀ i j,i < els.length→j < els.length→who i=who j→i=j)
  (hn:els.length≤1000000) (E:aN) (hE:∀ k x,hlk E k=some x→hlk S.env k=some x∧∃ u,x=.v u)
  (hc:aM P f=true) (hop:o.op=.call ⟨.value x,ay,ats⟩) (hg:zE4 (hG S.env ds o.guard)=true) (hd:gZ N o.dst=true) (hfn:fnH (hev S.env x)=some f) (has:jR S.env ay.toList=some [.own lid])
  (h:qB6 P N ds K rest [] ((⟨E,[]⟩:HS).set o.dst (.v (.bool true)))):qB6 P N ds K (o :: rest) F S:=by
 have key:∀ j,∃ m,∀ h:j < els.length,(∃ x,els[j]=[x]∧ApAt F S.st te sz (who j) x m)∧m≤1000000000:=fun j=>by
  by_cases h:j < els.length
  ·obtain ⟨x,m,h1,h2,h3⟩:=hat j h;exact ⟨m,fun _=>⟨⟨x,h1,h2⟩,h3⟩⟩
  ·exact ⟨0,fun h'=>absurd h' h⟩
 exact qYs AP hlid who (fun j=>Classical.choose (key j)) (fun j h=>(Classical.choose_spec (key j) h).1) hne inj hn (fun j h=>(Classical.choose_spec (key j) h).2) E hE hc hop hg hd hfn has h
theorem qNc {ds:List (Option Nat)} {K:List Leaf→HS→Prop} {o:Oper} {rest:List Oper} {f:FuncId} {args args':List HV} {u:Value} {x:Operand} {ay:Array Operand} {ats:Array TypeId} (hc:aM P f=true) (H:HFun P f args' (fun h st=>h=.v u))
  (hop:o.op=.call ⟨.value x,ay,ats⟩) (hg:zE4 (hG S.env ds o.guard)=true) (hd:gZ N o.dst=true) (hfn:fnH (hev S.env x)=some f) (has:jR S.env ay.toList=some args) (hl:LendsF F S args args')
  (h:qB6 P N ds K rest F (S.set o.dst (.v u))):qB6 P N ds K (o :: rest) F S:=fun c l w ⟨c1,hs,ρ,xs,G⟩=>by
 rw [VC];refine qSq ⟨ρ,xs,G⟩ hg ⟨fE hd,?_⟩;obtain ⟨vs,e1,e2,e3⟩:=G.evs (cD _ _) has;rw [hop];unfold bR;simp only [qNp,aG,cU,e1,G.fn (cD _ _) hfn];refine ⟨hc,Ret.mono (H w vs (qX3 G hs.own ⟨e2,e3⟩ hl)) fun v w' ⟨B,h',st,h8,q,ρ',xs',G',hr⟩=>?_⟩
 subst q
 have e:=cW hr
 subst e
 have I2:InvV c1 S (.v v) v (lk l) w':=⟨ρ,xs,G.below B,.v _⟩
 refine h c _ w' ⟨c1,hs.same fun b hb=>?_,I2.set o.dst⟩
 have:=(G.a0 b (hs.L b hb).1).1
 have:=G.kept.size
 exact B.block b (by omega)
theorem qE5 {α β:Type} (f:α→List β) (n:Nat) (hf:∀ z,(f z).length=n):∀ (Z:List α) (q r:Nat) (hq:q < Z.length) (hr:r < n),(Z.flatMap f)[n * q + r]?=(f Z[q])[r]?
|[],q,r,hq,hr=>absurd hq (by simp)
|z :: Z,0,r,hq,hr=>by
  rw [List.flatMap_cons,Nat.mul_zero,Nat.zero_add,List.getElem?_append_left (by rw [hf];exact hr)];rfl
|z :: Z,q + 1,r,hq,hr=>by
  have h':q < Z.length:=by simpa using hq
  rw [List.flatMap_cons,List.getElem?_append_right (by rw [hf,Nat.mul_succ];omega),hf,show n * (q + 1) + r - n=n * q + r by rw [Nat.mul_succ];omega,qE5 f n hf Z q r h' hr]
  rfl
theorem qE4 {α β:Type} (f:α→List β) (n:Nat) (hf:∀ z,(f z).length=n):∀ (Z:List α),(Z.flatMap f).length=n * Z.length
|[]=>rfl
|z :: Z=>by rw [List.flatMap_cons,List.length_append,hf,qE4 f n hf Z,List.length_cons,Nat.mul_succ];omega
end
end Go.Eng
