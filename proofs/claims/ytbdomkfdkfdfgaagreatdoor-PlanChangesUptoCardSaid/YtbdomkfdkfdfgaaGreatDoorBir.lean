/-
  Regions that draw their order, whose heads make variables at any time, beside heads that zN2 one after another: the rule. Of no program.
-/
import Derived.Test.YtbdomkfdkfdfgaaGreatDoorChn
set_option linter.unusedSimpArgs false
set_option linter.unusedVariables false
namespace Go.Eng
open Go Go.RowKit
abbrev jE:=List (Nat × Nat × Nat × TypeId × List Value)
def inF:jE→Nat→Bool
|[],_=>false
|(a,_) :: r,i=>a == i || inF r i
def qSr:Oper→Oper
|⟨d,_,ty,p,a,g⟩=>⟨d,.move (.const (.bool false)),ty,p,a,g⟩
def fN (F:jE):Nat→List Oper→List Oper
|_,[]=>[]
|i,o :: r=>(bif inF F i then qSr o else o) :: fN F (i + 1) r
def bSt:jE→aB→aB
|[],st=>st
|(_,_,id,t,z) :: r,st=>(id,.bx true t (z.map .v)) :: bSt r st
def bEn:jE→aJ→aJ
|[],E=>E
|(_,d,id,_,z) :: r,E=>(d,.ptr id z.length 0 0) :: bEn r E
def qS8:jE→aJ→aB→Prop
|[],_,_=>True
|(_,_,id,_,_) :: r,E,st=>(gZ (only id) E=E∧cR (only id) st=st)∧qS8 r E st
def FOk (P:Program) (ops:List Oper):jE→Prop
|[]=>True
|(i,d,_,t,z) :: r=>(match ops[i]? with|some o=>o.dst=some d∧o.guard=none∧o.op=.alloc t|none=>False)∧dL P t=some z.toArray∧z.all (·.oneCell')=true∧FOk P ops r
def zTs (N:Nat) (ops:List Oper) (n:Nat) (W:Ws) (F:jE):Bool :=
 (!dup (F.map (·.1))) && (!dup (F.map (·.2.2.1))) && (F.all fun f=>decide (f.1 < n) && decide (f.2.1 < N) && (List.range W.length).all fun q=>wAt W q != f.1) &&
 ((List.range n).all fun i=>match ops[i]? with
 |some o=>(gK (bW ops) o.guard ++ jY o.op).all fun t=>F.all fun f=>t != f.2.1
 |none=>true)
section
variable {P:Program} {N:Nat} {Q:fH} {c:Ctx} {S:HS} {l:Env} {look:Nat→Option Value} {w w':World} {ρ:Nat→Value} {xs:Nat→List Value}
theorem Good.anew {c c':Ctx} (G:Good c S look w ρ xs) (B:Below w.heap.size w w') (e1:c'.n0=c.n0) (e2:c'.B=c.B) (hA:∀ b,b < w.heap.size→c'.A0 b→c.A0 b) (ha:∀ b,c'.A0 b→b < c'.w0.heap.size∧¬ c'.T b) (hk:Kept c'.T c'.w0 w')
  (hn:∀ id r b,rlk S.st id=some r→(ρ id).ownBlock=some b→c'.w0.heap.size≤b∨c'.T b):Good c' S look w' ρ xs:=by
 have hAA:∀ b,b < w.heap.size→c'.A ρ S.st b→c.A ρ S.st b:=fun b hlt h=>h.imp (hA b hlt) _root_.id
 refine ⟨fun id r hr=>?_,G.apart,fun k h hk=>?_,hk,ha⟩
 ·have R:=(G.rows id r hr).up (w':=w') (A':=c'.A ρ S.st) B.size (fun b hlt _=>B.block b hlt) hAA (fun b hb=>B.block b (G.lt hr hb))
  refine ⟨R.own,?_,fun b hb=>⟨hn id r b hr hb,fun h=>by rw [e1];exact (R.new b hb).2 h⟩⟩
  have:=R.rep
  rw [e1,e2];exact this
 ·obtain ⟨v,h1,h2⟩:=G.env k h hk;exact ⟨v,h1,by rw [e1];exact h2.up B.size (fun b hlt _=>B.block b hlt) hAA (Nat.le_refl _)⟩
theorem Good.birth {E:aJ} {st:aB} (G:Good c ⟨E,st⟩ look w ρ xs) {g id d:Nat} {t:TypeId} {z:List Value} (hg:c.A0 g) (hb:Blk w g z.toArray t) (h1:z.all (·.oneCell')=true) (hn:c.n0≤g)
  (hE:∀ k h,hlk E k=some h→h.kill (only id)=h) (hst:cR (only id) st=st) (hd:look d=some (.pointer (some ⟨g,0,none⟩))) :
  Good ⟨c.w0,fun b=>c.T b∨b=g,fun b=>c.A0 b∧b≠g,c.n0,c.hn,c.B⟩ ⟨(d,.ptr id z.length 0 0) :: E,(id,.bx true t (z.map .v)) :: st⟩ look w (eJ ρ id (.slice (some ⟨g,0,none⟩) 1 1)) (fun i=>if i=id then z else xs i):=by
 have hno:rlk st id=none:=by
  have:=eX (only id) st id
  rw [hst,zFg,cond_true] at this;exact this
 have hkill:∀ i r,rlk st i=some r→r.kill (only id)=r∧i≠id:=fun i r hr=>by
  have hne:i≠id:=fun e=>by rw [e,hno] at hr;cases hr
  have:=eX (only id) st i
  rw [hst,nC hne,cond_false,hr] at this;simp only [Option.map_some,Option.some.injEq] at this;exact ⟨this.symm,hne⟩
 have hown:∀ i r,rlk st i=some r→(ρ i).ownBlock≠some g:=fun i r hr e=>by
  obtain ⟨a1,a2⟩:=G.a0 g hg
  rcases ((G.rows i r hr).new g e).1 with h|h
  ·omega
  ·exact a2 h
 have hA:∀ b,Ctx.A ⟨c.w0,fun b=>c.T b∨b=g,fun b=>c.A0 b∧b≠g,c.n0,c.hn,c.B⟩ (eJ ρ id (.slice (some ⟨g,0,none⟩) 1 1)) ((id,.bx true t (z.map .v)) :: st) b→c.A ρ st b:=by
  rintro b (h0|⟨i,r,hi,hbi⟩)
  ·exact .inl h0.1
  ·simp only [rlk] at hi
   by_cases e:id=i
   ·subst e;rw [aG] at hbi;simp only [Value.ownBlock,Option.some.injEq] at hbi;subst hbi;exact .inl hg
   ·rw [if_neg e] at hi;rw [gY ρ id _ i (fun h=>e h.symm)] at hbi
    exact .inr ⟨i,r,hi,hbi⟩
 have hρ:∀ j,only id j=false→eJ ρ id (.slice (some ⟨g,0,none⟩) 1 1) j=ρ j:=fun j hj=>gY ρ id _ j (tZ hj)
 have tr:∀ v x,RepH w (c.A ρ st) c.n0 ρ v x→RepH w (Ctx.A ⟨c.w0,fun b=>c.T b∨b=g,fun b=>c.A0 b∧b≠g,c.n0,c.hn,c.B⟩ (eJ ρ id (.slice (some ⟨g,0,none⟩) 1 1)) ((id,.bx true t (z.map .v)) :: st)) c.n0 (eJ ρ id (.slice (some ⟨g,0,none⟩) 1 1)) v (x.kill (only id)):=fun v x h =>
  (h.up (Nat.le_refl _) (fun _ _ _=>rfl) (fun b _=>hA b) (Nat.le_refl _)).kill hρ
 refine ⟨fun i r hi=>?_,fun i j r s b hne hi hj hbi hbj=>?_,fun k h hk=>?_,?_,fun b hb=>?_⟩
 ·simp only [rlk] at hi
  by_cases e:id=i
  ·subst e;rw [if_pos rfl] at hi
   cases hi
   rw [if_pos rfl];refine ⟨?_,⟨⟨g,aG _ _ _,fun h=>(by cases h)⟩,fun k hk=>?_⟩,fun b hb'=>?_⟩
   ·rw [aG];simp only [Row.ty,Row.sz,Row.len,List.length_map];refine ⟨by simp,.inr ⟨g,1,z.toArray,rfl,Nat.zero_le _,hb,Nat.le_refl _,by simp [maxLen],by simp,by simp⟩⟩
   ·have ha:k < z.length:=by simpa using hk
    refine ⟨z[k],List.getElem?_eq_getElem ha,List.all_eq_true.1 h1 _ (List.getElem_mem ha),?_⟩;rw [List.getElem_map];exact .v _
   ·rw [aG] at hb';simp only [Value.ownBlock,Option.some.injEq] at hb';exact ⟨.inr (.inr hb'.symm),fun _=>by subst hb';exact hn⟩
  ·rw [if_neg e] at hi;obtain ⟨k1,k2⟩:=hkill i r hi;rw [if_neg k2]
   have R:=(((G.rows i r hi).up (w':=w) (Nat.le_refl _) (fun _ _ _=>rfl) (fun b _=>hA b) (fun _ _=>rfl)).kill hρ (nC k2))
   rw [k1] at R;exact ⟨R.own,R.rep,fun b hb=>⟨(R.new b hb).1.imp _root_.id .inl,(R.new b hb).2⟩⟩
 ·simp only [rlk] at hi hj
  by_cases e1:id=i
  ·by_cases e2:id=j
   ·omega
   ·rw [if_neg e2] at hj;subst e1;rw [aG] at hbi;simp only [Value.ownBlock,Option.some.injEq] at hbi;rw [gY ρ id _ j (fun h=>e2 h.symm)] at hbj
    exact hown j s hj (by rw [hbj,hbi])
  ·rw [if_neg e1] at hi;rw [gY ρ id _ i (fun h=>e1 h.symm)] at hbi
   by_cases e2:id=j
   ·subst e2;rw [aG] at hbj;simp only [Value.ownBlock,Option.some.injEq] at hbj;exact hown i r hi (by rw [hbi,hbj])
   ·rw [if_neg e2] at hj;rw [gY ρ id _ j (fun h=>e2 h.symm)] at hbj
    exact G.apart i j r s b hne hi hj hbi hbj
 ·simp only [hlk] at hk
  by_cases e:d=k
  ·subst e;rw [if_pos rfl] at hk
   cases hk
   have:=RepH.ptr (w:=w) (A:=Ctx.A ⟨c.w0,fun b=>c.T b∨b=g,fun b=>c.A0 b∧b≠g,c.n0,c.hn,c.B⟩ (eJ ρ id (.slice (some ⟨g,0,none⟩) 1 1)) ((id,.bx true t (z.map .v)) :: st)) (n0:=c.n0) (ρ:=eJ ρ id (.slice (some ⟨g,0,none⟩) 1 1)) z.length 0 0 (aG ρ id _)
   exact ⟨_,hd,by simpa using this⟩
  ·rw [if_neg e] at hk;obtain ⟨v,h2,h3⟩:=G.env k h hk
   have:=tr v h h3
   rw [hE k h hk] at this;exact ⟨v,h2,this⟩
 ·exact ⟨G.kept.os,G.kept.tape,G.kept.output,G.kept.size,fun b hlt hn=>G.kept.block b hlt fun h=>hn (.inl h)⟩
 ·obtain ⟨a1,a2⟩:=G.a0 b hb.1;exact ⟨a1,fun h=>h.elim a2 hb.2⟩
theorem zCk {F:jE} {i:Nat}:inF F i=true↔∃ f ∈ F,f.1=i:=by
 induction F with
|nil=>simp [inF]
|cons f r ih =>
  obtain ⟨a,rest⟩:=f;simp only [inF,Bool.or_eq_true,beq_iff_eq,ih,List.mem_cons];constructor
  ·rintro (rfl|⟨f,hf,e⟩)
   ·exact ⟨_,.inl rfl,rfl⟩
   ·exact ⟨f,.inr hf,e⟩
  ·rintro ⟨f,rfl|hf,e⟩
   ·exact .inl e
   ·exact .inr ⟨f,hf,e⟩
def inD (F:jE) (k:Nat):Bool:=F.any fun f=>f.2.1 == k
def zH6 (F:jE) (E:aJ):aJ:=E.filter fun p=>!inD F p.1
theorem vV (F:jE):∀ (E:aJ) (k:Nat),hlk (zH6 F E) k=if inD F k=true then none else hlk E k
|[],k=>by simp [zH6,hlk]
|(j,x) :: r,k=>by
  have ih:=vV F r k
  unfold zH6 at ih ⊢;rw [List.filter_cons]
  by_cases hj:inD F j=true
  ·rw [if_neg (by simp [hj]),ih]
   by_cases e:j=k
   ·subst e;rw [if_pos hj,if_pos hj]
   ·simp only [hlk,if_neg e]
  ·rw [if_pos (by simpa using hj)]
   simp only [hlk]
   by_cases e:j=k
   ·subst e;rw [if_pos rfl,if_neg hj,if_pos rfl]
   ·rw [if_neg e,if_neg e];exact ih
theorem zM0 (F:jE) {E E':aJ} (h:∀ k x,inD F k=false→hlk E k=some x→hlk E' k=some x):∀ k x,hlk (bEn F E) k=some x→hlk (bEn F E') k=some x:=by
 have key:∀ (R:jE) (k:Nat) (x:HV),(∀ x,R.any (fun f=>f.2.1 == k)=false→hlk E k=some x→hlk E' k=some x)→hlk (bEn R E) k=some x→hlk (bEn R E') k=some x:=by
  intro R
  induction R with
 |nil=>intro k x h hx;exact h x rfl hx
 |cons f r ih =>
   obtain ⟨a,d,id,t,z⟩:=f;intro k x h hx;simp only [bEn,hlk] at hx ⊢
   by_cases e:d=k
   ·rw [if_pos e] at hx ⊢;exact hx
   ·rw [if_neg e] at hx ⊢;refine ih k x (fun y hy=>h y ?_) hx
    rw [List.any_cons,hy,Bool.or_false,beq_eq_false_iff_ne];exact e
 intro k x hx;exact key F k x (fun y hy=>h k y hy) hx
theorem qWd {p:Nat→Bool}:∀ {F:jE} {E:aJ},(∀ f ∈ F,p f.2.2.1=false)→(∀ k h,hlk E k=some h→h.kill p=h)→∀ k h,hlk (bEn F E) k=some h→h.kill p=h
|[],E,_,hE,k,h,hh=>hE k h hh
|(a,d,id,t,z) :: r,E,hp,hE,k,h,hh=>by
  simp only [bEn,hlk] at hh
  by_cases e:d=k
  ·rw [if_pos e] at hh
   cases hh
   have:=hp _ (List.mem_cons_self ..)
   simp only at this;simp [HV.kill,this]
  ·rw [if_neg e] at hh;exact qWd (fun f hf=>hp f (List.mem_cons_of_mem _ hf)) hE k h hh
theorem qWc {p:Nat→Bool} {st:aB} (hst:cR p st=st):∀ {F:jE},(∀ f ∈ F,p f.2.2.1=false)→cR p (bSt F st)=bSt F st
|[],_=>hst
|(a,d,id,t,z) :: r,hp=>by
  have:=hp _ (List.mem_cons_self ..)
  simp only at this
  have e:(z.map HV.v).map (HV.kill p)=z.map HV.v:=by
   rw [List.map_map];apply List.map_congr_left;intro a _;simp [HV.kill]
  simp only [bSt,cR,this,cond_false,Row.kill,e];rw [qWc hst fun f hf=>hp f (List.mem_cons_of_mem _ hf)]
theorem qYa {a:Nat} {l:List Nat} (h:dup (a :: l)=false):(∀ x ∈ l,x≠a)∧dup l=false:=by
 refine ⟨fun x hx e=>?_,?_⟩
 ·subst e;obtain ⟨j,hj⟩:=List.getElem?_of_mem hx
  have:=qBv (i:=0) (j:=j + 1) (a:=x) h (by simp) (by simpa using hj)
  omega
 ·unfold dup at h;simp only [Bool.or_eq_false_iff] at h;exact h.2
theorem Good.births {look:Nat→Option Value} {w:World} {gs:Nat→Nat}:∀ {F:jE} {c:Ctx} {E:aJ} {st:aB} {ρ:Nat→Value} {xs:Nat→List Value},Good c ⟨E,st⟩ look w ρ xs→dup (F.map (·.2.2.1))=false→(∀ f ∈ F,∀ f' ∈ F,f.1≠f'.1→gs f.1≠gs f'.1)→dup (F.map (·.1))=false →
  (∀ f ∈ F,c.A0 (gs f.1)∧Blk w (gs f.1) f.2.2.2.2.toArray f.2.2.2.1∧f.2.2.2.2.all (·.oneCell')=true∧c.n0≤gs f.1∧look f.2.1=some (.pointer (some ⟨gs f.1,0,none⟩))∧(∀ k h,hlk E k=some h→h.kill (only f.2.2.1)=h)∧cR (only f.2.2.1) st=st) →
  ∃ c' ρ' xs',Good c' ⟨bEn F E,bSt F st⟩ look w ρ' xs'∧c'.w0=c.w0∧c'.n0=c.n0∧c'.B=c.B∧(∀ b,c'.A0 b↔c.A0 b∧∀ f ∈ F,b≠gs f.1)∧(∀ b,c'.T b↔c.T b∨∃ f ∈ F,b=gs f.1)
|[],c,E,st,ρ,xs,G,_,_,_,_=>⟨c,ρ,xs,G,rfl,rfl,rfl,fun b=>by simp,fun b=>by simp⟩
|(i,d,id,t,z) :: r,c,E,st,ρ,xs,G,hd,hg,hh,H=>by
  obtain ⟨d1,d2⟩:=qYa hd;obtain ⟨e1,e2⟩:=qYa hh;obtain ⟨c',ρ',xs',G',w1,n1,b1,a1,t1⟩:=Good.births (gs:=gs) G d2 (fun f hf f' hf'=>hg f (List.mem_cons_of_mem _ hf) f' (List.mem_cons_of_mem _ hf')) e2 (fun f hf=>H f (List.mem_cons_of_mem _ hf))
  obtain ⟨h1,h2,h3,h4,h5,h6,h7⟩:=H _ (List.mem_cons_self ..);dsimp only at h1 h2 h3 h4 h5 h6 h7
  have hne:∀ f ∈ r,gs i≠gs f.1:=fun f hf=>hg _ (List.mem_cons_self ..) f (List.mem_cons_of_mem _ hf) fun e=>e1 f.1 (List.mem_map.2 ⟨f,hf,rfl⟩) e.symm
  have hid:∀ f ∈ r,only id f.2.2.1=false:=fun f hf=>nC (d1 f.2.2.1 (List.mem_map.2 ⟨f,hf,rfl⟩))
  have G2:=G'.birth (g:=gs i) (id:=id) (d:=d) ((a1 _).2 ⟨h1,hne⟩) h2 h3 (by rw [n1];exact h4) (qWd hid h6) (qWc h7 hid) h5
  refine ⟨_,_,_,G2,w1,n1,b1,fun b=>?_,fun b=>?_⟩
  ·show (c'.A0 b∧b≠gs i)↔_
   rw [a1 b];simp only [List.mem_cons,forall_eq_or_imp];exact ⟨fun ⟨⟨p,q⟩,s⟩=>⟨p,s,q⟩,fun ⟨p,s,q⟩=>⟨⟨p,q⟩,s⟩⟩
  ·show (c'.T b∨b=gs i)↔_
   rw [t1 b];simp only [List.mem_cons,exists_eq_or_imp];exact ⟨fun h=>by rcases h with (h|h)|h;exact .inl h;exact .inr (.inr h);exact .inr (.inl h),fun h=>by rcases h with h|h|h;exact .inl (.inl h);exact .inr h;exact .inl (.inr h)⟩
theorem zEh {ops:List Oper}:∀ {F:jE},FOk P ops F→∀ f ∈ F,(∃ o,ops[f.1]?=some o∧o.dst=some f.2.1∧o.guard=none∧o.op=.alloc f.2.2.2.1)∧dL P f.2.2.2.1=some f.2.2.2.2.toArray∧f.2.2.2.2.all (·.oneCell')=true
|[],_,f,hf=>by simp at hf
|(i,d,id,t,z) :: r,h,f,hf=>by
  obtain ⟨h1,h2,h3,h4⟩:=h
  rcases List.mem_cons.1 hf with rfl|hf
  ·refine ⟨?_,h2,h3⟩;dsimp only;split at h1
   ·rename_i o ho;exact ⟨o,ho,h1⟩
   ·exact h1.elim
  ·exact zEh h4 f hf
theorem qS7:∀ {F:jE} {E:aJ} {st:aB},qS8 F E st→∀ f ∈ F,(∀ k h,hlk E k=some h→h.kill (only f.2.2.1)=h)∧cR (only f.2.2.1) st=st
|[],E,st,_,f,hf=>by simp at hf
|(i,d,id,t,z) :: r,E,st,h,f,hf=>by
  obtain ⟨⟨h1,h2⟩,h3⟩:=h
  rcases List.mem_cons.1 hf with rfl|hf
  ·refine ⟨fun k x hx=>?_,h2⟩
   have:=jS (only id) E k
   rw [h1,hx] at this;simp only [Option.map_some,Option.some.injEq] at this;exact this.symm
  ·exact qS7 h3 f hf
theorem xJ (F:jE):∀ (l:List Oper) (a k:Nat),(fN F a l)[k]?=(l[k]?).map fun o=>bif inF F (a + k) then qSr o else o
|[],a,k=>by simp [fN]
|o :: r,a,0=>by simp [fN]
|o :: r,a,k + 1=>by
  simp only [fN,List.getElem?_cons_succ];rw [xJ F r (a + 1) k,show a + 1 + k=a + (k + 1) by omega]
theorem qNr (F:jE):∀ (l:List Oper) (a n:Nat),(fN F a l).take n=fN F a (l.take n)
|[],a,n=>by simp [fN]
|o :: r,a,0=>by simp [fN]
|o :: r,a,n + 1=>by simp [fN,qNr F r (a + 1) n]
theorem zF0 (o:Oper):(qSr o).dst=o.dst:=rfl
theorem qYb (o:Oper):(qSr o).after=o.after:=rfl
theorem oR (F:jE):∀ (l:List Oper) (a:Nat),bW (fN F a l)=bW l
|[],a=>rfl
|o :: r,a=>by
  have ih:=oR F r (a + 1)
  unfold bW at ih ⊢;simp only [fN,List.map_cons,ih]
  cases inF F a <;> rfl
theorem qG7 (F:jE) (l:List Oper) (i:Nat):aK (fN F 0 l) i=aK l i:=by
 unfold aK;rw [xJ,Nat.zero_add]
 cases l[i]? with
|none=>rfl
|some o=>cases h:inF F i <;> simp [h,zF0]
theorem wC (F:jE) (l:List Oper) (i j:Nat):eT (fN F 0 l) i j=eT l i j:=by
 unfold eT;rw [xJ,Nat.zero_add]
 cases l[i]? with
|none=>rfl
|some o=>cases h:inF F i <;> simp [h,qYb]
theorem jW (F:jE) (l:List Oper):∀ (f i j:Nat),qP (fN F 0 l) f i j=qP l f i j
|0,i,j=>wC F l i j
|f + 1,i,j=>by
  simp only [qP,wC,jW F l f]
def bA (c:Ctx) (F:jE) (L:Nat→Bool) (gs:Nat→Nat) (b:Nat):Prop:=c.A0 b∨∃ f ∈ F,L f.1=true∧b=gs f.1
theorem zNl {id:Nat} {ops:List Oper} (n:Nat) (W:Ws) (sts:List aB) (rg:Rg) (F:jE) (hm:P.follows .mixedOrders=true) (hok:qJu (bH S.env) ops n=true) (hwk:zL3 ops n W rg=true) (hfk:zTs N ops n W F=true) (hF:FOk P ops F) (hs0:sts.getD 0 []=S.st)
  (h:∀ K:HS→Prop,(∀ S',Q .normal S'→K S')→∀ K1:HS→Prop,(∀ S',kN (HV2 P N (bW ops) K (ops.drop n)) S'→K1 S')→HVc P N (bW ops) sts rg (fun E=>qS8 F E (sts.getD W.length [])∧K1 ⟨bEn F E,bSt F (sts.getD W.length [])⟩) (fN F 0 (ops.take n)) 0 0 [] W S.env):HW P N (.region id ops.toArray true) Q S:=fun c l w I=>by
 have hks:∀ k ∈ bH S.env,∃ v,lk l k=some v:=fun k hk=>by
  obtain ⟨x,hx⟩:=nV hk;obtain ⟨ρ,xs,G⟩:=I;obtain ⟨v,h1,-⟩:=G.env k x hx;exact ⟨v,h1⟩
 refine qFl (bH S.env) ?_
 have I':Inv c S (lk (keep (bH S.env) l)) w:=I.agree fun k x hk=>nE (sL hk)
 have hkk:pZ (keep (bH S.env) l)=bH S.env:=oJ hks
 generalize keep (bH S.env) l=l' at I' hkk;obtain ⟨ρ,xs,G⟩:=I'
 have ok:=vD hok
 have hw0:=qPr hwk
 have hw:WOk (fN F 0 ops) n W rg:=⟨hw0.lt,fun q hq=>by rw [wC];exact hw0.up q hq,fun i lo hi a b=>by rw [jW,jW];exact hw0.rg i lo hi a b⟩
 simp only [zTs,Bool.and_eq_true,Bool.not_eq_true',List.all_eq_true,List.mem_range,decide_eq_true_eq,bne_iff_ne] at hfk;obtain ⟨⟨⟨dh,di⟩,hfn⟩,hfs⟩:=hfk
 have hlen:(ops.take n).length=n:=by rw [List.length_take];have:=ok.hn;omega
 have hlen':(fN F 0 (ops.take n)).length=n:=by
  have h1:∀ (l:List Oper) (a:Nat),(fN F a l).length=l.length:=by
   intro l
   induction l with
  |nil=>intro a;rfl
  |cons o r ih=>intro a;simp [fN,ih]
  rw [h1,hlen]
 have hopt:∀ k o,(fN F 0 (ops.take n))[k]?=some o→(fN F 0 ops)[0 + k]?=some o:=fun k o hk=>by
  rw [Nat.zero_add]
  have hi:=(List.getElem?_eq_some_iff.1 hk).1
  rw [hlen'] at hi;rw [← qNr,List.getElem?_take_of_lt hi] at hk;exact hk
 have hv:=h (Q .normal) (fun _ h=>h) _ fun _ h=>h
 rw [← oR F ops 0] at hv;obtain ⟨hs,-,heads,E1,F1,hbk,h1⟩:=qFn (E0:=S.env) hw (fN F 0 (ops.take n)) 0 0 [] W S.env (fun _=>.junk) rfl rfl hopt (by rw [hlen'];omega) (fun q _=>by omega)
  (fun t x hx=>.inr ⟨fun j hj=>absurd hj (Nat.not_lt_zero _),x,hx,mU W x (Nat.le_refl _)⟩) (fun j hj=>absurd hj (Nat.not_lt_zero _)) hv
 rw [hlen',Nat.zero_add] at F1;rw [oR] at h1
 have head:∀ i o,i < n→ops[i]?=some o→inF F i=false→HeadC P N (fN F 0 ops) S.env sts hs (loF W rg) W i o:=fun i o hi ho hf=>by
  have:=heads i o (by
   rw [xJ,Nat.zero_add,List.getElem?_take_of_lt hi,ho];simp [hf])
  rw [Nat.zero_add] at this;exact this
 have birth:∀ i,inF F i=true→∃ f ∈ F,f.1=i:=fun i hi=>zCk.1 hi
 have bth:=zEh hF
 have uniq:∀ i j t,i < n→j < n→aK ops i=some t→aK ops j=some t→i=j:=by
  intro i j t hi hj h1 h2
  rcases Nat.lt_trichotomy i j with h|h|h
  ·rcases ok.uniq j i hj h with e|e
   ·rw [h2] at e;cases e
   ·exact absurd (h2.trans h1.symm) e
  ·exact h
  ·rcases ok.uniq i j hi h with e|e
   ·rw [h1] at e;cases e
   ·exact absurd (h1.trans h2.symm) e
 have hfdst:∀ f ∈ F,aK ops f.1=some f.2.1:=fun f hf=>by
  obtain ⟨⟨o,ho,hod,-⟩,-⟩:=bth f hf;unfold aK;rw [ho];exact hod
 have hlt:DLt N ops n:=fun i t hi hd=>by
  obtain ⟨o,ho,hod⟩:=oS hd
  cases hf:inF F i with
 |true =>
   obtain ⟨f,hfm,rfl⟩:=birth i hf
   have:=hfdst f hfm
   rw [hd] at this
   cases this
   exact (hfn f hfm).1.2
 |false =>
   have:=(head i o hi ho hf).lt
   rw [hod] at this;exact this
 let Jn:(Nat→Bool)→(Nat→Value)→World→Nat→(Nat→Value)→(Nat→List Value)→(Nat→Nat)→Prop:=fun L vs w1 m ρ xs gs=>m≤W.length∧(∀ q,q < W.length→(L (wAt W q)=true↔q < m))∧Kept c.T c.w0 w1∧w.heap.size≤w1.heap.size ∧
  (∀ id r b,rlk (sts.getD m []) id=some r→(ρ id).ownBlock=some b→c.w0.heap.size≤b∨c.T b) ∧
  (∀ f ∈ F,L f.1=true→vs f.1=.pointer (some ⟨gs f.1,0,none⟩)∧Blk w1 (gs f.1) f.2.2.2.2.toArray f.2.2.2.1∧w.heap.size≤gs f.1)∧(∀ f ∈ F,∀ f' ∈ F,f.1≠f'.1→L f.1=true→L f'.1=true→gs f.1≠gs f'.1) ∧
  (∃ hn1:c.n0≤w1.heap.size,Good ⟨w1,dP ρ (sts.getD m []),bA c F L gs,c.n0,hn1,c.B⟩ ⟨[],sts.getD m []⟩ (fun _=>none) w1 ρ xs) ∧
  (∀ t x,hlk S.env t=some x→∃ v,lk l' t=some v∧RepH w1 (fun b=>bA c F L gs b∨dP ρ (sts.getD m []) b) c.n0 ρ v (kk W x 0 m)) ∧
  (∀ j,j < n→L j=true→inF F j=false→RepH w1 (fun b=>bA c F L gs b∨dP ρ (sts.getD m []) b) c.n0 ρ (vs j) (kk W (hs j) (loF W rg j) m))
 -- what a frame reads
 have frame:∀ {L:Nat→Bool} {vs:Nat→Value} {w1:World} {m:Nat} {ρ:Nat→Value} {xs:Nat→List Value} {gs:Nat→Nat} {i M:Nat} {T:aJ} (hn1:c.n0≤w1.heap.size),Jn L vs w1 m ρ xs gs→Good ⟨w1,dP ρ (sts.getD m []),bA c F L gs,c.n0,hn1,c.B⟩ ⟨[],sts.getD m []⟩ (fun _=>none) w1 ρ xs→i≤n→m≤M→FrA (fN F 0 ops) S.env hs (loF W rg) W i M T →
   (∀ j t x,j < i→aK ops j=some t→hlk T t=some x→L j=true∧inF F j=false)→Good ⟨w1,dP ρ (sts.getD m []),bA c F L gs,c.n0,hn1,c.B⟩ ⟨T,sts.getD m []⟩ (lk (fU l' ops vs i)) w1 ρ xs:=fun {L vs w1 m ρ xs gs i M T} hn1 J GB hi hM FR hL=>by
  obtain ⟨-,-,-,-,-,-,-,-,JE,JH⟩:=J;refine ⟨GB.rows,GB.apart,fun k x hk=>?_,GB.kept,GB.a0⟩
  rcases FR k x hk with ⟨j,a,b,d⟩|⟨a,h0,b,d⟩
  ·rw [qG7] at b;obtain ⟨q1,q2⟩:=hL j k x a b hk;refine ⟨vs j,(jD (l:=l') (vs:=vs) hlt (base:=Array.replicate N undef) (by simp) b (fun q hq hne e=>hne (uniq q j k hq (by omega) e b)) i hi a).1,?_⟩
   rw [← d];exact qEt (JH j (by omega) q1 q2) M hM
  ·obtain ⟨v,v1,v2⟩:=JE k h0 b;refine ⟨v,by rw [(kK (l:=l') (vs:=vs) #[] k i (fun j hj=>by rw [← qG7 F];exact a j hj)).1];exact v1,?_⟩
   rw [← d];exact qEt v2 M hM
 have hw0s:=G.kept.size
 refine qYs (bH S.env) n hm hkk hok hlt (J:=fun L vs w1=>∃ m ρ xs gs,Jn L vs w1 m ρ xs gs) ⟨0,ρ,xs,fun _=>0,Nat.zero_le _,fun q _=>by simp,?_,Nat.le_refl _,?_,(fun f _ hf=>(by cases hf)),(fun f _ f' _ _ hf=>(by cases hf)),⟨Nat.le_trans c.hn hw0s,?_⟩,fun t x hx=>?_,(fun j _ hj=>(by cases hj))⟩ ?_ ?_
 ·exact (G.below (Below.refl _ _).drew).kept
 ·rw [hs0];exact fun id r b hr hb=>((G.rows id r hr).new b hb).1
 ·have G2:=G.below (Below.refl _ _).drew
  rw [hs0]
  have G3:Good c ⟨[],S.st⟩ (fun _=>none) w.drew ρ xs:=⟨G2.rows,G2.apart,fun k x hk=>by simp [hlk] at hk,G2.kept,G2.a0⟩
  refine G3.anew (Below.refl _ _) rfl rfl (fun b _ hb=>?_) (fun b hb=>?_) (Kept.refl _ _) (fun id r b hr hb=>.inr ⟨id,r,hr,hb⟩)
  ·rcases hb with hb|⟨f,-,hf,-⟩
   ·exact hb
   ·cases hf
  ·have hb0:c.A0 b:=by
    rcases hb with hb|⟨f,-,hf,-⟩
    ·exact hb
    ·cases hf
   obtain ⟨a1,a2⟩:=G.a0 b hb0;refine ⟨by show b < w.heap.size;omega,fun ⟨id,r,hr,hb2⟩=>?_⟩
   rcases ((G.rows id r hr).new b hb2).1 with h|h
   ·omega
   ·exact a2 h
 ·obtain ⟨v,a,b⟩:=(G.below (Below.refl _ _).drew).env t x hx;rw [hs0,mU W x (Nat.le_refl _)];refine ⟨v,a,b.up (Nat.le_refl _) (fun _ _ _=>rfl) (fun b _ hb=>?_) (Nat.le_refl _)⟩
  rcases hb with (hb|⟨f,-,hf,-⟩)|hb
  ·exact .inl hb
  ·cases hf
  ·exact .inr hb
 ·rintro i o hi ho L vs w1 ⟨m,ρ1,xs1,gs,J⟩ hLi hE hdn
  cases hfi:inF F i with
 |true =>
   obtain ⟨f,hfm,rfl⟩:=birth i hfi;obtain ⟨⟨o',ho',hod,hgd,hop⟩,hz,hz1⟩:=bth f hfm;rw [ho] at ho'
   cases ho'
   obtain ⟨j1,j2,j3,j4,j5,j6,j7,⟨hn1,j8⟩,j9,j10⟩:=J;refine ⟨true,by rw [hgd];rfl,fun _=>?_,fun e=>by cases e⟩
   have hB:Below w1.heap.size w1 (w1.alloc (.cells f.2.2.2.2.toArray f.2.2.2.1)):=(Below.refl _ _).alloc (Nat.le_refl _) _
   have hgl:∀ f' ∈ F,L f'.1=true→f'.1≠f.1∧gs f'.1 < w1.heap.size:=fun f' hf' hL=>⟨fun e=>(by rw [e,hLi] at hL;cases hL),(j6 f' hf' hL).2.1.lt⟩
   have hbA:∀ b,b < w1.heap.size→bA c F (fun j=>if j=f.1 then true else L j) (fun j=>if j=f.1 then w1.heap.size else gs j) b→bA c F L gs b:=by
    rintro b hb (h0|⟨f',hf',hL,rfl⟩)
    ·exact .inl h0
    ·dsimp only at hb hL ⊢
     by_cases e:f'.1=f.1
     ·rw [if_pos e] at hb;omega
     ·rw [if_neg e] at hL ⊢;exact .inr ⟨f',hf',hL,rfl⟩
   have hAA:∀ b,b < w1.heap.size→(bA c F (fun j=>if j=f.1 then true else L j) (fun j=>if j=f.1 then w1.heap.size else gs j) b∨dP ρ1 (sts.getD m []) b)→(bA c F L gs b∨dP ρ1 (sts.getD m []) b):=fun b hb h=>h.imp (hbA b hb) _root_.id
   refine (jG (K:=fun u w2=>u=.pointer (some ⟨w1.heap.size,0,none⟩)∧w2=w1.alloc (.cells f.2.2.2.2.toArray f.2.2.2.1)) (l:=fU l' ops vs f.1) (fun x X hx=>by simp [evD,hx]) ?_).mono fun u w2 ⟨e1,e2⟩=>?_
   ·rw [hop];unfold aR;simp only [aH,bL,hz];exact ⟨trivial,trivial⟩
   subst e1;subst e2;refine ⟨m,ρ1,xs1,fun j=>if j=f.1 then w1.heap.size else gs j,j1,fun q hq=>?_,⟨j3.os,j3.tape,j3.output,Nat.le_trans j3.size hB.size,fun b hlt hn=>(hB.block b (by have:=j3.size;omega)).trans (j3.block b hlt hn)⟩,Nat.le_trans j4 hB.size,j5,fun f' hf' hL=>?_,fun f1 h1 f2 h2 hne hL1 hL2=>?_,⟨Nat.le_trans hn1 hB.size,?_⟩,fun t x hx=>?_,fun j hj hjL hjf=>?_⟩
   ·dsimp only;rw [if_neg ((hfn f hfm).2 q hq)];exact j2 q hq
   ·dsimp only at hL ⊢
    by_cases e:f'.1=f.1
    ·have:f'=f:=by
      obtain ⟨a,ha⟩:=List.getElem?_of_mem hf';obtain ⟨b,hb⟩:=List.getElem?_of_mem hfm
      have:=qBv (i:=a) (j:=b) (a:=f.1) dh (by rw [List.getElem?_map,ha];simp [e]) (by rw [List.getElem?_map,hb];rfl)
      subst this;rw [ha] at hb;exact Option.some.inj hb
     subst this;rw [if_pos rfl,if_pos rfl];exact ⟨rfl,Blk.new _ _ _,j4⟩
    ·rw [if_neg e] at hL;rw [if_neg e,if_neg e];obtain ⟨a,b,d⟩:=j6 f' hf' hL;exact ⟨a,b.up hB,d⟩
   ·dsimp only at hL1 hL2 ⊢
    by_cases e1:f1.1=f.1
    ·by_cases e2:f2.1=f.1
     ·exact absurd (e1.trans e2.symm) hne
     ·rw [if_neg e2] at hL2;rw [if_pos e1,if_neg e2]
      have:=(hgl f2 h2 hL2).2;omega
    ·rw [if_neg e1] at hL1
     by_cases e2:f2.1=f.1
     ·rw [if_neg e1,if_pos e2]
      have:=(hgl f1 h1 hL1).2;omega
     ·rw [if_neg e2] at hL2;rw [if_neg e1,if_neg e2];exact j7 f1 h1 f2 h2 hne hL1 hL2
   ·refine j8.anew hB rfl rfl hbA (fun b hb=>?_) (Kept.refl _ _) (fun id r b hr hb=>.inr ⟨id,r,hr,hb⟩)
    by_cases hlt:b < w1.heap.size
    ·obtain ⟨a1,a2⟩:=j8.a0 b (hbA b hlt hb);exact ⟨Nat.lt_of_lt_of_le hlt hB.size,a2⟩
    ·rcases hb with hb|⟨f',hf',hL,rfl⟩
     ·have:=(j8.a0 b (.inl hb)).1
      exact absurd this hlt
     ·dsimp only at hL hlt ⊢
      have e:f'.1=f.1:=Classical.byContradiction fun e=>by
       rw [if_neg e] at hL;rw [if_neg e] at hlt;exact hlt (hgl f' hf' hL).2
      rw [if_pos e];exact ⟨(Blk.new w1 f.2.2.2.2.toArray f.2.2.2.1).lt,fun ⟨id,r,hr,hb2⟩=>by have:=j8.lt hr hb2;omega⟩
   ·obtain ⟨v,a,b⟩:=j9 t x hx;exact ⟨v,a,b.up hB.size (fun b hlt _=>hB.block b hlt) hAA (Nat.le_refl _)⟩
   ·dsimp only at hjL ⊢
    have hne:j≠f.1:=fun e=>by rw [e,hfi] at hjf;cases hjf
    rw [if_neg hne] at hjL ⊢;exact (j10 j hj hjL hjf).up hB.size (fun b hlt _=>hB.block b hlt) hAA (Nat.le_refl _)
 |false =>
  have H:=head i o hi ho hfi
  obtain ⟨T,TS,HT⟩:=H.head;rw [oR] at TS
  have hTL:∀ j t x,j < i→aK ops j=some t→hlk T t=some x→L j=true∧inF F j=false:=fun j t x hj hd hx=>by
   refine ⟨hE j (by
    rcases (ok.looks i o t hi ho (qCw (TS t x hx))).1 j (by omega) hd with h|h
    ·exact h.2
    ·have:=qSp ok h;omega),?_⟩
   cases hf:inF F j with
  |false=>rfl
  |true =>
    obtain ⟨f,hfm,rfl⟩:=birth j hf
    have h1:=hfdst f hfm
    rw [hd] at h1
    cases h1
    have h2:=hfs i hi
    rw [ho] at h2;simp only [List.all_eq_true,bne_iff_ne] at h2;exact absurd rfl (h2 _ (TS _ x hx) f hfm)
  have hfne:∀ f ∈ F,f.1≠i:=fun f hf e=>by rw [zCk.2 ⟨f,hf,e⟩] at hfi;cases hfi
  have J0:=J
  obtain ⟨j1,j2,j3,j4,j5,j6,j7,⟨hn1,j8⟩,j9,j10⟩:=J
  have hbL:∀ b,bA c F (fun j=>if j=i then true else L j) gs b↔bA c F L gs b:=fun b=>by
   have:∀ f ∈ F,(if f.1=i then true else L f.1)=L f.1:=fun f hf=>if_neg (hfne f hf)
   constructor
   ·rintro (h|⟨f,hf,hL,e⟩)
    ·exact .inl h
    ·dsimp only at hL;rw [this f hf] at hL;exact .inr ⟨f,hf,hL,e⟩
   ·rintro (h|⟨f,hf,hL,e⟩)
    ·exact .inl h
    ·refine .inr ⟨f,hf,?_,e⟩;dsimp only;rw [this f hf];exact hL
  rcases HT with ⟨q,hq,hqi,hlo,hgd,FT,hS⟩|⟨hno,hi',hh1,hh2,hh3,hh4,FT,hrun⟩
  ·have hmq:m=q:=by
    have a:¬ q < m:=fun e=>by have:=(j2 q hq).2 e;rw [hqi,hLi] at this;cases this
    rcases Nat.eq_zero_or_pos q with e|e
    ·omega
    ·obtain ⟨p,rfl⟩:∃ p,q=p + 1:=⟨q - 1,by omega⟩
     have e2:=(hw0.up p hq).2
     rw [hqi] at e2
     have:=(j2 p (by omega)).1 (hE _ e2)
     omega
   subst hmq
   have GT:=frame hn1 J0 j8 (by omega) (Nat.le_refl _) FT hTL
   refine ⟨true,by rw [hgd];rfl,fun _=>?_,fun e=>by cases e⟩
   refine (jG (fun x X hx=>by simp [evD,hx]) (hS _ _ w1 ρ1 xs1 GT)).mono fun u w2 ⟨ρ2,xs2,G2,r2,tr⟩=>?_
   have K2:=G2.kept
   have K2s:w1.heap.size≤w2.heap.size:=K2.size
   have hnew:∀ id r b,rlk (sts.getD (m + 1) []) id=some r→(ρ2 id).ownBlock=some b→w1.heap.size≤b∨dP ρ1 (sts.getD m []) b:=fun id r b hr hb=>((G2.rows id r hr).new b hb).1
   have hAA:∀ b,(bA c F (fun j=>if j=i then true else L j) gs b∨dP ρ2 (sts.getD (m + 1) []) b)→(bA c F L gs b∨dP ρ2 (sts.getD (m + 1) []) b):=fun b h=>h.imp (hbL b).1 _root_.id
   have cv:∀ v x,RepH w2 (fun b=>bA c F L gs b∨dP ρ2 (sts.getD (m + 1) []) b) c.n0 ρ2 v x→RepH w2 (fun b=>bA c F (fun j=>if j=i then true else L j) gs b∨dP ρ2 (sts.getD (m + 1) []) b) c.n0 ρ2 v x:=fun v x h=>h.up (Nat.le_refl _) (fun _ _ _=>rfl) (fun b _=>hAA b) (Nat.le_refl _)
   refine ⟨m + 1,ρ2,xs2,gs,hq,fun p hp=>?_,?_,Nat.le_trans j4 K2s,?_,fun f hf hL=>?_,fun f hf f' hf' hne hL hL'=>?_,⟨Nat.le_trans hn1 K2s,?_⟩,fun t x hx=>?_,fun j hj hjL hjf=>?_⟩
   ·dsimp only
    by_cases e:wAt W p=i
    ·rw [if_pos e]
     have:p=m:=by
      rcases Nat.lt_trichotomy p m with h|h|h
      ·have:=hw0.mono h hq;omega
      ·exact h
      ·have:=hw0.mono h hp;omega
     simp;omega
    ·rw [if_neg e,j2 p hp]
     have:p≠m:=fun e2=>e (by rw [e2];exact hqi)
     omega
   ·refine j3.trans K2 fun k hk hT=>?_
    obtain ⟨id,r,hr,hb⟩:=hT
    rcases j5 id r k hr hb with h|h
    ·omega
    ·exact h
   ·intro id r b hr hb
    rcases hnew id r b hr hb with h|⟨id',r',hr',hb'⟩
    ·have:=j3.size;exact .inl (by omega)
    ·exact j5 id' r' b hr' hb'
   ·dsimp only at hL ⊢;rw [if_neg (hfne f hf)] at hL ⊢;obtain ⟨a,b,d⟩:=j6 f hf hL;obtain ⟨a1,a2⟩:=j8.a0 (gs f.1) (.inr ⟨f,hf,hL,rfl⟩);refine ⟨a,?_,d⟩;unfold Blk;rw [K2.block _ a1 a2];exact b
   ·dsimp only at hL hL';rw [if_neg (hfne f hf)] at hL;rw [if_neg (hfne f' hf')] at hL';exact j7 f hf f' hf' hne hL hL'
   ·refine G2.anew (Below.refl _ _) rfl rfl (fun b _ hb=>(hbL b).1 hb) (fun b hb=>?_) (Kept.refl _ _) (fun id r b hr hb=>.inr ⟨id,r,hr,hb⟩)
    obtain ⟨a1,a2⟩:=G2.a0 b ((hbL b).1 hb);refine ⟨Nat.lt_of_lt_of_le a1 K2s,fun ⟨id,r,hr,hb2⟩=>?_⟩
    rcases hnew id r b hr hb2 with h|h
    ·have:b < w1.heap.size:=a1
     omega
    ·exact a2 h
   ·obtain ⟨v,a,b⟩:=j9 t x hx;refine ⟨v,a,?_⟩;rw [pY W x (Nat.zero_le _)];exact cv _ _ (tr _ _ b)
   ·dsimp only at hjL ⊢
    by_cases e:j=i
    ·subst e;rw [if_pos rfl,hlo,mU W _ (Nat.le_refl _)];exact cv _ _ r2
    ·rw [if_neg e] at hjL ⊢
     have hle:loF W rg j≤m:=by
      obtain ⟨oj,hoj⟩:∃ oj,ops[j]?=some oj:=⟨_,List.getElem?_eq_getElem (by have:=ok.hn;omega)⟩
      obtain ⟨Tj,-,HTj⟩:=(head j oj hj hoj hjf).head
      rcases HTj with ⟨q2,hq2,hqi2,hlo2,-⟩|⟨-,_,-,-,hh3,hh4,-⟩
      ·have:=(j2 q2 hq2).1 (by rw [hqi2];exact hjL)
       omega
      ·rcases hh3 with e2|e2
       ·omega
       ·rw [jW] at e2
        have h1:=sT hdn e2 hjL
        rcases Nat.eq_zero_or_pos (loF W rg j) with e3|e3
        ·omega
        ·have:=(j2 (loF W rg j - 1) (by omega)).1 h1
         omega
     rw [pY W _ hle];exact cv _ _ (tr _ _ (j10 j hj hjL hjf))
  ·have hlm:loF W rg i≤m:=by
    rcases hh3 with e|e
    ·omega
    ·rw [jW] at e
     have h1:=qSq hdn hE e
     rcases Nat.eq_zero_or_pos (loF W rg i) with e3|e3
     ·omega
     ·have:=(j2 (loF W rg i - 1) (by omega)).1 h1
      omega
   have hmh:m≤hi':=by
    rcases hh2 with e|e
    ·omega
    ·rcases Nat.lt_or_ge hi' m with h|h
     ·rw [jW] at e
      have h1:=(j2 hi' (by omega)).2 h
      have:=sT hdn e h1
      rw [hLi] at this;cases this
     ·exact h
   have GT:=frame hn1 J0 j8 (by omega) hmh FT hTL
   obtain ⟨b,b1,b2,b3⟩:=hrun m hlm hmh _ _ w1 ρ1 xs1 GT;rw [oR] at b1
   have step:∀ (u:Value) (w2:World),RepH w2 (fun b=>bA c F L gs b∨dP ρ1 (sts.getD m []) b) c.n0 ρ1 u (hs i)→Below w1.heap.size w1 w2→∃ m ρ xs gs,Jn (fun j=>if j=i then true else L j) (fun j=>if j=i then u else vs j) w2 m ρ xs gs:=by
    intro u w2 hu hB
    have hAA:∀ b,b < w1.heap.size→(bA c F (fun j=>if j=i then true else L j) gs b∨dP ρ1 (sts.getD m []) b)→(bA c F L gs b∨dP ρ1 (sts.getD m []) b):=fun b _ h=>h.imp (hbL b).1 _root_.id
    refine ⟨m,ρ1,xs1,gs,j1,fun q hq=>?_,⟨j3.os.symm ▸ hB.os,j3.tape.symm ▸ hB.tape,j3.output.symm ▸ hB.output,Nat.le_trans j3.size hB.size,fun b hlt hn=>(hB.block b (by have:=j3.size;omega)).trans (j3.block b hlt hn)⟩,Nat.le_trans j4 hB.size,j5,fun f hf hL=>?_,fun f hf f' hf' hne hL hL'=>?_,⟨Nat.le_trans hn1 hB.size,?_⟩,fun t x hx=>?_,fun j hj hjL hjf=>?_⟩
    ·dsimp only;rw [if_neg (hno q hq)];exact j2 q hq
    ·dsimp only at hL ⊢;rw [if_neg (hfne f hf)] at hL ⊢;obtain ⟨a,b,d⟩:=j6 f hf hL;exact ⟨a,b.up hB,d⟩
    ·dsimp only at hL hL';rw [if_neg (hfne f hf)] at hL;rw [if_neg (hfne f' hf')] at hL';exact j7 f hf f' hf' hne hL hL'
    ·refine j8.anew hB rfl rfl (fun b _ hb=>(hbL b).1 hb) (fun b hb=>?_) (Kept.refl _ _) (fun id r b hr hb=>.inr ⟨id,r,hr,hb⟩)
     obtain ⟨a1,a2⟩:=j8.a0 b ((hbL b).1 hb);exact ⟨Nat.lt_of_lt_of_le a1 hB.size,a2⟩
    ·obtain ⟨v,a,b⟩:=j9 t x hx;exact ⟨v,a,b.up hB.size (fun b hlt _=>hB.block b hlt) hAA (Nat.le_refl _)⟩
    ·dsimp only at hjL ⊢
     by_cases e:j=i
     ·subst e;rw [if_pos rfl];refine qEt (m:=loF W rg j) ?_ m hlm;rw [mU W _ (Nat.le_refl _)];exact hu.up (Nat.le_refl _) (fun _ _ _=>rfl) (fun b _ h=>h.imp (hbL b).1 _root_.id) (Nat.le_refl _)
     ·rw [if_neg e] at hjL ⊢;exact (j10 j hj hjL hjf).up hB.size (fun b hlt _=>hB.block b hlt) hAA (Nat.le_refl _)
   refine ⟨b,b1,fun hb=>?_,fun hb=>?_⟩
   ·exact (jG (fun x X hx=>by simp [evD,hx]) (b2 hb)).mono fun u w2 ⟨hu,hB⟩=>step u w2 hu hB
   ·refine step undef w1 ?_ (Below.refl _ _);rw [b3 hb];exact .v _
 ·rintro L vs w1 ⟨m,ρ1,xs1,gs,J⟩ hall
  have hmr:m=W.length:=by
   obtain ⟨j1,j2,-⟩:=J
   rcases Nat.lt_or_ge m W.length with h|h
   ·have:=(j2 m h).1 (hall _ (hw0.lt m h));omega
   ·omega
  subst hmr
  have J0:=J
  obtain ⟨j1,j2,j3,j4,j5,j6,j7,⟨hn1,j8⟩,j9,j10⟩:=J
  have hin:∀ f ∈ F,L f.1=true:=fun f hf=>hall _ (hfn f hf).1.1
  have FO:FrA (fN F 0 ops) S.env hs (loF W rg) W n W.length (zH6 F E1):=F1.env fun t x hx=>by
   rw [vV] at hx;split at hx
   ·cases hx
   ·exact hx
  have G2:=frame hn1 J0 j8 (Nat.le_refl _) (Nat.le_refl _) FO fun j t x hj hd hx=>by
   refine ⟨hall j hj,?_⟩
   cases hf:inF F j with
  |false=>rfl
  |true =>
    obtain ⟨f,hfm,rfl⟩:=birth j hf
    have h1:=hfdst f hfm
    rw [hd] at h1
    cases h1
    rw [vV,if_pos (show inD F f.2.1=true from List.any_eq_true.2 ⟨f,hfm,by simp⟩)] at hx
    cases hx
  have bk:=qS7 hbk
  obtain ⟨c',ρ',xs',G3,w3,n3,b3,a3,t3⟩:=Good.births (gs:=gs) (F:=F) G2 di (fun f hf f' hf' hne=>j7 f hf f' hf' hne (hin f hf) (hin f' hf')) dh (fun f hf=>by
   obtain ⟨p1,p2,p3⟩:=j6 f hf (hin f hf);refine ⟨.inr ⟨f,hf,hin f hf,rfl⟩,p2,(bth f hf).2.2,by have:=c.hn;show c.n0≤gs f.1;omega,?_,fun k h hk=>?_,(bk f hf).2⟩
   ·rw [(jD (l:=l') (vs:=vs) hlt (base:=Array.replicate N undef) (by simp) (hfdst f hf) (fun q hq hne e=>hne (uniq q f.1 _ hq (hfn f hf).1.1 e (hfdst f hf))) n (Nat.le_refl _) (hfn f hf).1.1).1,p1]
   ·rw [vV] at hk;split at hk
    ·cases hk
    ·exact (bk f hf).1 k h hk)
  have G4:Good c ⟨bEn F (zH6 F E1),bSt F (sts.getD W.length [])⟩ (lk (fU l' ops vs n)) w1 ρ' xs':=by
   refine G3.anew (Below.refl _ _) (by rw [n3]) (by rw [b3]) (fun b _ hb=>(a3 b).2 ⟨.inl hb,fun f hf e=>?_⟩) G.a0 j3 (fun id r b hr hb=>?_)
   ·have:=(G.a0 b hb).1
    have:=(j6 f hf (hin f hf)).2.2
    omega
   ·rcases ((G3.rows id r hr).new b hb).1 with h|h
    ·rw [w3] at h
     have:=j3.size
     exact .inl (by have h:w1.heap.size≤b:=h;omega)
    ·rcases (t3 b).1 h with ⟨id',r',hr',hb'⟩|⟨f,hf,rfl⟩
     ·exact j5 id' r' b hr' hb'
     ·have:=(j6 f hf (hin f hf)).2.2
      exact .inl (by omega)
  have G5:Good c ⟨bEn F E1,bSt F (sts.getD W.length [])⟩ (lk (fU l' ops vs n)) w1 ρ' xs':=by
   refine ⟨G4.rows,G4.apart,fun k x hk=>?_,G4.kept,G4.a0⟩
   refine G4.env k x (zM0 F (fun k x hk hx=>?_) k x hk)
   rw [vV,if_neg (by rw [hk];decide)];exact hx
  exact HW_drw.V2.mono' (qB4 _ _ _ _ h1 ⟨ρ',xs',G5⟩) fun l2 w2 h2=>h2
end
theorem qHp (i:Nat):inF [] i=false:=nrc rfl
theorem qCy (a:Nat) (x:Nat × Nat × TypeId × List Value) (r:jE) (i:Nat):inF ((a,x) :: r) i=(a == i || inF r i):=nrc rfl
theorem xH (F:jE) (i:Nat):fN F i []=[]:=nrc rfl
theorem uF (F:jE) (i:Nat) (o:Oper) (r:List Oper):fN F i (o :: r)=(bif inF F i then qSr o else o) :: fN F (i + 1) r:=nrc rfl
theorem qDf (d:Option Nat) (op:Op) (ty:TypeId) (p:String) (a:Array Edge) (g:Option (Nat × Bool)):qSr ⟨d,op,ty,p,a,g⟩=⟨d,.move (.const (.bool false)),ty,p,a,g⟩:=nrc rfl
theorem qHv (st:aB):bSt [] st=st:=nrc rfl
theorem qDt (a d id:Nat) (t:TypeId) (z:List Value) (r:jE) (st:aB):bSt ((a,d,id,t,z) :: r) st=(id,.bx true t (z.map .v)) :: bSt r st:=nrc rfl
theorem qHw (E:aJ):bEn [] E=E:=nrc rfl
theorem qDu (a d id:Nat) (t:TypeId) (z:List Value) (r:jE) (E:aJ):bEn ((a,d,id,t,z) :: r) E=(d,.ptr id z.length 0 0) :: bEn r E:=nrc rfl
theorem xP (E:aJ) (st:aB):qS8 [] E st=True:=nrc rfl
theorem uK (a d id:Nat) (t:TypeId) (z:List Value) (r:jE) (E:aJ) (st:aB):qS8 ((a,d,id,t,z) :: r) E st=((gZ (only id) E=E∧cR (only id) st=st)∧qS8 r E st):=nrc rfl
end Go.Eng
