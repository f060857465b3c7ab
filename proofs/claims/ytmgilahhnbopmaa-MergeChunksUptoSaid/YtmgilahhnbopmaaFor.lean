/-
  Leaves: rows that are no longer written for a while, each still alone in its block (any number of them); code over values with leaves beside.
-/
import Derived.Test.YtmgilahhnbopmaaGc
import Derived.Test.YtmgilahhnbopmaaApe
set_option linter.unusedSimpArgs false
set_option linter.unusedVariables false
namespace Go.Eng
open Go Go.RowKit
structure Leaf where
 v:Value
 ty:Nat
 sz:Nat
 n:Nat
 xs:List Value
def qF8 (F:List Leaf) (b:Nat):Prop:=∃ f ∈ F,f.v.ownBlock=some b
structure Sub (c c1:Ctx) (F:List Leaf) (w:World):Prop where
 n0:c1.n0=c.n0
 B:c1.B=c.B
 kept:Kept c.T c.w0 c1.w0
 T:∀ b,c1.T b→c.w0.heap.size≤b∨c.T b
 A:∀ b,c.A0 b→c1.A0 b
 L:∀ b,qF8 F b→c1.A0 b∧(c.w0.heap.size≤b∨c.T b)∧c.n0≤b
 own:∀ f ∈ F,Own w 0 f.ty f.sz f.v f.n f.xs
 nod:F.Pairwise fun f g=>∀ b,f.v.ownBlock=some b→g.v.ownBlock=some b→False
def InvF (c:Ctx) (F:List Leaf) (S:HS) (look:Nat→Option Value) (w:World):Prop:=∃ c1,Sub c c1 F w∧Inv c1 S look w
abbrev xY:=Exit→List Leaf→HS→Prop
def FQ (c:Ctx) (Q:xY):qB5:=fun e l w=>∃ F S,InvF c F S (lk l) w∧Q e F S
def HWF (P:Program) (N:Nat) (x:Code) (Q:xY) (F:List Leaf) (S:HS):Prop:=∀ (c:Ctx) (l:Env) (w:World),InvF c F S (lk l) w→W P N x (FQ c Q) l w
def qV7 (K:List Leaf→HS→Prop) (Q:xY):xY
|.normal,F,S=>K F S
|e,F,S=>Q e F S
def qG0 (id:Nat) (Q:xY):xY
|.exit id',F,S=>if id'=id then Q .normal F S else Q (.exit id') F S
|e,F,S=>Q e F S
section
variable {P:Program} {N:Nat} {c c1:Ctx} {F F':List Leaf} {S S':HS} {Q Q':xY} {l:Env} {look look':Nat→Option Value} {w w':World} {ρ:Nat→Value} {xs:Nat→List Value}
theorem Sub.same (h:Sub c c1 F w) (hb:∀ b,qF8 F b→w'.heap[b]?=w.heap[b]?):Sub c c1 F w' :=
 ⟨h.n0,h.B,h.kept,h.T,h.A,h.L,fun f hf=>(h.own f hf).block fun b hb'=>hb b ⟨f,hf,hb'⟩,h.nod⟩
theorem Sub.go (h:Sub c c1 F w) (I:Inv c1 S look w) (I':Inv c1 S' look' w'):Sub c c1 F w':=by
 obtain ⟨ρ,xs,G⟩:=I;obtain ⟨ρ',xs',G'⟩:=I';refine h.same fun b hb=>?_
 obtain ⟨h1,h2⟩:=G.a0 b (h.L b hb).1;rw [G'.kept.block b h1 h2,G.kept.block b h1 h2]
theorem InvF.of (I:Inv c S look w):InvF c [] S look w :=
 ⟨c,⟨rfl,rfl,Kept.refl _ _,fun b h=>.inr h,fun b h=>h,fun b ⟨f,hf,_⟩=>by simp at hf,fun f hf=>by simp at hf,List.Pairwise.nil⟩,I⟩
theorem Sub.good (h:Sub c c1 F w) (G:Good c1 S look w ρ xs) (ha:∀ b,c.A0 b→b < c.w0.heap.size∧¬ c.T b):Good c S look w ρ xs:=by
 have hA:∀ b,c.A ρ S.st b→c1.A ρ S.st b:=by
  rintro b (h0|h0)
  ·exact .inl (h.A b h0)
  ·exact .inr h0
 refine ⟨fun id r hr=>?_,G.apart,fun k x hk=>?_,h.kept.trans G.kept fun b hb ht=>?_,ha⟩
 ·have R:=(G.rows id r hr).up (Nat.le_refl _) (fun _ _ _=>rfl) (fun b _=>hA b) (fun _ _=>rfl)
  refine R.ctx h.n0.symm h.B.symm fun b hb=>?_
  rcases (R.new b hb).1 with h1|h1
  ·have:=h.kept.size;exact .inl (by omega)
  ·exact h.T b h1
 ·obtain ⟨v,h1,h2⟩:=G.env k x hk;exact ⟨v,h1,h2.up (Nat.le_refl _) (fun _ _ _=>rfl) (fun b _=>hA b) (by rw [h.n0];exact Nat.le_refl _)⟩
 ·rcases h.T b ht with h1|h1
  ·omega
  ·exact h1
theorem HWF.mono {x:Code} (h:HWF P N x Q F S) (hq:∀ e F S,Q e F S→Q' e F S):HWF P N x Q' F S :=
 fun c l w I=>(h c l w I).mono fun e l' w' ⟨F',S',I',q⟩=>⟨F',S',I',hq e F' S' q⟩
theorem bD {x:Code} (h:HW P N x (fun e S'=>Q e F S') S):HWF P N x Q F S:=fun c l w ⟨c1,hs,I⟩ =>
 (h c1 l w I).mono fun e l' w' ⟨S',I',q⟩=>⟨F,S',⟨c1,hs.go I I',I'⟩,q⟩
theorem aP {x y:Code} (h:HWF P N x (qV7 (fun F S=>HWF P N y Q F S) Q) F S):HWF P N (.seq x y) Q F S:=fun c l w I =>
 bM ((h c l w I).mono fun e l' w' ⟨F',S',I',q⟩=>by
  cases e with
 |normal=>exact q c l' w' I'
 |_=>exact ⟨F',S',I',q⟩)
theorem eM {id:Nat} {x:Code} (h:HWF P N x (qG0 id Q) F S):HWF P N (.block id x) Q F S:=fun c l w I =>
 gH ((h c l w I).mono fun e l' w' ⟨F',S',I',q⟩=>by
  cases e with
 |exit id' =>
   simp only [qYm];simp only [qG0] at q;split
   ·rename_i e;rw [if_pos e] at q;exact ⟨F',S',I',q⟩
   ·rename_i e;rw [if_neg e] at q;exact ⟨F',S',I',q⟩
 |_=>exact ⟨F',S',I',q⟩)
theorem zGe {x:Operand} {a b:Code} {t:Bool} (hx:hev S.env x=some (.v (.bool t))) (ht:t=true→HWF P N a Q F S) (hf:t=false→HWF P N b Q F S):HWF P N (.cond x a b) Q F S:=fun c l w ⟨c1,hs,I⟩=>by
 obtain ⟨ρ,xs,G⟩:=I;obtain ⟨v,h1,h2⟩:=G.ev (cD _ l) hx
 have:=cW h2
 subst this;exact iV h1 (fun e=>ht e c l w ⟨c1,hs,ρ,xs,G⟩) (fun e=>hf e c l w ⟨c1,hs,ρ,xs,G⟩)
theorem qW2 {x:Operand} {a b:Code} (hx:hev S.env x=some (.v (.bool true))) (ht:HWF P N a Q F S):HWF P N (.cond x a b) Q F S:=zGe hx (fun _=>ht) (fun h=>by cases h)
theorem iJ (h:Q .normal F S):HWF P N .skip Q F S:=fun c l w I=>iU ⟨F,S,I,h⟩
theorem xR (h:Q .ret F S):HWF P N .ret Q F S:=fun c l w I=>qG4 ⟨F,S,I,h⟩
theorem qW4 {id:Nat} (h:Q (.exit id) F S):HWF P N (.exit id) Q F S:=fun c l w I=>sL ⟨F,S,I,h⟩
theorem aC {K:List Leaf→HS→Prop} (h:K F S):qV7 K Q .normal F S:=h
theorem vV {K:List Leaf→HS→Prop} (h:Q .ret F S):qV7 K Q .ret F S:=h
theorem nR {K:List Leaf→HS→Prop} {id:Nat} (h:Q (.exit id) F S):qV7 K Q (.exit id) F S:=h
theorem cG {id:Nat} (h:Q .normal F S):qG0 id Q .normal F S:=h
theorem vX {id:Nat} (h:Q .ret F S):qG0 id Q .ret F S:=h
theorem nS {id:Nat} (h:Q .normal F S):qG0 id Q (.exit id) F S:=by simp only [qG0,if_true];exact h
theorem qGz {id id':Nat} (hne:(id' == id)=false) (h:Q (.exit id') F S):qG0 id Q (.exit id') F S:=by simp only [qG0];rw [if_neg (by simpa using hne)];exact h
theorem iW {x:Code} (ks ids:List Nat) {S':HS} (he:S.keep ks ids=S') (h:HWF P N x Q F S'):HWF P N x Q F S:=fun c l w ⟨c1,hs,I⟩=>h c l w ⟨c1,hs,by rw [← he];exact I.keep ks ids⟩
theorem qW3 {ι:Type} {x:Code} (E:ι→HS) (L:ι→List Leaf) (I:ι→Prop) (μ:ι→Nat) (ks ids:List Nat) (i:ι) (h0:S.keep ks ids=E i) (hL:F=L i) (hI:I i)
  (round:∀ i,I i→HWF P N x (qV7 (fun F' S'=>∃ j,S'.keep ks ids=E j∧F'=L j∧I j∧μ j < μ i) Q) (L i) (E i)):HWF P N (.loop x) Q F S:=fun c l w Iv=>by
 subst hL;refine sK (ι:=ι × Env) (fun p=>p.2) (fun p w=>InvF c (L p.1) (E p.1) (lk p.2) w∧I p.1) (fun p=>μ p.1) ks (i,keep ks l) rfl ⟨?_,hI⟩ ?_
 ·obtain ⟨c1,hs,Iv⟩:=Iv;refine ⟨c1,hs,?_⟩;rw [← h0];exact (Iv.keep ks ids).agree fun k h hk=>tB (vS hk).1
 ·rintro ⟨j,l1⟩ w1 ⟨I1,hj⟩;refine (round j hj c l1 w1 I1).mono fun e l' w' ⟨F',S',I',q⟩=>?_
  cases e with
 |normal =>
   obtain ⟨j',hE,hF,hI',hμ⟩:=q;refine ⟨(j',keep ks l'),rfl,⟨?_,hI'⟩,hμ⟩;subst hF;obtain ⟨c1,hs,I'⟩:=I';refine ⟨c1,hs,?_⟩;rw [← hE];exact (I'.keep ks ids).agree fun k h hk=>tB (vS hk).1
 |_=>exact ⟨F',S',I',q⟩
theorem Sub.bury (hs:Sub c c1 F w) (G:Good c1 S look w ρ xs) {id ty sz:Nat} {els:List (List FV)} (hr:rlk S.st id=some (.sl true ty sz els)) :
  ∃ c2,Sub c c2 (F ++ [⟨ρ id,ty,sz,els.length,xs id⟩]) w∧Inv c2 (S.rest id (.v (ρ id))) look w:=by
 obtain ⟨o1,o2,o3⟩:=eK G hr
 have hn:=(G.rows id _ hr).new
 have hw1:=G.kept.size
 have hw0:=hs.kept.size
 let c2:Ctx:=⟨w,fun b=>(c1.w0.heap.size≤b∨c1.T b)∧¬ (ρ id).ownBlock=some b,fun b=>c1.A0 b∨(ρ id).ownBlock=some b,c1.n0,Nat.le_trans c1.hn hw1,c1.B⟩
 have hTc:∀ b,c1.w0.heap.size≤b∨c1.T b→c.w0.heap.size≤b∨c.T b:=fun b h=>by
  rcases h with h|h
  ·exact .inl (by omega)
  ·exact hs.T b h
 have back:∀ i r,rlk (S.rest id (.v (ρ id))).st i=some r→∃ r0,i≠id∧rlk S.st i=some r0∧r=r0.sub id (.v (ρ id)):=by
  intro i r hi;simp only [HS.rest,uH] at hi
  by_cases e:i=id
  ·rw [if_pos e] at hi;cases hi
  ·rw [if_neg e] at hi
   cases hs:rlk S.st i with
  |none=>rw [hs] at hi;cases hi
  |some s0=>rw [hs] at hi;simp only [Option.map_some,Option.some.injEq] at hi;exact ⟨s0,e,rfl,hi.symm⟩
 have hA:∀ b,c2.A ρ (S.rest id (.v (ρ id))).st b→c1.A ρ S.st b:=by
  rintro b ((h0|h0)|⟨i,r,hi,hb⟩)
  ·exact .inl h0
  ·exact .inr ⟨id,_,hr,h0⟩
  ·obtain ⟨r0,-,h2,-⟩:=back i r hi;exact .inr ⟨i,r0,h2,hb⟩
 have tr:∀ v x,RepH w (c1.A ρ S.st) c1.n0 ρ v x→RepH w (c2.A ρ (S.rest id (.v (ρ id))).st) c1.n0 ρ v (HV.sub id (.v (ρ id)) x):=fun v x h=>(h.up (Nat.le_refl _) (fun _ _ _=>rfl) (fun b _=>hA b) (Nat.le_refl _)).sub (.v _)
 refine ⟨c2,⟨hs.n0,hs.B,hs.kept.trans G.kept fun b hb ht=>?_,fun b h=>hTc b h.1,fun b h=>.inl (hs.A b h),fun b hb=>?_,fun f hf=>?_,?_⟩,ρ,xs,fun i r hi=>?_,fun i j r s b hne hi hj=>?_,fun k x hk=>?_,Kept.refl _ _,fun b hb=>?_⟩
 ·rcases hs.T b ht with h|h
  ·omega
  ·exact h
 ·obtain ⟨f,hf,hfb⟩:=hb
  rcases List.mem_append.1 hf with hf|hf
  ·obtain ⟨a,b⟩:=hs.L b ⟨f,hf,hfb⟩;exact ⟨.inl a,b⟩
  ·rw [List.mem_singleton.1 hf] at hfb;exact ⟨.inr hfb,hTc b (hn b hfb).1,by have:=(hn b hfb).2 rfl;rw [← hs.n0];exact this⟩
 ·rcases List.mem_append.1 hf with hf|hf
  ·exact hs.own f hf
  ·rw [List.mem_singleton.1 hf];exact o1
 ·refine List.pairwise_append.2 ⟨hs.nod,List.pairwise_singleton _ _,fun f hf g hg b h1 h2=>?_⟩
  rw [List.mem_singleton.1 hg] at h2;obtain ⟨a1,a2⟩:=G.a0 b (hs.L b ⟨f,hf,h1⟩).1
  rcases (hn b h2).1 with h|h
  ·omega
  ·exact a2 h
 ·obtain ⟨r0,hne,h0,rfl⟩:=back i r hi
  have R:=G.rows i r0 h0
  obtain ⟨f1,f2,f3,f4⟩:=Row.sub_facts id (.v (ρ id)) r0;refine ⟨by rw [f1,f2,f3];exact R.own,?_,fun b hb=>by rw [f4];exact ⟨.inr ⟨(R.new b hb).1,fun h=>G.apart i id r0 _ b hne h0 hr hb h⟩,(R.new b hb).2⟩⟩
  have:=R.rep
  cases r0 with
 |sl n' t' s' els' =>
   refine ⟨this.1,fun p k hp hk=>?_⟩
   obtain ⟨u,u1,u2,u3⟩:=this.2 p k hp hk;exact ⟨u,u1,u2,u3.up (Nat.le_refl _) (fun _ _ _=>rfl) (fun b _=>hA b) (Nat.le_refl _)⟩
 |bx n' t' cells =>
   refine ⟨this.1,fun k hk=>?_⟩
   rw [List.length_map] at hk;obtain ⟨u,u1,u2,u3⟩:=this.2 k hk;refine ⟨u,u1,u2,?_⟩;rw [List.getElem_map];exact tr _ _ u3
 |hl n' t' s' els' =>
   refine ⟨fun x hx=>?_,fun p k hp hk=>?_⟩
   ·obtain ⟨y,hy,rfl⟩:=List.mem_map.1 hx;rw [List.length_map];exact this.1 y hy
   ·simp only [List.length_map] at hp;simp only [List.getElem_map,List.length_map] at hk ⊢;obtain ⟨u,u1,u2,u3⟩:=this.2 p k hp hk;exact ⟨u,u1,u2,tr _ _ u3⟩
 ·obtain ⟨r0,h1,h2,-⟩:=back i r hi;obtain ⟨s0,h3,h4,-⟩:=back j s hj;exact G.apart i j r0 s0 b hne h2 h4
 ·simp only [HS.rest,qKt] at hk
  cases hx0:hlk S.env k with
 |none=>rw [hx0] at hk;cases hk
 |some x0 =>
   rw [hx0] at hk;simp only [Option.map_some,Option.some.injEq] at hk;subst hk;obtain ⟨v,h1,h2⟩:=G.env k x0 hx0;exact ⟨v,h1,tr v x0 h2⟩
 ·rcases hb with hb|hb
  ·obtain ⟨a1,a2⟩:=G.a0 b hb;refine ⟨by show b < w.heap.size;omega,fun h=>h.1.elim (fun h=>by omega) a2⟩
  ·exact ⟨G.lt hr hb,fun h=>h.2 hb⟩
theorem eZ {x:Code} (id:Nat) {ty sz:Nat} {els:List (List FV)} (vals:List Value) (hr:rlk S.st id=some (.sl true ty sz els)) (hl:vals.length=els.length * sz) (he:∀ i k (hi:i < els.length) (hk:k < els[i].length) (hv:i * sz + k < vals.length),els[i][k]=.v vals[i * sz + k])
  (h:∀ q cap,HWF P N x Q (F ++ [⟨.slice q els.length cap,ty,sz,els.length,vals⟩]) (S.rest id (.v (.slice q els.length cap)))):HWF P N x Q F S:=fun c l w ⟨c1,hs,ρ,xs,G⟩=>by
 obtain ⟨c2,h1,h2⟩:=hs.bury G hr;obtain ⟨o1,o2,o3⟩:=eK G hr
 have hx:xs id=vals:=by
  refine List.ext_getElem (by rw [o1.1,hl]) fun j h1 h2=>?_
  have hsz:0 < sz:=Nat.pos_of_ne_zero fun e=>by rw [hl,e] at h2;simp at h2
  have hi:j / sz < els.length:=Nat.div_lt_of_lt_mul (by rw [Nat.mul_comm];omega)
  have hk:j % sz < els[j / sz].length:=by rw [o2 _ (List.getElem_mem hi)];exact Nat.mod_lt _ hsz
  have hj:j / sz * sz + j % sz=j:=by rw [Nat.mul_comm];exact Nat.div_add_mod j sz
  obtain ⟨u,u1,-,u3⟩:=o3 _ _ hi hk;rw [he _ _ hi hk (by omega)] at u3
  have hu:u=vals[j / sz * sz + j % sz]'(by omega):=by cases u3;rfl
  rw [hj,List.getElem?_eq_getElem h1] at u1
  have:=Option.some.inj u1
  rw [this,hu]
  congr 1
 rw [hx] at h1;obtain ⟨q,cap,hq⟩:=dC o1;rw [hq] at h1 h2;exact h q cap c l w ⟨c2,h1,h2⟩
end
inductive NamH:HV→Prop
|v (x:Value):NamH (.v x)
|own (id:Nat):NamH (.own id)
|vw (id sz o n:Nat):NamH (.vw id sz o n)
|ptr (id sz i k:Nat):NamH (.ptr id sz i k)
|agg {hs:List HV} (h:∀ x ∈ hs,NamH x):NamH (.agg hs)
|tup {hs:List HV} (h:∀ x ∈ hs,NamH x):NamH (.tup hs)
|junk:NamH .junk
def zL0:Row→Prop
|.sl nw _ _ els=>nw=true∧∀ x ∈ els,∀ f ∈ x,∃ y,f=FV.v y
|.bx nw _ cells=>nw=true∧∀ x ∈ cells,NamH x
|.hl nw _ _ els=>nw=true∧∀ x ∈ els,∀ f ∈ x,NamH f
section
variable {P:Program} {N:Nat} {c c1:Ctx} {F F':List Leaf} {S S':HS} {Q Q':xY} {l:Env} {look look':Nat→Option Value} {w w':World} {ρ ρ':Nat→Value} {xs xs':Nat→List Value} {A A':Nat→Prop} {n0 n1:Nat}
theorem RepH.namH {v:Value} {x:HV} (h:RepH w A n0 ρ v x) (hp:NamH x):RepH w A' n1 ρ v x:=by
 induction h with
|v x=>exact .v x
|lst h=>cases hp
|own id h1=>exact .own id h1
|vw sz off m h a b d x e=>exact .vw sz off m h a b d x e
|ptr sz i k h=>exact .ptr sz i k h
|elt h h1 h2=>cases hp
|agg hn h1 h ih=>cases hp with|agg hf=>exact .agg hn h1 fun j a b=>ih j a b (hf _ (List.getElem_mem b))
|tup hn h ih=>cases hp with|tup hf=>exact .tup hn fun j a b=>ih j a b (hf _ (List.getElem_mem b))
|junk v=>exact .junk v
structure Made (w w':World) (st:aB) (F:List Leaf) (ρ:Nat→Value) (xs:Nat→List Value):Prop where
 rows:∀ i r,rlk st i=some r→RowOk w' (fun _=>True) (cx w (fun _=>False) (fun _=>False)) ρ i r (xs i)
 apart:∀ i j r s b,i≠j→rlk st i=some r→rlk st j=some s→(ρ i).ownBlock=some b→(ρ j).ownBlock=some b→False
 own:∀ f ∈ F,Own w' 0 f.ty f.sz f.v f.n f.xs
 new:∀ b,qF8 F b→w.heap.size≤b∧b < w'.heap.size
 nod:F.Pairwise fun f g=>∀ b,f.v.ownBlock=some b→g.v.ownBlock=some b→False
 sep:∀ b,qF8 F b→¬ oY ρ st b
def HFunF (P:Program) (f:FuncId) (args:List HV) (Q:HV→aB→List Leaf→Prop):Prop :=
 ∀ (w:World) (vs:List Value),sP w (fun _=>False) w.heap.size (fun _=>undef) vs args →
  Calls P f vs.toArray w (Ret fun v w'=>Below w.heap.size w w'∧∃ h st F ρ xs,(∀ i r,rlk st i=some r→i < 8)∧Q h st F∧Made w w' st F ρ xs∧RepH w' (fun _=>True) w.heap.size ρ v h)
def zCv (F:List Leaf) (S:HS) (h:HV) (Q:HV→aB→List Leaf→Prop):Prop :=
 ∃ ids,ids.length≤8∧dup ids=false∧NamH h∧(∀ id ∈ ids,∀ r,rlk S.st id=some r→zL0 r)∧Q (h.ren (pos ids)) (jV (pos ids) S.st 0 ids) F
def qGy (P:Program) (rs:List ResultVar) (Q:HV→aB→List Leaf→Prop):xY
|.normal,F,S=>nZ P S rs fun hs=>zCv F S (vP hs) Q
|.ret,F,S=>nZ P S rs fun hs=>zCv F S (vP hs) Q
|_,_,_=>False
theorem zCc {w0:World} (hs:Sub (cx w0 (fun _=>False) (fun _=>False)) c1 F w) (G:Good c1 S look w ρ xs) {v:Value} {h:HV} (hr:RepH w (c1.A ρ S.st) c1.n0 ρ v h) {Q:HV→aB→List Leaf→Prop} (R:zCv F S h Q) :
  Below w0.heap.size w0 w∧∃ h st F ρ xs,(∀ i r,rlk st i=some r→i < 8)∧Q h st F∧Made w0 w st F ρ xs∧RepH w (fun _=>True) w0.heap.size ρ v h:=by
 obtain ⟨ids,hlen,hd,hf,hfr,q⟩:=R
 have hm:∀ i j,pos ids i=some j→ρ (ids.getD j 0)=ρ i:=fun i j h=>by rw [List.getD_eq_getElem?_getD,nV h];rfl
 have kept:Kept (fun _=>False) w0 w:=hs.kept.trans G.kept fun b hb ht=>by
  rcases hs.T b ht with h|h
  ·exact absurd (show w0.heap.size≤b from h) (by omega)
  ·exact h
 have newB:∀ id r b,rlk S.st id=some r→(ρ id).ownBlock=some b→w0.heap.size≤b:=fun id r b h1 h2=>by
  rcases ((G.rows id r h1).new b h2).1 with h|h
  ·have:w0.heap.size≤c1.w0.heap.size:=hs.kept.size
   omega
  ·rcases hs.T b h with h|h
   ·exact h
   ·exact h.elim
 refine ⟨kept.below (fun _ _ h=>h),h.ren (pos ids),_,F,fun j=>ρ (ids.getD j 0),fun j=>xs (ids.getD j 0),fun i r hi=>?_,q,⟨fun i r hi=>?_,fun i j r s b hne hi hj hbi hbj=>?_,hs.own,fun b hb=>?_,hs.nod,fun b hb=>?_⟩,(hr.namH hf).ren hm⟩
 ·obtain ⟨_,id,r0,h2,-⟩:=fD hi
  have:=(List.getElem?_eq_some_iff.1 h2).1
  omega
 ·obtain ⟨_,id,r0,h2,h3,rfl⟩:=fD hi;rw [Nat.sub_zero] at h2
  have e:ids.getD i 0=id:=by rw [List.getD_eq_getElem?_getD,h2];rfl
  have R0:=G.rows id r0 h3
  have F0:=hfr id (List.mem_of_getElem? h2) r0 h3
  obtain ⟨f1,f2,f3,f4⟩:=Row.ren_facts (pos ids) r0;refine ⟨by rw [f1,f2,f3];(try dsimp only);rw [e];exact R0.own,?_,fun b hb=>?_⟩
  ·have:=R0.rep
   cases r0 with
  |sl nw ty sz els =>
    refine ⟨this.1,fun a k ha hk=>?_⟩
    obtain ⟨u,u1,u2,u3⟩:=this.2 a k ha hk
    try dsimp only
    rw [e];refine ⟨u,u1,u2,?_⟩;obtain ⟨y,hy⟩:=F0.2 _ (List.getElem_mem ha) _ (List.getElem_mem hk);rw [hy] at u3 ⊢
    cases u3
    exact .v _
  |bx nw ty cells =>
    obtain ⟨g,g1,g2⟩:=this.1;refine ⟨⟨g,by (try dsimp only);rw [e];exact g1,fun h=>by rw [F0.1] at h;cases h⟩,fun k hk=>?_⟩
    rw [List.length_map] at hk;obtain ⟨u,u1,u2,u3⟩:=this.2 k hk
    try dsimp only
    rw [e];refine ⟨u,u1,u2,?_⟩;rw [List.getElem_map];exact (u3.namH (F0.2 _ (List.getElem_mem hk))).ren hm
  |hl nw ty sz els =>
    refine ⟨fun x hx=>?_,fun a k ha hk=>?_⟩
    ·obtain ⟨y,hy,rfl⟩:=List.mem_map.1 hx;rw [List.length_map];exact this.1 y hy
    ·simp only [List.length_map] at ha;simp only [List.getElem_map,List.length_map] at hk ⊢;obtain ⟨u,u1,u2,u3⟩:=this.2 a k ha hk
     try dsimp only
     rw [e];exact ⟨u,u1,u2,(u3.namH (F0.2 _ (List.getElem_mem ha) _ (List.getElem_mem hk))).ren hm⟩
  ·try dsimp only at hb
   rw [e] at hb;exact ⟨.inl (newB id r0 b h3 hb),fun _=>newB id r0 b h3 hb⟩
 ·obtain ⟨_,a,r0,h2,h3,-⟩:=fD hi;obtain ⟨_,d,s0,h4,h5,-⟩:=fD hj;rw [Nat.sub_zero] at h2 h4
  try dsimp only at hbi hbj
  rw [List.getD_eq_getElem?_getD,h2,Option.getD_some] at hbi;rw [List.getD_eq_getElem?_getD,h4,Option.getD_some] at hbj;exact G.apart a d r0 s0 b (fun e=>hne (by subst e;exact qE7 hd h2 h4)) h3 h5 hbi hbj
 ·obtain ⟨a1,a2,a3⟩:=hs.L b hb
  have hlt:=(G.a0 b a1).1
  have:=G.kept.size
  refine ⟨?_,by omega⟩
  rcases a2 with h|h
  ·exact h
  ·exact h.elim
 ·rintro ⟨i,s,hi,hb'⟩;obtain ⟨_,id,r0,h2,h3,-⟩:=fD hi;rw [Nat.sub_zero] at h2
  try dsimp only at hb'
  rw [List.getD_eq_getElem?_getD,h2,Option.getD_some] at hb';obtain ⟨a1,a2⟩:=G.a0 b (hs.L b hb).1
  rcases ((G.rows id r0 h3).new b hb').1 with h|h
  ·omega
  ·exact a2 h
theorem zKw {f:FuncId} {fn:Func} {x:Code} {args:List HV} {rs:Array ResultVar} {Q:HV→aB→List Leaf→Prop} (hf:P.funcs[f]?=some fn) (hb:fn.body=some x) (hN:fn.ntmps=N) (hrs:fn.results=rs) (hle:args.length≤N)
  (h:HWF P N x (qGy P rs.toList Q) [] ⟨sH 0 args,[]⟩):HFunF P f args Q:=fun w vs R=>by
 refine tT hf hb hN hrs (by rw [R.1];exact hle) ?_
 have I:Inv (cx w (fun _=>False) (fun _=>False)) ⟨sH 0 args,[]⟩ (lk (oX 0 vs)) w:=by
  refine ⟨fun _=>undef,fun _=>[],fun id r hr=>by simp [rlk] at hr,fun i j r s b hne hi=>by simp [rlk] at hi,fun k h hk=>?_,Kept.refl _ _,fun b hb=>hb.elim⟩
  obtain ⟨-,h2⟩:=wL args 0 k h hk;rw [Nat.sub_zero] at h2;obtain ⟨hlt,rfl⟩:=List.getElem?_eq_some_iff.1 h2
  have hlt':k < vs.length:=by rw [R.1];exact hlt
  refine ⟨vs[k],qBa vs 0 k _ (Nat.zero_le _) (by simp [hlt']),(R.2 k hlt' hlt).up (Nat.le_refl _) (fun _ _ _=>rfl) (fun b _ hA=>?_) (Nat.le_refl _)⟩
  rcases hA with h0|⟨i,r,hi,-⟩
  ·exact h0
  ·simp [rlk] at hi
 refine (h _ _ _ (InvF.of I)).mono fun e l' w' ⟨F',S',⟨c1,hs,ρ,xs,G⟩,q⟩=>?_
 have fin:nZ P S' rs.toList (fun hs=>zCv F' S' (vP hs) Q)→nG P l' w' rs.toList fun vs=>Below w.heap.size w w'∧∃ h st F ρ xs,(∀ i r,rlk st i=some r→i < 8)∧Q h st F∧Made w w' st F ρ xs∧RepH w' (fun _=>True) w.heap.size ρ (tup vs) h:=fun hr =>
  resH_resE.resE_mono (resH_resE G _ _ hr) fun vs ⟨hs',hR,hv⟩=>zCc hs G (qDw hv) hR
 cases e with
|normal=>exact fin q
|ret=>exact fin q
|_=>exact q.elim
theorem Good.addsF (hs:Sub c c1 F w) (G:Good c1 S look w ρ xs) (B:Below w.heap.size w w') {st:aB} (h8:∀ i r,rlk st i=some r→i < 8) {F1:List Leaf} {ρ':Nat→Value} {xs':Nat→List Value} (M:Made w w' st F1 ρ' xs') {v:Value} {h:HV}
  (hr:RepH w' (fun _=>True) w.heap.size ρ' v h) (n:Nat):∃ c2,Sub c c2 (F ++ F1) w'∧InvV c2 (S.adds n st) (h.ren (sh n)) v look w':=by
 have hbase:∀ i,eG n i=true→rlk (fM (eG n) S.st) i=none:=fun i hi=>by rw [gV,hi];rfl
 have hw0:c1.n0≤w.heap.size:=Nat.le_trans c1.hn G.kept.size
 have hwB:=B.size
 let c2:Ctx:=⟨w',fun b=>(c1.w0.heap.size≤b∨c1.T b)∧¬ qF8 F1 b,fun b=>c1.A0 b∨qF8 F1 b,c1.n0,Nat.le_trans hw0 B.size,c1.B⟩
 have hw1:=G.kept.size
 let ρ2:Nat→Value:=fun i=>bif eG n i then ρ' (i - n) else ρ i
 have q1:∀ i,eG n i=false→ρ2 i=ρ i:=fun i hi=>by show (bif eG n i then _ else _)=_;rw [hi];rfl
 have q2:∀ i j,sh n i=some j→ρ2 j=ρ' i:=fun i j hj=>by
  unfold sh at hj
  cases e:Nat.blt i 8 with
 |false=>rw [e] at hj;cases hj
 |true =>
   rw [e] at hj;simp only [cond_true,Option.some.injEq] at hj;subst hj
   have:i < 8:=by simpa [Nat.blt_eq] using e
   show (bif eG n (n + i) then _ else _)=_
   rw [iA.2 ⟨by omega,by omega⟩,cond_true,show n + i - n=i by omega]
 have cases2:∀ i r,rlk (S.adds n st).st i=some r→(∃ s,eG n i=true∧rlk st (i - n)=some s∧r=s.ren (sh n)∧ρ2 i=ρ' (i - n))∨(∃ s,eG n i=false∧rlk S.st i=some s∧r=s.kill (eG n)∧ρ2 i=ρ i):=by
  intro i r hi
  rcases qEt hbase h8 hi with ⟨s,a1,a2,a3⟩|⟨a1,a2⟩
  ·left
   have:=h8 _ _ a2
   have e:eG n i=true:=iA.2 ⟨a1,by omega⟩
   exact ⟨s,e,a2,a3,by show (bif eG n i then _ else _)=_;rw [e];rfl⟩
  ·right
   rw [gV,a1,cond_false] at a2
   cases hs:rlk S.st i with
  |none=>rw [hs] at a2;cases a2
  |some s=>rw [hs] at a2;simp only [Option.map_some,Option.some.injEq] at a2;exact ⟨s,a1,rfl,a2.symm,q1 i a1⟩
 have new:∀ i s b,rlk st i=some s→(ρ' i).ownBlock=some b→w.heap.size≤b:=fun i s b hs hb=>by
  rcases ((M.rows i s hs).new b hb).1 with h|h
  ·exact h
  ·exact h.elim
 have hA1:∀ b,b < w.heap.size→c2.A ρ2 (S.adds n st).st b→c1.A ρ S.st b:=by
  rintro b hlt ((h0|h0)|⟨i,r,hi,hb⟩)
  ·exact .inl h0
  ·have:=(M.new b h0).1;omega
  ·rcases cases2 i r hi with ⟨s,_,a2,_,a4⟩|⟨s,_,a2,_,a4⟩
   ·rw [a4] at hb;have:=new _ s b a2 hb;omega
   ·rw [a4] at hb;exact .inr ⟨i,s,a2,hb⟩
 have tr1:∀ v x,RepH w (c1.A ρ S.st) c1.n0 ρ v x→RepH w' (c2.A ρ2 (S.adds n st).st) c1.n0 ρ2 v (x.kill (eG n)):=fun v x hx=>(hx.up B.size (fun b hlt _=>B.block b hlt) hA1 (Nat.le_refl _)).kill q1
 have tr2:∀ v x,RepH w' (fun _=>True) w.heap.size ρ' v x→RepH w' (c2.A ρ2 (S.adds n st).st) c1.n0 ρ2 v (x.ren (sh n)):=fun v x hx=>(hx.up (Nat.le_refl _) (fun _ _ _=>rfl) (fun b _ _=>trivial) hw0).ren q2
 have newS:∀ i s b,rlk S.st i=some s→(ρ i).ownBlock=some b→(c1.w0.heap.size≤b∨c1.T b)∧¬ qF8 F1 b:=fun i s b h1 h2=>⟨((G.rows i s h1).new b h2).1,fun hl=>by have:=(M.new b hl).1;have:=G.lt h1 h2;omega⟩
 have blk:∀ b,qF8 F b→w'.heap[b]?=w.heap[b]?:=fun b hb=>by
  have:=(G.a0 b (hs.L b hb).1).1
  exact B.block b (by omega)
 refine ⟨c2,⟨hs.n0,hs.B,(hs.kept.trans G.kept fun b hb ht=>?_).trans (T':=fun _=>False) ⟨B.os,B.tape,B.output,B.size,fun b hlt _=>B.block b hlt⟩ (fun _ _ h=>h.elim),fun b h=>?_,fun b h=>.inl (hs.A b h),fun b hb=>?_,fun f hf=>?_,?_⟩,?_⟩
 ·rcases hs.T b ht with h|h
  ·omega
  ·exact h
 ·rcases h.1 with h|h
  ·have:=hs.kept.size;exact .inl (by omega)
  ·exact hs.T b h
 ·obtain ⟨f,hf,hfb⟩:=hb
  rcases List.mem_append.1 hf with hf|hf
  ·obtain ⟨a,b⟩:=hs.L b ⟨f,hf,hfb⟩;exact ⟨.inl a,b⟩
  ·have:=(M.new b ⟨f,hf,hfb⟩).1
   have:=hs.kept.size
   exact ⟨.inr ⟨f,hf,hfb⟩,.inl (by omega),by rw [← hs.n0];omega⟩
 ·rcases List.mem_append.1 hf with hf|hf
  ·exact (hs.own f hf).block fun b hb=>blk b ⟨f,hf,hb⟩
  ·exact M.own f hf
 ·refine List.pairwise_append.2 ⟨hs.nod,M.nod,fun f hf g hg b h1 h2=>?_⟩
  have:=(G.a0 b (hs.L b ⟨f,hf,h1⟩).1).1
  have:=(M.new b ⟨g,hg,h2⟩).1
  omega
 refine ⟨ρ2,fun i=>bif eG n i then xs' (i - n) else xs i,⟨fun i r hi=>?_,fun i j r s b hne hi hj hbi hbj=>?_,fun k x hk=>?_,Kept.refl _ _,fun b hb=>?_⟩,tr2 _ _ hr⟩
 ·rcases cases2 i r hi with ⟨s,a1,a2,rfl,a4⟩|⟨s,a1,a2,rfl,a4⟩
  ·have R:=M.rows _ s a2
   obtain ⟨f1,f2,f3,f4⟩:=Row.ren_facts (sh n) s;rw [a1,cond_true];refine ⟨by rw [f1,f2,f3,a4];exact R.own,?_,fun b hb=>?_⟩
   ·have:=R.rep
    cases s with
   |sl nw ty sz els =>
     refine ⟨this.1,fun p k hp hk=>?_⟩
     obtain ⟨u,u1,u2,u3⟩:=this.2 p k hp hk;exact ⟨u,u1,u2,u3.up (Nat.le_refl _) (fun _ _ _=>rfl) (fun b _ _=>trivial) hw0⟩
   |bx nw ty cells =>
     refine ⟨by obtain ⟨g,e,hT⟩:=this.1;exact ⟨g,by rw [a4];exact e,fun h=>(hT h).elim⟩,fun k hk=>?_⟩
     rw [List.length_map] at hk;obtain ⟨u,u1,u2,u3⟩:=this.2 k hk;refine ⟨u,u1,u2,?_⟩;rw [List.getElem_map];exact tr2 _ _ u3
   |hl nw ty sz els =>
     refine ⟨fun x hx=>?_,fun p k hp hk=>?_⟩
     ·obtain ⟨y,hy,rfl⟩:=List.mem_map.1 hx;rw [List.length_map];exact this.1 y hy
     ·simp only [List.length_map] at hp;simp only [List.getElem_map,List.length_map] at hk ⊢;obtain ⟨u,u1,u2,u3⟩:=this.2 p k hp hk;exact ⟨u,u1,u2,tr2 _ _ u3⟩
   ·rw [a4] at hb
    have:=new _ s b a2 hb
    exact ⟨.inr ⟨.inl (by omega),fun hl=>M.sep b hl ⟨_,s,a2,hb⟩⟩,fun _=>by show c1.n0≤b;omega⟩
  ·rw [a1,cond_false]
   have R:=(G.rows i s a2).up B.size (fun b hlt _=>B.block b hlt) hA1 (fun b hb=>B.block b (G.lt a2 hb))
   exact ((R.ctx (c':=c2) rfl rfl fun b hb=>.inr (newS i s b a2 hb)).kill q1 a1)
 ·rcases cases2 i r hi with ⟨s1,a1,a2,-,a4⟩|⟨s1,a1,a2,-,a4⟩ <;> rcases cases2 j s hj with ⟨s2,b1,b2,-,b4⟩|⟨s2,b1,b2,-,b4⟩
  ·rw [a4] at hbi;rw [b4] at hbj
   have e1:=iA.1 a1
   have e2:=iA.1 b1
   exact M.apart _ _ s1 s2 b (by omega) a2 b2 hbi hbj
  ·rw [a4] at hbi;rw [b4] at hbj
   have:=new _ s1 b a2 hbi
   have:=G.lt b2 hbj
   omega
  ·rw [a4] at hbi;rw [b4] at hbj
   have:=new _ s2 b b2 hbj
   have:=G.lt a2 hbi
   omega
  ·rw [a4] at hbi;rw [b4] at hbj;exact G.apart i j s1 s2 b hne a2 b2 hbi hbj
 ·simp only [HS.adds,lY] at hk
  cases hx:hlk S.env k with
 |none=>rw [hx] at hk;cases hk
 |some x0 =>
   rw [hx] at hk;simp only [Option.map_some,Option.some.injEq] at hk;subst hk;obtain ⟨v,h1,h2⟩:=G.env k x0 hx;exact ⟨v,h1,tr1 v x0 h2⟩
 ·rcases hb with hb|hb
  ·obtain ⟨a1,a2⟩:=G.a0 b hb;exact ⟨by show b < w'.heap.size;omega,fun h=>h.1.elim (fun h=>by omega) a2⟩
  ·exact ⟨(M.new b hb).2,fun h=>h.2 hb⟩
def qB6 (P:Program) (N:Nat) (ds:List (Option Nat)) (K:List Leaf→HS→Prop) (ops:List Oper) (F:List Leaf) (S:HS):Prop :=
 ∀ (c:Ctx) (l:Env) (w:World),InvF c F S (lk l) w→VC P N ds (fun l' w'=>∃ F' S',InvF c F' S' (lk l') w'∧K F' S') ops l w
theorem qHj {id:Nat} {ops:List Oper} (h:∀ K:List Leaf→HS→Prop,(∀ F' S',Q .normal F' S'→K F' S')→qB6 P N (eH ops) K ops F S):HWF P N (.region id ops.toArray false) Q F S:=fun c l w I =>
 qM9 fun K hK=>zJ.V.mono (h (Q .normal) (fun _ _ h=>h) c l w I) fun l' w' h=>hK l' w' h
theorem pP {ds:List (Option Nat)} {K:List Leaf→HS→Prop} {ops:List Oper} (h:HV2 P N ds (K F) ops S):qB6 P N ds K ops F S:=fun c l w ⟨c1,hs,I⟩ =>
 zJ.V.mono (xS (c:=c1) ops S l w h I) fun l' w' ⟨S',I',k⟩=>⟨F,S',⟨c1,hs.go I I',I'⟩,k⟩
theorem zGg {ds:List (Option Nat)} {K:List Leaf→HS→Prop} {a b:List Oper} (h:qB6 P N ds (fun F S=>qB6 P N ds K b F S) a F S):qB6 P N ds K (a ++ b) F S:=fun c l w I =>
 qBz (zJ.V.mono (h c l w I) fun l' w' ⟨F',S',I',k⟩=>k c l' w' I')
theorem qBb (n:Nat) {ds:List (Option Nat)} {K:List Leaf→HS→Prop} {ops:List Oper} (h:qB6 P N ds (fun F S=>qB6 P N ds K (ops.drop n) F S) (ops.take n) F S):qB6 P N ds K ops F S:=by
 have:=zGg h
 rwa [List.take_append_drop] at this
def zE4:GOut→Bool
|.yes=>true
|.ask _ b want=>b == want
|_=>false
theorem qSq (I:Inv c S (lk l) w) {ds:List (Option Nat)} {g:Option (Nat × Bool)} {k:Bool→Prop} (h:zE4 (hG S.env ds g)=true) (hk:k true):gd l ds g k:=by
 cases hg:hG S.env ds g with
|yes=>exact qMf hg hk
|no=>rw [hg] at h;cases h
|ask d b want=>rw [hg] at h;exact (xN I hg (by rw [show (b == want)=true from h];exact hk)).1
|bad=>rw [hg] at h;cases h
theorem qRp {ds:List (Option Nat)} {K:List Leaf→HS→Prop} {o:Oper} {rest:List Oper} {f:FuncId} {args args':List HV} {R:HV→aB→List Leaf→Prop} {x:Operand} {ay:Array Operand} {ats:Array TypeId} (n:Nat) (hc:aM P f=true) (H:HFunF P f args' R)
  (hop:o.op=.call ⟨.value x,ay,ats⟩) (hg:zE4 (hG S.env ds o.guard)=true) (hd:gZ N o.dst=true) (hfn:fnH (hev S.env x)=some f) (has:jR S.env ay.toList=some args) (hl:Lends S.st args args')
  (h:∀ h st F1,R h st F1→qB6 P N ds K rest (F ++ F1) ((S.adds n st).set o.dst (h.ren (sh n)))):qB6 P N ds K (o :: rest) F S:=fun c l w ⟨c1,hs,ρ,xs,G⟩=>by
 rw [VC];refine qSq ⟨ρ,xs,G⟩ hg ⟨fE hd,?_⟩;obtain ⟨vs,e1,e2,e3⟩:=G.evs (cD _ _) has;rw [hop];unfold bR;simp only [qNp,aG,cU,e1,G.fn (cD _ _) hfn];refine ⟨hc,Ret.mono (H w vs (nL G ⟨e2,e3⟩ hl)) fun v w' ⟨B,h',st,F1,ρ',xs',h8,q,M,hr⟩=>?_⟩
 obtain ⟨c2,hs2,I2⟩:=Good.addsF hs G B h8 M hr n;exact h h' st F1 q c _ w' ⟨c2,hs2,I2.set o.dst⟩
def LendF (F:List Leaf) (S:HS) (a a':HV):Prop:=∀ (c1:Ctx) (look:Nat→Option Value) (w:World) (ρ:Nat→Value) (xs:Nat→List Value) (v:Value),Good c1 S look w ρ xs→(∀ f ∈ F,Own w 0 f.ty f.sz f.v f.n f.xs)→RepH w (c1.A ρ S.st) c1.n0 ρ v a→RepH w (fun _=>False) w.heap.size (fun _=>undef) v a'
theorem LendF.of {a a':HV} (h:Lend S.st a a'):LendF F S a a':=fun c1 look w ρ xs v G _ hr=>qUi G hr h
inductive LendsF (F:List Leaf) (S:HS):List HV→List HV→Prop
|nil:LendsF F S [] []
|cons {h h':HV} {r r':List HV} (a:LendF F S h h') (b:LendsF F S r r'):LendsF F S (h :: r) (h' :: r')
theorem qX3 (G:Good c S look w ρ xs) (hF:∀ f ∈ F,Own w 0 f.ty f.sz f.v f.n f.xs) {hs hs':List HV} {vs:List Value} (R:sP w (c.A ρ S.st) c.n0 ρ vs hs) (L:LendsF F S hs hs'):sP w (fun _=>False) w.heap.size (fun _=>undef) vs hs':=by
 induction L generalizing vs with
|nil=>exact ⟨R.1,fun i a b=>absurd b (by simp)⟩
|cons a b ih =>
  rename_i h h' r r'
  match vs,R.1 with
 |v :: us,e =>
   have R':sP w (c.A ρ S.st) c.n0 ρ us r:=⟨by simpa using e,fun i p q=>by
    have:=R.2 (i + 1) (by simpa using p) (by simpa using q)
    simpa using this⟩
   obtain ⟨i1,i2⟩:=ih R';refine ⟨by simp [i1],fun i p q=>?_⟩
   cases i with
  |zero=>exact a c look w ρ xs v G hF (R.2 0 (by simp) (by simp))
  |succ i=>exact i2 i (by simpa using p) (by simpa using q)
end
end Go.Eng
