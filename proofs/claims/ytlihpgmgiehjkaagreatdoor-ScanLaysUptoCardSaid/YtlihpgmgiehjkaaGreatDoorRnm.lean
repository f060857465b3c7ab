/-
  A function that is handed rows and maps and whose body holds a range over a function: rules over values.
-/
import Derived.Test.YtlihpgmgiehjkaaGreatDoorRnh
set_option linter.unusedSimpArgs false
set_option linter.unusedVariables false
namespace Go.Eng
open Go Go.RowKit
section
variable {P:Program} {N:Nat} {c:Ctx} {S S':HS} {g g':MS} {look look':Nat→Option Value} {w w':World} {ρ ρ':Nat→Value} {xs xs':Nat→List Value}
theorem RepF.upc {A A':Nat→Prop} {n0 n1:Nat} {v:Value} {x:FV} (h:RepF w A n0 v x) (hs:w.heap.size≤w'.heap.size) (hb:∀ b o u,b < w.heap.size→¬ A b→w.cell? ⟨b,o,none⟩=some u→w'.cell? ⟨b,o,none⟩=some u) (hA:∀ b,b < w.heap.size→A' b→A b) (hn:n1≤n0):RepF w' A' n1 v x:=by
 induction h with
|v x=>exact .v x
|lst sz vals hn hc hm hnil hsz ha h1 hr ih =>
  refine .lst sz vals hn hc hm hnil hsz (fun h0=>?_) h1 (fun i k hi hk=>ih i k hi hk)
  obtain ⟨b,off,ea,h2,h3,h4,h5⟩:=ha h0;exact ⟨b,off,ea,fun hA'=>h2 (hA b h3 hA'),by omega,fun hf=>by have:=h4 hf;omega,fun i k hi hk=>hb _ _ _ h3 h2 (h5 i k hi hk)⟩
theorem MsOk.inB (M:MsOk P c w g) {b:Nat} (h:b ∈ bsL g):dullB w b∧(c.w0.heap.size≤b∨c.T b):=by
 obtain ⟨m,hm,hb⟩:=List.mem_flatMap.1 h;obtain ⟨i,hi⟩:=List.mem_iff_getElem?.1 hm;exact ⟨M.dull hi hb,M.foot i m b hi hb⟩
theorem qKj {i b:Nat} {m:MO} (hi:g[i]?=some m) (hb:b ∈ m.bs):b ∈ bsL g:=List.mem_flatMap.2 ⟨m,List.mem_iff_getElem?.2 ⟨i,hi⟩,hb⟩
theorem Good.noMap (G:Good c S look w ρ xs) (M:MsOk P c w g) {b:Nat} (h:c.A ρ S.st b):b ∉ bsL g:=fun hb=>by
 obtain ⟨h1,h2⟩:=M.inB hb
 rcases h with h0|h0
 ·obtain ⟨a1,a2⟩:=G.a0 b h0
  rcases h2 with h|h
  ·omega
  ·exact a2 h
 ·exact gR G h1 h0
theorem Good.ltA (G:Good c S look w ρ xs) {b:Nat} (h:c.A ρ S.st b):b < w.heap.size:=by
 rcases h with h0|⟨i,r,hi,hb⟩
 ·have:=(G.a0 b h0).1;have:=G.kept.size;omega
 ·exact G.lt hi hb
theorem MsOk.grown (M:MsOk P c w g) {row:Option Nat} (hg:w.grownBy w' row) (hr:∀ r,row=some r→r ∉ bsL g):MsOk P c w' g :=
 ⟨fun i m hi=>MO.ok_block (M.ok i m hi) fun b hb=>hg.block b (M.dull hi hb).lt fun e=>hr b e.symm (qKj hi hb),M.nd,M.foot⟩
def pinM (c:Ctx) (w:World) (ρ:Nat→Value) (st:aF) (g:MS) (hn:c.n0≤w.heap.size):Ctx :=
 ⟨w,fun b=>dD ρ st b∨b ∈ bsL g,fun b=>c.A ρ st b∧¬ dD ρ st b,c.n0,hn,fun id q=>∃ r,rlk st id=some r∧ρ id=.slice (some ⟨q,0,none⟩) 1 1∧(r.nw=true→c.n0≤q)∧(r.nw=false→c.B id q)⟩
theorem Good.pinM (G:Good c S look w ρ xs) (M:MsOk P c w g) (hn:c.n0≤w.heap.size):Good (pinM c w ρ S.st g hn) ⟨S.env,vM S.st⟩ look w ρ xs∧MsOk P (Go.Eng.pinM c w ρ S.st g hn) w g:=by
 have hA:∀ b,(Go.Eng.pinM c w ρ S.st g hn).A ρ (vM S.st) b→c.A ρ S.st b:=by
  rintro b (h|h)
  ·exact h.1
  ·exact .inr ((zD6 b).1 h)
 refine ⟨⟨fun id r hr=>?_,fun i j r s b hne hi hj hbi hbj=>?_,fun k x hk=>?_,Kept.refl _ _,fun b hb=>⟨?_,?_⟩⟩,M.ok,M.nd,fun i m b hi hb=>.inr (.inr (qKj hi hb))⟩
 ·have hr:rlk (vM S.st) id=some r:=hr
  rw [vM,qCb] at hr
  cases h:rlk S.st id with
 |none=>rw [h] at hr;cases hr
 |some r0 =>
   rw [h] at hr
   cases hr
   have R:=(G.rows id r0 h).up (Nat.le_refl _) (fun _ _ _=>rfl) (fun b _=>hA b) (fun _ _=>rfl)
   have rp:=R.rep
   have own:Own w 0 r0.dark.ty r0.dark.sz (ρ id) r0.dark.len (xs id):=by rw [(Row.dark_facts r0).1,(Row.dark_facts r0).2.1,(Row.dark_facts r0).2.2];exact R.own
   cases r0 with
  |sl nw ty sz els=>exact ⟨own,rp,fun b hb=>⟨.inr (.inl ⟨id,_,h,hb⟩),(R.new b hb).2⟩⟩
  |hl nw ty sz els=>exact ⟨own,rp,fun b hb=>⟨.inr (.inl ⟨id,_,h,hb⟩),(R.new b hb).2⟩⟩
  |bx nw ty cells =>
    obtain ⟨⟨q,g1,g2⟩,rp⟩:=rp;exact ⟨own,⟨⟨q,g1,fun _=>⟨_,h,g1,fun e=>(R.new q (by rw [g1];rfl)).2 e,fun e=>g2 e⟩⟩,rp⟩,fun b hb=>⟨.inr (.inl ⟨id,_,h,hb⟩),fun e=>by cases e⟩⟩
 ·have hi:rlk (vM S.st) i=some r:=hi
  have hj:rlk (vM S.st) j=some s:=hj
  rw [vM,qCb] at hi hj
  cases h:rlk S.st i with
 |none=>rw [h] at hi;cases hi
 |some r0 =>
   cases h':rlk S.st j with
  |none=>rw [h'] at hj;cases hj
  |some s0=>exact G.apart i j r0 s0 b hne h h' hbi hbj
 ·obtain ⟨v,a,b⟩:=G.env k x hk;exact ⟨v,a,b.up (Nat.le_refl _) (fun _ _ _=>rfl) (fun b _=>hA b) (Nat.le_refl _)⟩
 ·exact G.ltA hb.1
 ·rintro (h|h)
  ·exact hb.2 h
  ·exact G.noMap M hb.1 h
theorem qUo (f:Nat→Row→Row):∀ (st:aF) (i:Nat),rlk (st.map fun p=>(p.1,f p.1 p.2)) i=(rlk st i).map (f i)
|[],i=>rfl
|(k,r) :: s,i=>by
  simp only [List.map_cons,rlk]
  by_cases e:k=i
  ·rw [if_pos e,if_pos e,e];rfl
  ·rw [if_neg e,if_neg e];exact qUo f s i
def Row.lit (o:Option Row):Row→Row
|.bx false t cs=>.bx (match o with|some r=>r.nw|none=>true) t cs
|r=>r
theorem Row.lit_facts (o:Option Row) (r:Row):(r.lit o).ty=r.ty∧(r.lit o).sz=r.sz∧(r.lit o).len=r.len:=by
 unfold Row.lit;split <;> simp [Row.ty,Row.sz,Row.len]
def qFq (st0 st:aF):aF:=st.map fun p=>(p.1,p.2.lit (rlk st0 p.1))
theorem qEf (st0 st:aF) (i:Nat):rlk (qFq st0 st) i=(rlk st i).map (Row.lit (rlk st0 i)):=qUo (fun k r=>r.lit (rlk st0 k)) st i
theorem Good.unpinM {hn:c.n0≤w.heap.size} (G:Good c S look w ρ xs) (M:MsOk P c w g) (G':Good (Go.Eng.pinM c w ρ S.st g hn) S' look' w' ρ' xs') (M':MsOk P (Go.Eng.pinM c w ρ S.st g hn) w' g'):Good c ⟨S'.env,qFq S.st S'.st⟩ look' w' ρ' xs'∧MsOk P c w' g':=by
 have hO:∀ b,dD ρ S.st b∨b ∈ bsL g→c.w0.heap.size≤b∨c.T b:=by
  rintro b (⟨i,s,hi,hb⟩|h)
  ·exact ((G.rows i s hi).new b hb).1
  ·exact (M.inB h).2
 have ow:∀ b,dD ρ' (qFq S.st S'.st) b→dD ρ' S'.st b:=by
  rintro b ⟨i,r,h1,h2⟩;rw [qEf] at h1
  cases h:rlk S'.st i with
 |none=>rw [h] at h1;cases h1
 |some r0=>exact ⟨i,r0,h,h2⟩
 have hA:∀ b,c.A ρ' (qFq S.st S'.st) b→(Go.Eng.pinM c w ρ S.st g hn).A ρ' S'.st b:=by
  rintro b (h0|h0)
  ·refine .inl ⟨.inl h0,fun ho=>?_⟩
   have h1:=G.a0 b h0
   rcases hO b (.inl ho) with h2|h2
   ·omega
   ·exact h1.2 h2
  ·exact .inr (ow b h0)
 have hsz:=G.kept.size
 have new:∀ b,w.heap.size≤b∨(dD ρ S.st b∨b ∈ bsL g)→c.w0.heap.size≤b∨c.T b:=fun b h=>by
  rcases h with h1|h1
  ·exact .inl (by omega)
  ·exact hO b h1
 refine ⟨⟨fun id r hr=>?_,fun i j r s b hne hi hj hbi hbj=>?_,fun k x hk=>?_,G.kept.trans G'.kept fun b hb hT=>?_,G.a0⟩,M'.ok,M'.nd,fun i m b hi hb=>new b (M'.foot i m b hi hb)⟩
 ·have hr:rlk (qFq S.st S'.st) id=some r:=hr
  rw [qEf] at hr
  cases h:rlk S'.st id with
 |none=>rw [h] at hr;cases hr
 |some r0 =>
   rw [h] at hr
   cases hr
   have R:=(G'.rows id r0 h).up (Nat.le_refl _) (fun _ _ _=>rfl) (fun b _=>hA b) (fun _ _=>rfl)
   have rp:=R.rep
   have own:Own w' 0 (r0.lit (rlk S.st id)).ty (r0.lit (rlk S.st id)).sz (ρ' id) (r0.lit (rlk S.st id)).len (xs' id):=by
    rw [(Row.lit_facts _ r0).1,(Row.lit_facts _ r0).2.1,(Row.lit_facts _ r0).2.2];exact R.own
   cases r0 with
  |sl nw ty sz els=>exact ⟨own,rp,fun b hb=>⟨new b (R.new b hb).1,(R.new b hb).2⟩⟩
  |hl nw ty sz els=>exact ⟨own,rp,fun b hb=>⟨new b (R.new b hb).1,(R.new b hb).2⟩⟩
  |bx nw ty cells =>
    obtain ⟨⟨q,g1,g2⟩,rp⟩:=rp
    cases nw with
   |true=>exact ⟨own,⟨⟨q,g1,fun e=>by cases e⟩,rp⟩,fun b hb=>⟨new b (R.new b hb).1,(R.new b hb).2⟩⟩
   |false =>
     obtain ⟨r1,e1,e2,e3,e4⟩:=g2 rfl
     have own':Own w' 0 (Row.bx r1.nw ty cells).ty (Row.bx r1.nw ty cells).sz (ρ' id) (Row.bx r1.nw ty cells).len (xs' id):=R.own
     have hl:Row.lit (rlk S.st id) (.bx false ty cells)=.bx r1.nw ty cells:=by rw [e1];rfl
     rw [hl];refine ⟨own',⟨⟨q,g1,fun e=>e4 e⟩,rp⟩,fun b hb=>⟨new b (R.new b hb).1,fun e=>?_⟩⟩
     have eb:q=b:=by rw [g1] at hb;exact Option.some.inj hb
     subst eb;exact e3 e
 ·have hi:rlk (qFq S.st S'.st) i=some r:=hi
  have hj:rlk (qFq S.st S'.st) j=some s:=hj
  rw [qEf] at hi hj
  cases h:rlk S'.st i with
 |none=>rw [h] at hi;cases hi
 |some r0 =>
   cases h':rlk S'.st j with
  |none=>rw [h'] at hj;cases hj
  |some s0=>exact G'.apart i j r0 s0 b hne h h' hbi hbj
 ·obtain ⟨v,h1,h2⟩:=G'.env k x hk;exact ⟨v,h1,h2.up (Nat.le_refl _) (fun _ _ _=>rfl) (fun b _=>hA b) (Nat.le_refl _)⟩
 ·rcases hO b hT with h1|h1
  ·omega
  ·exact h1
theorem qQe {hn:c.n0≤w.heap.size} (G:Good c S look w ρ xs) (M:MsOk P c w g) (G':Good (Go.Eng.pinM c w ρ S.st g hn) S' look' w' ρ' xs') (hd:∀ b ∈ bsL g,dullB w' b) :
  w.heap.size≤w'.heap.size∧(∀ b o u,b < w.heap.size→¬ c.A ρ S.st b→w.cell? ⟨b,o,none⟩=some u→w'.cell? ⟨b,o,none⟩=some u)∧∀ b,b < w.heap.size→(Go.Eng.pinM c w ρ S.st g hn).A ρ' S'.st b→c.A ρ S.st b:=by
 refine ⟨G'.kept.size,fun b o u hb h hu=>?_,?_⟩
 ·by_cases hm:b ∈ bsL g
  ·exact ((M.inB hm).1.cell hu).elim
  ·rw [fP (G'.kept.block b hb fun h'=>by
    rcases h' with h'|h'
    ·exact h (.inr h')
    ·exact hm h')]
   exact hu
 ·rintro b hb (h|⟨i,r,hi,hbi⟩)
  ·exact h.1
  ·rcases ((G'.rows i r hi).new b hbi).1 with h|h|h
   ·have h:w.heap.size≤b:=h
    omega
   ·exact .inr h
   ·exact (gR G' (hd b h) ⟨i,r,hi,hbi⟩).elim
theorem RepH.laterM {hn:c.n0≤w.heap.size} (G:Good c S look w ρ xs) (M:MsOk P c w g) (G':Good (Go.Eng.pinM c w ρ S.st g hn) S' look' w' ρ' xs') (hd:∀ b ∈ bsL g,dullB w' b) {v:Value} {h:HV} (hr:RepH w (c.A ρ S.st) c.n0 ρ v h) (hs:zNs S'.st h):RepH w' ((Go.Eng.pinM c w ρ S.st g hn).A ρ' S'.st) c.n0 ρ' v h:=by
 obtain ⟨h1,h2,h3⟩:=qQe G M G' hd
 cases hr with
|v=>exact .v _
|lst h=>exact .lst (h.upc h1 h2 h3 (Nat.le_refl _))
|elt h a b=>exact .elt (h.upc h1 h2 h3 (Nat.le_refl _)) a b
|ptr sz i k h =>
  obtain ⟨t,cs,hb⟩:=hs;obtain ⟨q,e1,e2⟩:=(G'.rows _ _ hb).rep.1;obtain ⟨r1,-,e3,-,-⟩:=e2 rfl;exact .ptr sz i k (by rw [e1,← e3];exact h)
|own=>exact hs.elim
|vw=>exact hs.elim
|agg=>exact hs.elim
|tup=>exact hs.elim
|junk=>exact hs.elim
theorem qYh (I:Inv c S look w) (M:MsOk P c w g):∃ c1:Ctx,Inv c1 S look w∧MsOk P c1 w g∧∀ S' look' w' g',Inv c1 S' look' w'→MsOk P c1 w' g'→Inv c S' look' w'∧MsOk P c w' g'∧∀ B,(∀ b ∈ bsL g,b < B)→KeepsFrom B w w':=by
 obtain ⟨ρ,xs,G⟩:=I
 have hO:∀ b,dD ρ S.st b∨b ∈ bsL g→c.w0.heap.size≤b∨c.T b:=by
  rintro b (⟨i,s,hi,hb⟩|h)
  ·exact ((G.rows i s hi).new b hb).1
  ·exact (M.inB h).2
 have hA:∀ b,Ctx.A ⟨w,fun b=>dD ρ S.st b∨b ∈ bsL g,fun b=>c.A ρ S.st b∧¬ dD ρ S.st b,c.n0,Nat.le_trans c.hn G.kept.size,c.B⟩ ρ S.st b→c.A ρ S.st b:=by
  rintro b (h|h)
  ·exact h.1
  ·exact .inr h
 refine ⟨⟨w,fun b=>dD ρ S.st b∨b ∈ bsL g,fun b=>c.A ρ S.st b∧¬ dD ρ S.st b,c.n0,Nat.le_trans c.hn G.kept.size,c.B⟩,⟨ρ,xs,fun i s hi=>?_,G.apart,fun k x hk=>?_,Kept.refl _ _,fun b hb=>⟨G.ltA hb.1,?_⟩⟩,⟨M.ok,M.nd,fun i m b hi hb=>.inr (.inr (qKj hi hb))⟩,fun S' look' w' g' ⟨ρ',xs',G'⟩ M'=>?_⟩
 ·exact ((G.rows i s hi).up (Nat.le_refl _) (fun _ _ _=>rfl) (fun b _=>hA b) (fun _ _=>rfl)).ctx rfl rfl fun b hb=>.inr (.inl ⟨i,s,hi,hb⟩)
 ·obtain ⟨v,a,b⟩:=G.env k x hk;exact ⟨v,a,b.up (Nat.le_refl _) (fun _ _ _=>rfl) (fun b _=>hA b) (Nat.le_refl _)⟩
 ·rintro (h|h)
  ·exact hb.2 h
  ·exact G.noMap M hb.1 h
 have hAA:∀ b,c.A ρ' S'.st b→Ctx.A ⟨w,fun b=>dD ρ S.st b∨b ∈ bsL g,fun b=>c.A ρ S.st b∧¬ dD ρ S.st b,c.n0,Nat.le_trans c.hn G.kept.size,c.B⟩ ρ' S'.st b:=by
  rintro b (h0|h0)
  ·refine .inl ⟨.inl h0,fun ho=>?_⟩
   have h1:=G.a0 b h0
   rcases hO b (.inl ho) with h2|h2
   ·omega
   ·exact h1.2 h2
  ·exact .inr h0
 have hsz:=G.kept.size
 have new:∀ b,w.heap.size≤b∨(dD ρ S.st b∨b ∈ bsL g)→c.w0.heap.size≤b∨c.T b:=fun b h=>by
  rcases h with h1|h1
  ·exact .inl (by omega)
  ·exact hO b h1
 refine ⟨⟨ρ',xs',fun i s hi=>?_,G'.apart,fun t y hy=>?_,G.kept.trans G'.kept fun b hb hT=>?_,G.a0⟩,⟨M'.ok,M'.nd,fun i m b hi hb=>new b (M'.foot i m b hi hb)⟩,fun B hB=>⟨G'.kept.size,fun k o hkB hk ho=>(G'.kept.block k (Array.getElem?_eq_some_iff.1 hk).1 fun h=>?_).trans hk⟩⟩
 ·have R:=G'.rows i s hi
  exact (R.up (Nat.le_refl _) (fun _ _ _=>rfl) (fun b _=>hAA b) (fun _ _=>rfl)).ctx rfl rfl fun b hb=>new b (R.new b hb).1
 ·obtain ⟨v,h1,h2⟩:=G'.env t y hy;exact ⟨v,h1,h2.up (Nat.le_refl _) (fun _ _ _=>rfl) (fun b _=>hAA b) (Nat.le_refl _)⟩
 ·rcases hO b hT with h1|h1
  ·omega
  ·exact h1
 ·rcases h with h|h
  ·exact qKb G hk ho h
  ·have:=hB k h;omega
end
section
variable {P:Program} {N:Nat} {fn:Func} {st0:aF} {g0:MS} {Q:HV→aF→MS→Prop} {S S':HS} {g:MS}
def zT0 (P:Program) (c:Ctx) (st0:aF) (g0:MS) (Q:HV→aF→MS→Prop) (v:Value) (w':World):Prop :=
 ∃ h st' g' ρ' xs',(∀ i r,rlk st' i=some r→i < 8)∧(∀ j,iW (rlk st0 j)→iW (rlk st' j))∧(∃ m,bsL g'=bsL g0 ++ m)∧Q h st' g'∧Good c ⟨[],st'⟩ (fun _=>none) w' ρ' xs'∧MsOk P c w' g'∧RepH w' (c.A ρ' st') c.n0 ρ' v h
def HMM (P:Program) (N:Nat) (fn:Func) (st0:aF) (g0:MS) (Q:HV→aF→MS→Prop) (x:Code) (g:MS) (S:HS):Prop :=
 ∀ (c:Ctx) (l:Env) (w:World),Inv c S (lk l) w→MsOk P c w g→MD P N fn (zT0 P c st0 g0 Q) [] x l w
theorem qTt {x y:Code} (h:HWM P N x (fun e g' S'=>e=.normal∧HMM P N fn st0 g0 Q y g' S') g S):HMM P N fn st0 g0 Q (.seq x y) g S:=fun c l w I M =>
 zRc ((h c l w I M).mono fun e l' w' ⟨S',g',I',M',he,h'⟩=>⟨he,h' c l' w' I' M'⟩)
theorem zLz {x:Code} (ks ids:List Nat) {S':HS} (he:S.keep ks ids=S') (h:HMM P N fn st0 g0 Q x g S'):HMM P N fn st0 g0 Q x g S:=fun c l w I M=>h c l w (by rw [← he];exact I.keep ks ids) M
theorem zLy {x:Code} (id:Nat) {S':HS} {ty sz:Nat} {nw:Bool} {els:List (List FV)} (hr:rlk S.st id=some (.sl nw ty sz els)) (hs:S.rest id (.lst nw els)=S') (h:HMM P N fn st0 g0 Q x g S'):HMM P N fn st0 g0 Q x g S:=fun c l w I M=>h c l w (by rw [← hs];exact I.rest hr) M
theorem zQp {f:FuncId} {x:Code} {args:List HV} (hf:P.funcs[f]?=some fn) (hb:fn.body=some x) (hN:fn.ntmps=N) (hle:args.length≤N) (h:HMM P N fn st0 g0 Q x g0 ⟨rB 0 args,st0⟩):HFunM P f args st0 g0 Q:=fun c w ρ xs vs hw G M RR=>by
 refine qXy hf hb hN (by rw [RR.1];exact hle) (h c _ w ⟨ρ,xs,G.rows,G.apart,fun k h hk=>?_,G.kept,G.a0⟩ M)
 obtain ⟨-,h2⟩:=tU args 0 k h hk;rw [Nat.sub_zero] at h2;obtain ⟨hlt,rfl⟩:=List.getElem?_eq_some_iff.1 h2
 have hlt':k < vs.length:=by rw [RR.1];exact hlt
 exact ⟨vs[k],xU vs 0 k _ (Nat.zero_le _) (by simp [hlt']),RR.2 k hlt' hlt⟩
theorem qCx {l:Env} {a k:Nat} {v:Value} (h:a≠k):lk ((a,v) :: l) k=lk l k:=by simp only [lk];rw [if_neg h]
theorem MsOk.snoc {c:Ctx} {w:World} {g:MS} {D:Nat} (M:MsOk P c w g) (hd:w.heap[D]?=some (.deferred (some []))) (hm:D ∉ bsL g) (hc:c.w0.heap.size≤D):MsOk P c w (g ++ [.dfr D]):=by
 have at':∀ {i:Nat} {m:MO},(g ++ [MO.dfr D])[i]?=some m→g[i]?=some m∨(i=g.length∧m=.dfr D):=fun {i m} h=>by
  rcases Nat.lt_or_ge i g.length with hl|hl
  ·rw [List.getElem?_append_left hl] at h;exact .inl h
  ·rw [List.getElem?_append_right hl] at h
   have:i - g.length=0:=by
    rcases Nat.eq_zero_or_pos (i - g.length) with h0|h0
    ·exact h0
    ·rw [List.getElem?_eq_none (by simp;omega)] at h;cases h
   rw [this] at h;simp only [List.getElem?_cons_zero,Option.some.injEq] at h;exact .inr ⟨by omega,h.symm⟩
 refine ⟨fun i m hi=>?_,fun i j m m' b hne hi hj hb hb'=>?_,fun i m b hi hb=>?_⟩
 ·rcases at' hi with h|⟨-,rfl⟩
  ·exact M.ok i m h
  ·exact hd
 ·rcases at' hi with h|⟨e,rfl⟩
  ·rcases at' hj with h'|⟨e',rfl⟩
   ·exact M.nd i j m m' b hne h h' hb hb'
   ·simp only [MO.bs,List.mem_singleton] at hb';subst hb';exact hm (qKj h hb)
  ·simp only [MO.bs,List.mem_singleton] at hb;subst hb
   rcases at' hj with h'|⟨e',rfl⟩
   ·exact hm (qKj h' hb')
   ·exact hne (by omega)
 ·rcases at' hi with h|⟨-,rfl⟩
  ·exact M.foot i m b h hb
  ·simp only [MO.bs,List.mem_singleton] at hb;subst hb;exact .inl hc
theorem MsOk.unsnoc {c:Ctx} {w:World} {g:MS} {D:Nat} (M:MsOk P c w (g ++ [.dfr D])):MsOk P c w g∧w.heap[D]?=some (.deferred (some []))∧D ∉ bsL g:=by
 have up:∀ {i:Nat} {m:MO},g[i]?=some m→(g ++ [MO.dfr D])[i]?=some m:=fun {i m} h=>by
  rw [List.getElem?_append_left (List.getElem?_eq_some_iff.1 h).1];exact h
 have last:(g ++ [MO.dfr D])[g.length]?=some (.dfr D):=by simp
 refine ⟨⟨fun i m hi=>M.ok i m (up hi),fun i j m m' b hne hi hj=>M.nd i j m m' b hne (up hi) (up hj),fun i m b hi=>M.foot i m b (up hi)⟩,M.ok _ _ last,fun h=>?_⟩
 obtain ⟨m,hm,hb⟩:=List.mem_flatMap.1 h;obtain ⟨i,hi⟩:=List.mem_iff_getElem?.1 hm;exact M.nd i g.length m (.dfr D) D (Nat.ne_of_lt (List.getElem?_eq_some_iff.1 hi).1) (up hi) last hb (by simp [MO.bs])
theorem zFg {reg assign body rest:Code} {tg t13 ti tx ta b0 t1:Nat} {tsl ty:TypeId} {gf:FuncId} {env:bL} {st:aF} {fr:Bool} {xs:List (List FV)} (E:List (Fin xs.length)→aF) (G:List (Fin xs.length)→MS)
  (hN:tx < N∧ti < N∧ta < N) (hix:ti≠tx∧tx≠ta∧ti≠ta) (h1:hlk env t1=some (.lst fr xs)) (h3:∀ x ∈ xs,x.length=3)
  (hfr:∀ k x,hlk env k=some x→tg≠k∧t13≠k∧ti≠k∧tx≠k∧ta≠k)
  (hE0:E []=vM st) (hG0:G []=g) (hGb:∀ pre,bsL (G pre)=bsL g) (hst:∀ pre k h,hlk env k=some h→zNs (E pre) h)
  (hty:∀ pre id r,rlk (E pre) id=some r→r.ty=ty→∃ cs,r=.bx false ty cs)
  (hreg:∀ (l:Env) (w:World) (a:Option Addr) (n cap:Nat),lk l t1=some (.slice a n cap)→W P N reg (fun e l' w'=>e=.normal∧l'=(tg,.func (.func gf) #[] #[.pointer (some ⟨w.heap.size,0,none⟩)]) :: (t13,.slice a n cap) :: l∧w'=w.alloc (.cells #[.slice a n cap] tsl)) l w)
  (eg:∀ args w,(callFunc gf args).run P w=.ok (.enter gf args) w)
  (hseq:∀ (W:World) (Bs:Nat) (sv:Value) (T:Nat→Prop) (vals:Nat→Nat→Value),T Bs→(∀ k,T k→k < W.heap.size)→W.cell? ⟨Bs,0,none⟩=some sv→BkE T W sv xs.length vals →
   SeqStopsK Fence.wide 1 P gf #[.pointer (some ⟨Bs,0,none⟩)] (fun j:Fin xs.length=>#[.int .i64 ((j:Nat):Int),.agg #[vals j 0,vals j 1,vals j 2]]) (Stay T) (fun ys=>ys=(List.finRange xs.length).reverse) (fun ys=>∃ k,ys=(List.finRange xs.length).reverse.take k) xs.length W)
  (hasg:∀ (l:Env) (w:World) (v0 v1 v2:Value),v0.oneCell'=true→v1.oneCell'=true→v2.oneCell'=true→lk l tx=some (.agg #[v0,v1,v2]) →
   W P N assign (fun e l' w'=>e=.normal∧l'=(ta,.pointer (some ⟨w.heap.size,0,none⟩)) :: l∧Below w.heap.size w w'∧w'.heap[w.heap.size]?=some (.cells #[v0,v1,v2] ty (0,0))) l w)
  (hbody:∀ (pre:List (Fin xs.length)) (j:Fin xs.length),pre.length < xs.length→HWM P N body (fun e g' S'=>(e=.normal∧g'=G (pre ++ [j])∧∃ ids,rR ids S'.st=E (pre ++ [j]))∨(e=.ret∧¬ ∃ k,pre ++ [j]=(List.finRange xs.length).reverse.take k)) (G pre) ⟨(ta,.elt true [xs[j]] 3 0 0) :: env,E pre⟩)
  (hrest:∀ D,HWM P N rest (fun e g' S=>(e=.normal∨e=.ret)∧∃ g2,g'=g2 ++ [.dfr D]∧kU P S fn.results.toList fun hs=>qNs st0 g0 g2 S (sX hs) Q) (G (List.finRange xs.length).reverse ++ [.dfr D]) ⟨env,qFq st (E (List.finRange xs.length).reverse)⟩) :
  HMM P N fn st0 g0 Q (.seq (.seq reg (.block b0 (.rangeFunc (.tmp tg) #[ti,tx] assign body))) rest) g ⟨env,st⟩:=fun c l w I M hk F hF=>by
 obtain ⟨ρ,ys,GG⟩:=I;obtain ⟨v1,hv1,hr1⟩:=GG.env t1 _ h1
 cases hr1 with
|lst hr1 =>
 cases hr1 with
|@lst a n cap _ _ sz vals hn hcap hm hnil hsz ha hone uM =>
 have h13:=hreg l w a n cap hv1 hk F
 rw [hF] at h13;refine wpIn_seq (wpIn_seq (Code.wpIn_mono ?_ h13));rintro e A1 w1 ⟨F1,l1,hf1,rfl,hk1,rfl,rfl,rfl⟩;show (Code.block b0 _).wpIn Fence.wide 0 P _ _ _
 refine wpIn_block ?_;refine wpIn_wide.2 (wpIn_wide (n:=2).1 ?_)
 -- the world behind slices.Backward
 obtain ⟨w1,hw1⟩:∃ w1,w.alloc (.cells #[.slice a n cap] tsl)=w1:=⟨_,rfl⟩
 have hsz1:w1.heap.size=w.heap.size + 1:=by rw [← hw1];exact World.size_alloc _ _
 have hb1:Below w.heap.size w w1:=by rw [← hw1];exact (Below.refl _ w).alloc (Nat.le_refl _) _
 have hBs:w1.cell? ⟨w.heap.size,0,none⟩=some (.slice a n cap):=by
  rw [← hw1];unfold World.cell?;rw [World.alloc_heap_new];rfl
 have ltO:∀ b,dD ρ st b→b < w.heap.size:=fun b ⟨i,s,hi,hb⟩=>GG.lt hi hb
 obtain ⟨lg,hlg⟩:∃ lg,((tg,Value.func (.func gf) #[] #[.pointer (some ⟨w.heap.size,0,none⟩)]) :: (t13,Value.slice a n cap) :: l:Env)=lg:=⟨_,rfl⟩
 have lkl:∀ k x,hlk env k=some x→lk lg k=lk l k:=fun k x hx=>by
  obtain ⟨q1,q2,-⟩:=hfr k x hx;rw [← hlg,qCx q1,qCx q2]
 have G1:Good c ⟨env,st⟩ (lk lg) w1 ρ ys:=by
  have:=GG.below hb1
  exact ⟨this.rows,this.apart,fun k x hx=>by rw [lkl k x hx];exact this.env k x hx,this.kept,this.a0⟩
 have hlk1:bH N lg=true:=by rw [← hlg];exact hk1
 have hgv:lk lg tg=some (.func (.func gf) #[] #[.pointer (some ⟨w.heap.size,0,none⟩)]):=by rw [← hlg];simp [lk]
 rw [hw1,hlg]
 have M1:MsOk P c w1 g:=M.block fun b hb _=>hb1.block b hb.lt
 have ltM:∀ b ∈ bsL g,b < w.heap.size:=fun b hb=>(M.inB hb).1.lt
 have hcn:c.n0≤w1.heap.size:=Nat.le_trans c.hn G1.kept.size
 -- what stays
 obtain ⟨T,hT⟩:∃ T:Nat→Prop,T=fun b=>b=w.heap.size∨(b < w.heap.size∧¬ c.A ρ st b∧b ∉ bsL g):=⟨_,rfl⟩
 have hTl:∀ k,T k→k < w1.heap.size:=fun k h=>by rw [hT] at h;rcases h with rfl|h <;> omega
 have hTO:∀ k,T k→¬ (dD ρ st k∨k ∈ bsL g):=fun k h ho=>by
  rw [hT] at h
  rcases h with rfl|h
  ·rcases ho with ho|ho
   ·exact absurd (ltO _ ho) (by omega)
   ·exact absurd (ltM _ ho) (by omega)
  ·rcases ho with ho|ho
   ·exact h.2.1 (.inr ho)
   ·exact h.2.2 ho
 subst hn
 have hsz3:0 < xs.length→sz=3:=fun h=>by
  have:=hsz xs[0] (List.getElem_mem h)
  rw [h3 _ (List.getElem_mem h)] at this;exact this.symm
 have hBk:BkE T w1 (.slice a xs.length cap) xs.length vals:=⟨a,cap,rfl,fun hpos=>by
  obtain ⟨b,off,e,q1,q2,q3,q4⟩:=ha hpos
  have c0:=q4 0 0 hpos (by rw [hsz3 hpos];decide)
  refine ⟨b,off,e,by rw [hT];exact .inr ⟨q2,q1,fun hm=>(M.inB hm).1.cell c0⟩,fun i k hi hk=>?_⟩
  have:=q4 i k hi (by rw [hsz3 hpos];exact hk)
  rw [hsz3 hpos] at this;exact (hb1.cell (p:=⟨b,off + (i * 3 + k),none⟩) q2).trans this⟩
 have hsq:=hseq w1 w.heap.size _ T vals (by rw [hT];exact .inl rfl) hTl hBs hBk
 -- the loop's state: the variables' places are known
 let c1:Ctx:=pinM c w1 ρ st g hcn
 let Iv:List (Fin xs.length)→World→Prop:=fun pre W=>∃ ρ' xs',Good c1 ⟨[],E pre⟩ (fun _=>none) W ρ' xs'∧MsOk P c1 W (G pre)
 have stay:∀ {pre pre':List (Fin xs.length)} {W W':World},Iv pre W→Iv pre' W'→Stay T W W':=fun ⟨ρ1,_,g1,_⟩ ⟨ρ2,_,g2,_⟩ k hk =>
  (g2.kept.block k (hTl k hk) (hTO k hk)).trans (g1.kept.block k (hTl k hk) (hTO k hk)).symm
 have hown:∀ B,B=w1.heap.size→OwnFrom B Iv:=fun B hB pre W W' row ⟨ρ',xs',q,m⟩ hg hr=>⟨ρ',xs',q.grown hg fun r e=>⟨by have:=(hr r e).1;rw [hB] at this;exact this,(hr r e).2⟩,m.grown hg fun r e hm=>by
  rw [hGb] at hm
  have:=ltM r hm
  have:=(hr r e).1
  rw [hB] at this;omega⟩
 -- what reads,at any later world
 have later:∀ {pre:List (Fin xs.length)} {W:World} {ρ':Nat→Value} {xs':Nat→List Value},Good c1 ⟨[],E pre⟩ (fun _=>none) W ρ' xs'→MsOk P c1 W (G pre)→∀ {v h},RepH w1 (c.A ρ st) c.n0 ρ v h→zNs (E pre) h→RepH W (c1.A ρ' (E pre)) c.n0 ρ' v h :=
  by
   intro pre W ρ' xs' q m v h hr hs;exact RepH.laterM (S:=⟨env,st⟩) (hn:=hcn) (S':=⟨[],E pre⟩) G1 M1 q (fun b hb=>(m.inB (by rw [hGb];exact hb)).1) hr hs
 have I0:Iv [] w1:=⟨ρ,ys,by
  have:=G1.pinM M1 hcn
  rw [← hE0] at this;exact ⟨⟨this.1.rows,this.1.apart,fun k x hx=>by simp [hlk] at hx,this.1.kept,this.1.a0⟩,by rw [hG0];exact this.2⟩⟩
 let cv:Fin xs.length→Array Value:=fun j=>#[vals j 0,vals j 1,vals j 2]
 let Ax:Fin xs.length→Act→World→Prop:=fun j a' W'=>∃ (F':Fr N) (g9:Nat),F'.ds.1=[]∧a'=mk F' ((ta,.pointer (some ⟨g9,0,none⟩)) :: (tx,.agg (cv j)) :: (ti,.int .i64 ((j:Nat):Int)) :: lg)∧w1.heap.size≤g9∧W'.heap[g9]?=some (.cells (cv j) ty (0,0))
 have hone3:∀ (j:Fin xs.length) k,k < 3→(vals j k).oneCell'=true:=fun j k hk=>hone j k j.2 (by rw [hsz3 (by have:=j.2;omega)];exact hk)
 have hF1:F1.ds=([],none):=by rw [hf1]
 refine wpIn_rangeFunc_ownH (F:=Fence.wide) (Kp:=Stay T) (w0:=w1) rfl (by decide) (gf:=gf) (lb:=#[.pointer (some ⟨w.heap.size,0,none⟩)]) (gV F1 hlk1 (x:=.tmp tg) hgv) trivial eg hsq
  (fun h k b hb=>(k b hb).trans (h b hb)) (fun W l' o o' hl _ _ _ k hk=>World.putObj_heap_other (by have:=hTl k hk;omega)) (Below.refl _ _) (fun x=>rfl)
  Iv (fun _ ys _=>¬ ∃ k,ys=(List.finRange xs.length).reverse.take k) (hown _ rfl) (fun _ _ _ _ _ h _ _=>h) I0 Ax ?_ ?_ ?_ ?_ ?_
 · -- what the assignment leaves abides
  rintro j a' u W W' row ⟨F',g9,e1,e2,e3,e4⟩ hg hr;refine ⟨F',g9,e1,e2,e3,(hg.block g9 (Array.getElem?_eq_some_iff.1 e4).1 fun e=>?_).trans e4⟩
  obtain ⟨_,o,ho,hc'⟩:=hr g9 e.symm;rw [e4] at ho
  cases ho
  cases hc'
 · -- the assignment
  intro l' pre j W K hI hK
  let F2:Fr N:=⟨F1.base,F1.hN,([],some l')⟩
  let l2:Env:=(tx,.agg (cv j)) :: (ti,.int .i64 ((j:Nat):Int)) :: lg
  have hk2:bH N l2=true:=by
   simp only [l2,bH,Bool.and_eq_true];exact ⟨Nat.ble_eq_true_of_le hN.1,Nat.ble_eq_true_of_le hN.2.1,hlk1⟩
  have hw:=hasg l2 W (vals j 0) (vals j 1) (vals j 2) (hone3 j 0 (by decide)) (hone3 j 1 (by decide)) (hone3 j 2 (by decide)) (by simp [l2,lk,cv]) hk2 F2
  have ea:({ tmps:=((#[ti,tx]:Array Tmp).zip #[Value.int .i64 ((j:Nat):Int),.agg #[vals j 0,vals j 1,vals j 2]]).foldl (fun t (p,v)=>t.setIfInBounds p v) (mk F1 lg).tmps,defers:=[] }:Act)=mk F2 l2:=by simp [mk,fR,l2,F2,cv]
  rw [← ea] at hw;refine Code.wpIn_mono ?_ (show assign.wpIn (FW (some l')) 0 P _ _ W from hw)
  rintro e a' W' ⟨F3,l3,hf3,rfl,hk3,rfl,rfl,hbW,hcl⟩;obtain ⟨ρ',xs',q,m⟩:=hI
  have hI':Iv pre W':=⟨ρ',xs',q.below hbW,m.block fun b hb _=>hbW.block b hb.lt⟩
  refine hK _ _ ⟨hbW.size,fun k o _ hk _=>(hbW.block k (Array.getElem?_eq_some_iff.1 hk).1).trans hk⟩ (fun k hk=>?_) hI' ⟨F3,W.heap.size,by rw [hf3],rfl,?_,hcl⟩
  ·have hkl:k < W.heap.size:=Nat.lt_of_lt_of_le (hTl k hk) q.kept.size
   exact hbW.block k hkl
  ·exact q.kept.size
 · -- the body
  rintro l' pre j a' W hl hrec ⟨ρ',xs',g,m⟩ ⟨F',g9,e1,rfl,e3,e4⟩ hlen
  have hz:0 < xs.length:=by omega
  have hg9:g9 < W.heap.size:=(Array.getElem?_eq_some_iff.1 e4).1
  -- no row lies gX
  have hno:¬ c1.A ρ' (E pre) g9:=by
   rintro (h|⟨i,r,hi,hb⟩)
   ·have:=(g.a0 g9 h).1
    have e:c1.w0.heap.size=w1.heap.size:=rfl
    omega
   ·have R:=g.rows i r hi
    rcases R.own.2 with ⟨h2,_⟩|⟨g',cap',cur,h2,_,h5,_⟩
    ·rw [h2] at hb;cases hb
    ·rw [h2] at hb;simp only [Value.ownBlock,Option.some.injEq] at hb;subst hb;rw [e4] at h5;simp only [Option.some.injEq,Obj.cells.injEq] at h5;obtain ⟨cs,rfl⟩:=hty pre i r hi h5.2.1.symm;obtain ⟨g2,q1,q2⟩:=R.rep.1;rw [q1] at h2;simp only [Value.slice.injEq,Option.some.injEq,Addr.mk.injEq] at h2;obtain ⟨r0,hr0,hq2,-,-⟩:=q2 rfl
     have:=G1.lt (b:=g2) hr0 (by rw [hq2];rfl)
     have:=h2.1.1
     omega
  let l2:Env:=(ta,.pointer (some ⟨g9,0,none⟩)) :: (tx,.agg (cv j)) :: (ti,.int .i64 ((j:Nat):Int)) :: lg
  have hk2:bH N l2=true:=by
   simp only [l2,bH,Bool.and_eq_true];exact ⟨Nat.ble_eq_true_of_le hN.2.2,Nat.ble_eq_true_of_le hN.1,Nat.ble_eq_true_of_le hN.2.1,hlk1⟩
  have hj3:(xs[j]).length=3:=h3 _ (List.getElem_mem _)
  have hlst:RepF W (c1.A ρ' (E pre)) c.n0 (.slice (some ⟨g9,0,none⟩) 1 1) (.lst true [xs[j]]):=by
   refine .lst 3 (fun _ k=>vals j k) rfl (Nat.le_refl _) (by decide) (fun h=>by cases h) (fun x hx=>by rw [List.mem_singleton.1 hx];exact hj3) (fun _=>⟨g9,0,rfl,hno,hg9,fun _=>by omega,fun i k hi hk=>?_⟩) (fun i k hi hk=>hone3 j k hk) (fun i k hi hk=>?_)
   ·obtain rfl:i=0:=by omega
    match k,hk with
   |0,_=>simp [World.cell?,e4,cv]
   |1,_=>simp [World.cell?,e4,cv]
   |2,_=>simp [World.cell?,e4,cv]
   ·obtain rfl:i=0:=by have hi':i < 1:=hi;omega
    obtain ⟨q1,q2,q3⟩:=qQe (S:=⟨env,st⟩) (hn:=hcn) G1 M1 g (fun b hb=>(m.inB (by rw [hGb];exact hb)).1)
    have hk':k < (xs[j]).length:=by simpa using hk
    have:=(uM j k j.2 hk').up hb1.size (fun b hb _=>hb1.block b hb) (A':=c.A ρ st) (fun b _ h=>h) (Nat.le_refl _)
    exact this.upc q1 q2 q3 (Nat.le_refl _)
  have I9:Inv c1 ⟨(ta,.elt true [xs[j]] 3 0 0) :: env,E pre⟩ (lk l2) W:=by
   refine ⟨ρ',xs',g.rows,g.apart,fun k x hx=>?_,g.kept,g.a0⟩
   by_cases e:ta=k
   ·subst e;simp only [hlk,if_true,Option.some.injEq] at hx;subst hx;refine ⟨_,by simp [l2,lk];rfl,?_⟩
    have:=RepH.elt (ρ:=ρ') (sz:=3) (i:=0) (k:=0) hlst (fun x hx=>by rw [List.mem_singleton.1 hx];exact hj3) (by simp)
    exact this
   ·simp only [hlk] at hx;rw [if_neg e] at hx;obtain ⟨q1,q2,q3,q4,q5⟩:=hfr k x hx;obtain ⟨v,u1,u2⟩:=G1.env k x hx;refine ⟨v,by simp only [l2];rw [qCx q5,qCx q4,qCx q3];exact u1,later g m u2 (hst pre k x hx)⟩
  obtain ⟨c3,I3,M3,back⟩:=qYh I9 m
  have hw:=hbody pre j hlen c3 l2 W I3 M3 hk2 ⟨F'.base,F'.hN,([],some l')⟩
  have ea:mk F' l2=mk (N:=N) ⟨F'.base,F'.hN,([],some l')⟩ l2:=by
   show Act.mk _ _=Act.mk _ _
   rw [e1]
  rw [ea];refine Code.wpIn_mono ?_ (show body.wpIn (FW (some l')) 0 P _ _ W from hw)
  rintro e a' W' ⟨F3,l3,hf3,rfl,hk3,S',g',I',M',⟨rfl,rfl,ids,hids⟩|⟨rfl,hnp⟩⟩
  ·obtain ⟨⟨ρ2,xs2,g2⟩,m2,kf⟩:=back S' _ _ _ I' M'
   have hI2:Iv (pre ++ [j]) W':=by
    have:Inv c1 ⟨[],rR ids S'.st⟩ (fun _=>none) W':=Inv.agree (look:=lk l3) (Inv.less ⟨ρ2,xs2,g2⟩ (fun k h e=>by simp [hlk] at e) (fun k h e=>qPi e)) (fun k x hx=>by simp [hlk] at hx)
    rw [hids] at this;obtain ⟨ρ4,xs4,g4⟩:=this;exact ⟨ρ4,xs4,g4,m2⟩
   exact ⟨kf _ (fun b hb=>by rw [hGb] at hb;have:=ltM b hb;omega),stay ⟨ρ',xs',g,m⟩ hI2,hI2⟩
  ·obtain ⟨-,-,kf⟩:=back S' _ _ _ I' M';exact ⟨kf _ (fun b hb=>by rw [hGb] at hb;have:=ltM b hb;omega),hnp⟩
 · -- behind the loop
  rintro D zs W hD rfl ⟨ρ',xs',g,m⟩ hdf;obtain ⟨g2,m2⟩:=G1.unpinM (hn:=hcn) M1 (show Good (pinM c w1 ρ st _ hcn) ⟨env,E (List.finRange xs.length).reverse⟩ (lk lg) W ρ' xs' from ⟨g.rows,g.apart,fun k x hx=>by
   obtain ⟨v,u1,u2⟩:=G1.env k x hx;exact ⟨v,u1,later g m u2 (hst _ k x hx)⟩,g.kept,g.a0⟩) m
  have hDc:c.w0.heap.size≤D:=Nat.le_trans G1.kept.size hD
  have hDm:D ∉ bsL (G (List.finRange xs.length).reverse):=fun h=>by rw [hGb] at h;have:=ltM D h;omega
  have M:MsOk P c W (G (List.finRange xs.length).reverse ++ [.dfr D]):=m2.snoc hdf hDm hDc
  have hr:=hrest D c lg W ⟨ρ',xs',g2⟩ M
  have hend:MD P N fn (zT0 P c st0 g0 Q) [{ target:=.collected D,args:=#[] }] rest lg W:=zRd (hr.mono fun e l' W' ⟨S',g',I',M',he,g3,hg',hres⟩=>by
   subst hg';obtain ⟨m3,hdW,hDn⟩:=M'.unsnoc;refine ⟨he,hdW,?_⟩;obtain ⟨ρ3,xs3,g4⟩:=I'
   have g5:Good c S' (lk l') (W'.putObj D (.deferred none)) ρ3 xs3:=g4.grown (grownBy_putObj' W' D _) fun r e=>by cases e;exact ⟨hDc,_,hdW,rfl⟩
   have m5:MsOk P c (W'.putObj D (.deferred none)) g3:=m3.grown (grownBy_putObj' W' D _) fun r e=>by cases e;exact hDn
   exact resH_resE.resE_mono (resH_resE g5 _ _ hres) fun vs ⟨hs,⟨hm,hR⟩,hv⟩=>by
    obtain ⟨h,st',ρ',xs',a,b,q,r1,r2⟩:=qEh g5 (qC7 hv) hR;exact ⟨h,st',g3,ρ',xs',a,b,hm,q,r1,m5,r2⟩)
  show rest.wpIn (FW none) 0 P _ _ _
  have:=hend hlk1 ⟨F1.base,F1.hN,([{ target:=.collected D,args:=#[] }],none)⟩ rfl
  have ea:({ mk F1 lg with defers:={ target:=.collected D,args:=#[] } :: (mk F1 lg).defers }:Act)=mk (N:=N) ⟨F1.base,F1.hN,([{ target:=.collected D,args:=#[] }],none)⟩ lg:=by
   show Act.mk _ _=Act.mk _ _
   have:(mk F1 lg).defers=[]:=by show F1.ds.1=[];rw [hF1]
   rw [this];rfl
  rw [ea];exact this
 ·rintro D cd pre W _ hs h _;exact (h hs).elim
end
end Go.Eng
