/-
  Maps beside the engine's state: code; functions that are handed maps.
-/
import Derived.Test.YtdmnijnogabchaaDoorMq
set_option linter.unusedSimpArgs false
set_option linter.unusedVariables false
namespace Go.Eng
open Go Go.RowKit Go.Maps
section
variable {P:Program} {N:Nat} {c:Ctx} {S S':HS} {g g':MS} {Q Q':iD} {l:Env} {look:Nat→Option Value} {w w':World} {ρ ρ':Nat→Value} {xs:Nat→List Value} {A A':Nat→Prop} {n0 n1:Nat}
theorem RepF.upq {v:Value} {x:FV} (h:RepF w A n0 v x) (hs:w.heap.size≤w'.heap.size) (hb:∀ b,b < w.heap.size→¬ A b→∀ o u,w.cell? ⟨b,o,none⟩=some u→w'.cell? ⟨b,o,none⟩=some u) (hA:∀ b,b < w.heap.size→A' b→A b) (hn:n1≤n0):RepF w' A' n1 v x:=by
 induction h with
|v x=>exact .v x
|lst sz vals hn hc hm hnil hsz ha h1 hr ih =>
  refine .lst sz vals hn hc hm hnil hsz (fun h0=>?_) h1 (fun i k hi hk=>ih i k hi hk)
  obtain ⟨b,off,ea,h2,h3,h4,h5⟩:=ha h0;exact ⟨b,off,ea,fun hA'=>h2 (hA b h3 hA'),by omega,fun hf=>by have:=h4 hf;omega,fun i k hi hk=>hb b h3 h2 _ _ (h5 i k hi hk)⟩
theorem RepH.upq {v:Value} {x:HV} (h:RepH w A n0 ρ v x) (hs:w.heap.size≤w'.heap.size) (hb:∀ b,b < w.heap.size→¬ A b→∀ o u,w.cell? ⟨b,o,none⟩=some u→w'.cell? ⟨b,o,none⟩=some u) (hA:∀ b,b < w.heap.size→A' b→A b) (hn:n1≤n0):RepH w' A' n1 ρ v x:=by
 induction h with
|v x=>exact .v x
|lst h=>exact .lst (h.upq hs hb hA hn)
|own id h1=>exact .own id h1
|vw sz off m h a b d x e=>exact .vw sz off m h a b d x e
|ptr sz i k h=>exact .ptr sz i k h
|elt h h1 h2=>exact .elt (h.upq hs hb hA hn) h1 h2
|agg hn h1 h ih=>exact .agg hn h1 ih
|tup hn h ih=>exact .tup hn ih
|junk v=>exact .junk v
theorem RowOk.upq {id:Nat} {r:Row} {ys:List Value} (h:RowOk w A c ρ id r ys) (hs:w.heap.size≤w'.heap.size) (hb:∀ b,b < w.heap.size→¬ A b→∀ o u,w.cell? ⟨b,o,none⟩=some u→w'.cell? ⟨b,o,none⟩=some u) (hA:∀ b,b < w.heap.size→A' b→A b)
  (ho:∀ b,(ρ id).ownBlock=some b→w'.heap[b]?=w.heap[b]?):RowOk w' A' c ρ id r ys:=by
 refine ⟨h.own.block ho,?_,h.new⟩
 have:=h.rep
 cases r with
|sl n t s els =>
  refine ⟨this.1,fun i k hi hk=>?_⟩
  obtain ⟨u,h1,h2,h3⟩:=this.2 i k hi hk;exact ⟨u,h1,h2,h3.upq hs hb hA (Nat.le_refl _)⟩
|bx n t cs =>
  refine ⟨this.1,fun k hk=>?_⟩
  obtain ⟨u,h1,h2,h3⟩:=this.2 k hk;exact ⟨u,h1,h2,h3.upq hs hb hA (Nat.le_refl _)⟩
|hl n t s els =>
  refine ⟨this.1,fun i k hi hk=>?_⟩
  obtain ⟨u,h1,h2,h3⟩:=this.2 i k hi hk;exact ⟨u,h1,h2,h3.upq hs hb hA (Nat.le_refl _)⟩
theorem qW4 {args:List HV} (n:Nat) (ids:List Nat) (hd:dup ids=false) (hlen:ids.length≤8) (hids:∀ i ∈ ids,cE n i=false) (T0:Nat→Prop) {vs:List Value}
  (G:Good c S look w ρ xs) (hT0:∀ b,T0 b→dullB w b∧(c.w0.heap.size≤b∨c.T b)) (R:jR w (c.A ρ S.st) c.n0 ρ vs args) :
  ∃ (c1:Ctx) (ρ1:Nat→Value) (xs1:Nat→List Value),c1.w0=w∧(∀ b,T0 b→c1.T b)∧(∀ b,dullB w b→¬ T0 b→¬ c1.T b)∧(∀ b,c1.T b→c.w0.heap.size≤b∨c.T b)∧((∀ b,c1.A ρ1 (eQ (pos ids) S.st 0 ids) b→c.A ρ S.st b)∧∀ b,eW ρ1 (eQ (pos ids) S.st 0 ids) b→∃ i r,i ∈ ids∧rlk S.st i=some r∧(ρ i).ownBlock=some b)∧Good c1 ⟨[],eQ (pos ids) S.st 0 ids⟩ (fun _=>none) w ρ1 xs1∧jR w (c1.A ρ1 (eQ (pos ids) S.st 0 ids)) c1.n0 ρ1 vs (args.map (HV.ren (pos ids))) ∧
   ∀ (v:Value) (w2:World) (h:HV) (st2:aC) (ρ2:Nat→Value) (xs2:Nat→List Value),(∀ i r,rlk st2 i=some r→i < 8)→(∀ j,jG (rlk (eQ (pos ids) S.st 0 ids) j)→jG (rlk st2 j))→(∀ b,T0 b→dullB w2 b)→Good c1 ⟨[],st2⟩ (fun _=>none) w2 ρ2 xs2→RepH w2 (c1.A ρ2 st2) c1.n0 ρ2 v h →
    InvV c (S.swap ids n st2) (h.ren (sh2 ids n)) v look w2:=by
  let ρ1:Nat→Value:=fun j=>ρ (ids.getD j 0)
  let xs1:Nat→List Value:=fun j=>xs (ids.getD j 0)
  let st:aC:=eQ (pos ids) S.st 0 ids
  have hgetD:∀ {j i:Nat},ids[j]?=some i→ids.getD j 0=i:=fun h=>by rw [List.getD_eq_getElem?_getD,h];rfl
  have hm:∀ i j,pos ids i=some j→ρ1 j=ρ i:=fun i j h=>by show ρ (ids.getD j 0)=_;rw [hgetD (fF h)]
  have inOwn:∀ b,eW ρ1 st b→∃ (j i:Nat) (r:Row),ids[j]?=some i∧rlk S.st i=some r∧(ρ i).ownBlock=some b:=by
   rintro b ⟨j,r,hj,hb⟩;obtain ⟨_,i,r0,h2,h3,-⟩:=gA hj;rw [Nat.sub_zero] at h2
   have hb:(ρ (ids.getD j 0)).ownBlock=some b:=hb
   rw [hgetD h2] at hb;exact ⟨j,i,r0,h2,h3,hb⟩
  have ownIn:∀ {j i:Nat} {r:Row} {b:Nat},ids[j]?=some i→rlk S.st i=some r→(ρ i).ownBlock=some b→eW ρ1 st b:=fun {j i r b} h2 h3 hb=>by
   have:=sH (m:=pos ids) (k:=0) h2 h3
   rw [Nat.zero_add] at this;exact ⟨j,_,this,by show (ρ (ids.getD j 0)).ownBlock=_;rw [hgetD h2];exact hb⟩
  have ownA:∀ b,eW ρ1 st b→c.A ρ S.st b:=fun b h=>by
   obtain ⟨j,i,r,h2,h3,hb⟩:=inOwn b h;exact .inr ⟨i,r,h3,hb⟩
  have ltA:∀ b,c.A ρ S.st b→b < w.heap.size:=by
   rintro b (h0|⟨i,r,hi,hb⟩)
   ·have:=(G.a0 b h0).1;have:=G.kept.size;omega
   ·exact G.lt hi hb
  have noT0:∀ b,c.A ρ S.st b→¬ T0 b:=by
   rintro b (h0|h0) h1
   ·obtain ⟨a1,a2⟩:=G.a0 b h0
    rcases (hT0 b h1).2 with h|h
    ·omega
    ·exact a2 h
   ·exact jD G (hT0 b h1).1 h0
  let c1:Ctx:=⟨w,fun b=>eW ρ1 st b∨T0 b,fun b=>c.A ρ S.st b∧¬ eW ρ1 st b,c.n0,Nat.le_trans c.hn G.kept.size,fun j g=>∃ (i:Nat) (nw:Bool) (ty:Nat) (cs:List HV),ids[j]?=some i∧rlk S.st i=some (.bx nw ty cs)∧ρ i=.slice (some ⟨g,0,none⟩) 1 1⟩
  have hA1:∀ b,c1.A ρ1 st b→c.A ρ S.st b:=by
   rintro b (h0|h0)
   ·exact h0.1
   ·exact ownA b h0
  have hw0:=G.kept.size
  have G1:Good c1 ⟨[],st⟩ (fun _=>none) w ρ1 xs1:=by
   refine ⟨fun j r hj=>?_,fun i j r s b hne hi hj hbi hbj=>?_,fun k x hk=>by simp [hlk] at hk,Kept.refl _ _,fun b hb=>⟨ltA b hb.1,fun h=>h.elim hb.2 (noT0 b hb.1)⟩⟩
   ·obtain ⟨_,i,r0,h2,h3,rfl⟩:=gA hj;rw [Nat.sub_zero] at h2
    have e:ids.getD j 0=i:=hgetD h2
    have R0:=G.rows i r0 h3
    obtain ⟨f1,f2,f3,f4⟩:=Row.ren_facts (pos ids) r0;obtain ⟨d1,d2,d3⟩:=Row.dark_facts (r0.ren (pos ids));refine ⟨by rw [d1,d2,d3,f1,f2,f3];show Own w 0 _ _ (ρ (ids.getD j 0)) _ (xs (ids.getD j 0));rw [e];exact R0.own,?_,fun b hb=>?_⟩
    ·have:=R0.rep
     cases r0 with
    |sl nw ty sz els =>
      refine ⟨this.1,fun a k ha hk=>?_⟩
      show ∃ u,(xs (ids.getD j 0))[a * sz + k]?=some u∧_
      rw [e];obtain ⟨u,u1,u2,u3⟩:=this.2 a k ha hk;exact ⟨u,u1,u2,u3.up (Nat.le_refl _) (fun _ _ _=>rfl) (fun b _=>hA1 b) (Nat.le_refl _)⟩
    |bx nw ty cells =>
      refine ⟨?_,fun k hk=>?_⟩
      ·show ∃ g,ρ (ids.getD j 0)=_∧_
       rw [e];obtain ⟨g,g1,g2⟩:=this.1;exact ⟨g,g1,fun _=>⟨i,nw,ty,cells,h2,h3,g1⟩⟩
      ·rw [List.length_map] at hk;show ∃ u,(xs (ids.getD j 0))[k]?=some u∧_
       rw [e];obtain ⟨u,u1,u2,u3⟩:=this.2 k hk;refine ⟨u,u1,u2,?_⟩;rw [List.getElem_map];exact (u3.up (Nat.le_refl _) (fun _ _ _=>rfl) (fun b _=>hA1 b) (Nat.le_refl _)).ren hm
    |hl nw ty sz els =>
      refine ⟨fun x hx=>?_,fun a k ha hk=>?_⟩
      ·obtain ⟨y,hy,rfl⟩:=List.mem_map.1 hx;rw [List.length_map];exact this.1 y hy
      ·simp only [List.length_map] at ha;simp only [List.getElem_map,List.length_map] at hk ⊢;show ∃ u,(xs (ids.getD j 0))[a * sz + k]?=some u∧_
       rw [e];obtain ⟨u,u1,u2,u3⟩:=this.2 a k ha hk;exact ⟨u,u1,u2,(u3.up (Nat.le_refl _) (fun _ _ _=>rfl) (fun b _=>hA1 b) (Nat.le_refl _)).ren hm⟩
    ·have hb:(ρ (ids.getD j 0)).ownBlock=some b:=hb
     rw [e] at hb;refine ⟨.inr (.inl (ownIn h2 h3 hb)),fun hnw=>(R0.new b hb).2 ?_⟩
     cases r0 with
    |sl nw ty sz els=>exact hnw
    |bx nw ty cells=>cases hnw
    |hl nw ty sz els=>exact hnw
   ·obtain ⟨_,a,r0,h2,h3,-⟩:=gA hi;obtain ⟨_,d,s0,h4,h5,-⟩:=gA hj;rw [Nat.sub_zero] at h2 h4
    have hbi:(ρ (ids.getD i 0)).ownBlock=some b:=hbi
    have hbj:(ρ (ids.getD j 0)).ownBlock=some b:=hbj
    rw [hgetD h2] at hbi;rw [hgetD h4] at hbj;exact G.apart a d r0 s0 b (fun e=>hne (by subst e;exact qB2 hd h2 h4)) h3 h5 hbi hbj
  have R1:jR w (c1.A ρ1 st) c1.n0 ρ1 vs (args.map (HV.ren (pos ids))):=⟨by rw [List.length_map];exact R.1,fun i h1 h2=>by
   rw [List.getElem_map];exact ((R.2 i h1 (by simpa using h2)).up (Nat.le_refl _) (fun _ _ _=>rfl) (fun b _=>hA1 b) (Nat.le_refl _)).ren hm⟩
  refine ⟨c1,ρ1,xs1,rfl,fun b h=>.inr h,fun b hb hn h=>h.elim (fun ho=>by
   obtain ⟨j,i,r,h2,h3,hb'⟩:=inOwn b ho;exact jD G hb ⟨i,r,h3,hb'⟩) hn,fun b hb=>hb.elim (fun h=>by
   obtain ⟨j,i,r,h2,h3,hb'⟩:=inOwn b h;exact ((G.rows i r h3).new b hb').1) fun h=>(hT0 b h).2,⟨hA1,fun b h=>by
   obtain ⟨j,i,r,h2,h3,hb'⟩:=inOwn b h;exact ⟨i,r,List.mem_of_getElem? h2,h3,hb'⟩⟩,G1,R1,?_⟩
  intro v w2 h st2 ρ2 xs2 h8 hbx hT2 G2 hr
  have K2:=G2.kept
  -- the rows behind the call
  let ρ3:Nat→Value:=fun i=>match pos ids i with
  |some j=>ρ2 j
  |none=>bif cE n i then ρ2 (i - n) else ρ i
  have p1:∀ {i j:Nat},sh2 ids n j=some i→ρ3 i=ρ2 j:=by
   intro i j h;unfold sh2 at h;rw [eV] at h
   cases e:ids[j]? with
  |some a =>
    rw [e] at h;simp only [Option.some.injEq] at h;subst h;show (match pos ids a with|some j=>ρ2 j|none=>_)=_
    rw [qQs hd e]
  |none =>
    rw [e] at h;dsimp only at h
    cases e2:Nat.blt j 8 with
   |false=>rw [e2] at h;cases h
   |true =>
     rw [e2] at h;simp only [cond_true,Option.some.injEq] at h;subst h
     have hj:j < 8:=by simpa [Nat.blt_eq] using e2
     have e8:cE n (n + j)=true:=fB.2 ⟨by omega,by omega⟩
     show (match pos ids (n + j) with|some j=>ρ2 j|none=>_)=_
     cases ep:pos ids (n + j) with
    |some j'=>have:=hids _ (List.mem_of_getElem? (fF ep));rw [e8] at this;cases this
    |none=>dsimp only;rw [e8,cond_true,show n + j - n=j by omega]
  have p2:∀ {i:Nat},kH ids n i=false→ρ3 i=ρ i:=by
   intro i h;simp only [kH,Bool.or_eq_false_iff] at h;show (match pos ids i with|some j=>ρ2 j|none=>_)=_
   cases ep:pos ids i with
  |some j=>have:inL ids i=true:=nG.2 ⟨j,fF ep⟩;rw [h.2] at this;cases this
  |none=>dsimp only;rw [h.1];rfl
  have p3:∀ {i:Nat},fC ids S.st n i=false→ρ3 i=ρ i:=by
   intro i h;simp only [fC,Bool.or_eq_false_iff,Bool.and_eq_false_iff] at h
   rcases h.2 with h2|h2
   ·exact p2 (by simp only [kH,h.1,h2,Bool.or_self])
   ·cases ei:inL ids i with
   |false=>exact p2 (by simp only [kH,h.1,ei,Bool.or_self])
   |true =>
    obtain ⟨j,hj⟩:=nG.1 ei
    cases er:rlk S.st i with
   |none=>rw [er] at h2;cases h2
   |some r =>
     rw [er] at h2
     cases r with
    |sl nw ty sz els=>cases h2
    |hl nw ty sz els=>cases h2
    |bx nw ty cs =>
      have hb1:=sH (m:=pos ids) (k:=0) hj er
      rw [Nat.zero_add] at hb1
      have:=hbx j (by rw [hb1];exact trivial)
      cases e2:rlk st2 j with
     |none=>rw [e2] at this;exact this.elim
     |some r2 =>
       rw [e2] at this
       match r2,this with
      |.bx false ty2 cs2,_ =>
        obtain ⟨⟨g,g1,g2⟩,-⟩:=(G2.rows j _ e2).rep;obtain ⟨i',nw',ty',cs',q1,q2,q3⟩:=g2 rfl;rw [hj] at q1;simp only [Option.some.injEq] at q1;subst q1
        have:sh2 ids n j=some i:=by unfold sh2;rw [eV,hj]
        rw [p1 this,g1,q3]
      |.bx true _ _,h=>exact h.elim
      |.sl _ _ _ _,h=>exact h.elim
      |.hl _ _ _ _,h=>exact h.elim
  have rows3:∀ i r,rlk (S.swap ids n st2).st i=some r→(∃ j s,sh2 ids n j=some i∧rlk st2 j=some s∧r=(s.ren (sh2 ids n)).flag (cR ids S.st j)∧ρ3 i=ρ2 j)∨(∃ s,kH ids n i=false∧rlk S.st i=some s∧r=s.kill (fC ids S.st n)∧ρ3 i=ρ i):=by
   intro i r hi
   rcases qQp hd hids h8 hi with ⟨j,s,a1,a2,a3⟩|a2
   ·exact .inl ⟨j,s,a1,a2,a3,p1 a1⟩
   ·right
    rw [mA] at a2
    cases eg:kH ids n i with
   |true=>rw [eg] at a2;cases a2
   |false =>
     rw [eg,cond_false] at a2
     cases hs:rlk S.st i with
    |none=>rw [hs] at a2;cases a2
    |some s=>rw [hs] at a2;simp only [Option.map_some,Option.some.injEq] at a2;exact ⟨s,rfl,rfl,a2.symm,p2 eg⟩
  have new2:∀ j s b,rlk st2 j=some s→(ρ2 j).ownBlock=some b→w.heap.size≤b∨eW ρ1 st b:=fun j s b hs hb=>by
   rcases ((G2.rows j s hs).new b hb).1 with h|h|h
   ·exact .inl h
   ·exact .inr h
   ·exact (jD G2 (hT2 b h) ⟨j,s,hs,hb⟩).elim
  have notIn:∀ {i:Nat} {s:Row} {b:Nat},kH ids n i=false→rlk S.st i=some s→(ρ i).ownBlock=some b→¬ eW ρ1 st b:=fun {i s b} hg hs hb ho=>by
   obtain ⟨j,i',r',h2,h3,hb'⟩:=inOwn b ho;refine G.apart i i' s r' b (fun e=>?_) hs h3 hb hb'
   subst e;simp only [kH,Bool.or_eq_false_iff] at hg
   have:inL ids i=true:=nG.2 ⟨j,h2⟩
   rw [hg.2] at this;cases this
  have notA0:∀ b,c.A0 b→¬ eW ρ1 st b:=fun b h0 ho=>by
   obtain ⟨j,i,r,h2,h3,hb⟩:=inOwn b ho;obtain ⟨a1,a2⟩:=G.a0 b h0
   rcases ((G.rows i r h3).new b hb).1 with h|h
   ·omega
   ·exact a2 h
  have hA3:∀ b,b < w.heap.size→c.A ρ3 (S.swap ids n st2).st b→c.A ρ S.st b:=by
   rintro b hlt (h0|⟨i,r,hi,hb⟩)
   ·exact .inl h0
   ·rcases rows3 i r hi with ⟨j,s,_,a2,_,a4⟩|⟨s,_,a2,_,a4⟩
    ·rw [a4] at hb
     rcases new2 j s b a2 hb with h|h
     ·omega
     ·exact ownA b h
    ·rw [a4] at hb;exact .inr ⟨i,s,a2,hb⟩
  have hA4:∀ b,c.A ρ3 (S.swap ids n st2).st b→c1.A ρ2 st2 b:=by
   rintro b (h0|⟨i,r,hi,hb⟩)
   ·exact .inl ⟨.inl h0,notA0 b h0⟩
   ·rcases rows3 i r hi with ⟨j,s,_,a2,_,a4⟩|⟨s,a1,a2,_,a4⟩
    ·rw [a4] at hb;exact .inr ⟨j,s,a2,hb⟩
    ·rw [a4] at hb;exact .inl ⟨.inr ⟨i,s,a2,hb⟩,notIn a1 a2 hb⟩
  have hblk:∀ b,b < w.heap.size→¬ c.A ρ S.st b→∀ o u,w.cell? ⟨b,o,none⟩=some u→w2.cell? ⟨b,o,none⟩=some u:=fun b hlt hn o u hu=>by
   rw [qG (K2.block b hlt fun h=>h.elim (fun h=>hn (ownA b h)) fun h=>(hT0 b h).1.cell hu)];exact hu
  have tr1:∀ v x,RepH w (c.A ρ S.st) c.n0 ρ v x→RepH w2 (c.A ρ3 (S.swap ids n st2).st) c.n0 ρ3 v (x.kill (fC ids S.st n)):=fun v x hx=>(hx.upq K2.size hblk hA3 (Nat.le_refl _)).kill fun i hi=>p3 hi
  have tr2:∀ v x,RepH w2 (c1.A ρ2 st2) c.n0 ρ2 v x→RepH w2 (c.A ρ3 (S.swap ids n st2).st) c.n0 ρ3 v (x.ren (sh2 ids n)):=fun v x hx=>(hx.up (Nat.le_refl _) (fun _ _ _=>rfl) (fun b _=>hA4 b) (Nat.le_refl _)).ren fun i j h=>p1 h
  let xs3:Nat→List Value:=fun i=>match pos ids i with
  |some j=>xs2 j
  |none=>bif cE n i then xs2 (i - n) else xs i
  have x1:∀ {i j:Nat},sh2 ids n j=some i→xs3 i=xs2 j:=by
   intro i j h;unfold sh2 at h;rw [eV] at h
   cases e:ids[j]? with
  |some a =>
    rw [e] at h;simp only [Option.some.injEq] at h;subst h;show (match pos ids a with|some j=>xs2 j|none=>_)=_
    rw [qQs hd e]
  |none =>
    rw [e] at h;dsimp only at h
    cases e2:Nat.blt j 8 with
   |false=>rw [e2] at h;cases h
   |true =>
     rw [e2] at h;simp only [cond_true,Option.some.injEq] at h;subst h
     have hj:j < 8:=by simpa [Nat.blt_eq] using e2
     have e8:cE n (n + j)=true:=fB.2 ⟨by omega,by omega⟩
     show (match pos ids (n + j) with|some j=>xs2 j|none=>_)=_
     cases ep:pos ids (n + j) with
    |some j'=>have:=hids _ (List.mem_of_getElem? (fF ep));rw [e8] at this;cases this
    |none=>dsimp only;rw [e8,cond_true,show n + j - n=j by omega]
  have x2:∀ {i:Nat},kH ids n i=false→xs3 i=xs i:=by
   intro i h;simp only [kH,Bool.or_eq_false_iff] at h;show (match pos ids i with|some j=>xs2 j|none=>_)=_
   cases ep:pos ids i with
  |some j=>have:inL ids i=true:=nG.2 ⟨j,fF ep⟩;rw [h.2] at this;cases this
  |none=>dsimp only;rw [h.1];rfl
  refine ⟨ρ3,xs3,⟨fun i r hi=>?_,fun i j r s b hne hi hj hbi hbj=>?_,fun k x hk=>?_,?_,G.a0⟩,tr2 _ _ hr⟩
  ·rcases rows3 i r hi with ⟨j,s,a1,a2,rfl,a4⟩|⟨s,a1,a2,rfl,a4⟩
   ·have R2:=G2.rows j s a2
    rw [x1 a1]
    -- the variable that was handed in
    have old:∀ {nw:Bool} {ty:Nat} {cs:List HV},cR ids S.st j=some (.bx nw ty cs)→∃ i0,ids[j]?=some i0∧i0=i∧rlk S.st i=some (.bx nw ty cs):=by
     intro nw ty cs ho;unfold cR at ho;rw [eV] at ho
     cases e:ids[j]? with
    |none=>rw [e] at ho;cases ho
    |some i0 =>
      rw [e] at ho
      have:sh2 ids n j=some i0:=by unfold sh2;rw [eV,e]
      rw [a1] at this;simp only [Option.some.injEq] at this;subst this;exact ⟨_,rfl,rfl,ho⟩
    have same:∀ {nw:Bool} {ty:Nat} {cs:List HV},cR ids S.st j=some (.bx nw ty cs)→ρ3 i=ρ i:=fun {nw ty cs} ho=>by
     obtain ⟨i0,b1,rfl,b3⟩:=old ho;refine p3 ?_;simp only [fC,b3,qS6,Bool.and_false,Bool.or_false];exact hids _ (List.mem_of_getElem? b1)
    have out:∀ b,(ρ2 j).ownBlock=some b→(c.w0.heap.size≤b∨c.T b):=fun b hb=>by
     rcases new2 j s b a2 hb with h|h
     ·left;omega
     ·obtain ⟨j',i',r',h2,h3,hb'⟩:=inOwn b h;exact ((G.rows i' r' h3).new b hb').1
    have own2:=R2.own
    have rp:=R2.rep
    cases s with
   |sl nw ty sz els =>
     have e:(Row.ren (sh2 ids n) (.sl nw ty sz els)).flag (cR ids S.st j)=.sl nw ty sz els:=by
      rw [Row.ren]
      cases cR ids S.st j with
     |none=>rfl
     |some o=>cases o <;> rfl
     rw [e];refine ⟨by rw [a4];exact own2,⟨rp.1,fun p k hp hk=>?_⟩,fun b hb=>?_⟩
     ·obtain ⟨u,u1,u2,u3⟩:=rp.2 p k hp hk;exact ⟨u,u1,u2,u3.up (Nat.le_refl _) (fun _ _ _=>rfl) (fun b _=>hA4 b) (Nat.le_refl _)⟩
     ·rw [a4] at hb;exact ⟨out b hb,(R2.new b hb).2⟩
   |bx nw ty cells =>
     obtain ⟨nw',e,hB,hN⟩:∃ nw',(Row.ren (sh2 ids n) (.bx nw ty cells)).flag (cR ids S.st j)=.bx nw' ty (cells.map (HV.ren (sh2 ids n)))∧(nw'=false→∃ g,ρ3 i=.slice (some ⟨g,0,none⟩) 1 1∧c.B i g) ∧
       (nw'=true→∀ b,(ρ2 j).ownBlock=some b→c.n0≤b):=by
      have plain:∀ {P:Prop},(∀ nw ty cs,cR ids S.st j≠some (.bx nw ty cs))→nw=false→P:=fun hno hf=>by
       obtain ⟨g,g1,g2⟩:=rp.1;obtain ⟨i',nw',ty',cs',q1,q2,q3⟩:=g2 hf;exact (hno nw' ty' cs' (by unfold cR;rw [eV,q1];exact q2)).elim
      rw [Row.ren]
      cases ho:cR ids S.st j with
     |none=>exact ⟨nw,rfl,fun hf=>plain (fun _ _ _ h=>by rw [ho] at h;cases h) hf,fun ht b hb=>(R2.new b hb).2 ht⟩
     |some o =>
       cases o with
      |sl nwo tyo szo elo=>exact ⟨nw,rfl,fun hf=>plain (fun _ _ _ h=>by rw [ho] at h;cases h) hf,fun ht b hb=>(R2.new b hb).2 ht⟩
      |hl nwo tyo szo elo=>exact ⟨nw,rfl,fun hf=>plain (fun _ _ _ h=>by rw [ho] at h;cases h) hf,fun ht b hb=>(R2.new b hb).2 ht⟩
      |bx nwo tyo cso =>
        refine ⟨nwo,rfl,fun hf=>?_,fun ht b hb=>?_⟩
        ·obtain ⟨i0,b1,rfl,b3⟩:=old ho;obtain ⟨⟨g,g1,g2⟩,-⟩:=(G.rows _ _ b3).rep;exact ⟨g,by rw [same ho];exact g1,g2 hf⟩
        ·obtain ⟨i0,b1,rfl,b3⟩:=old ho;rw [← a4,same ho] at hb;exact ((G.rows _ _ b3).new b hb).2 ht
     rw [e];obtain ⟨g,g1,g2⟩:=rp.1;refine ⟨by rw [a4];simpa [Row.ty,Row.sz,Row.len] using own2,⟨⟨g,by rw [a4];exact g1,fun hf=>?_⟩,fun k hk=>?_⟩,fun b hb=>?_⟩
     ·obtain ⟨g',h1,h2⟩:=hB hf;rw [a4,g1] at h1;simp only [Value.slice.injEq,Option.some.injEq,Addr.mk.injEq] at h1;obtain ⟨⟨rfl,-⟩,-⟩:=h1;exact h2
     ·rw [List.length_map] at hk;obtain ⟨u,u1,u2,u3⟩:=rp.2 k hk;refine ⟨u,u1,u2,?_⟩;rw [List.getElem_map];exact tr2 _ _ u3
     ·rw [a4] at hb;exact ⟨out b hb,fun ht=>hN ht b hb⟩
   |hl nw ty sz els =>
     have e:(Row.ren (sh2 ids n) (.hl nw ty sz els)).flag (cR ids S.st j)=.hl nw ty sz (els.map (List.map (HV.ren (sh2 ids n)))):=by
      rw [Row.ren]
      cases cR ids S.st j with
     |none=>rfl
     |some o=>cases o <;> rfl
     rw [e];refine ⟨by rw [a4];simpa [Row.ty,Row.sz,Row.len] using own2,⟨fun x hx=>?_,fun p k hp hk=>?_⟩,fun b hb=>?_⟩
     ·obtain ⟨y,hy,rfl⟩:=List.mem_map.1 hx;rw [List.length_map];exact rp.1 y hy
     ·simp only [List.length_map] at hp;simp only [List.getElem_map,List.length_map] at hk ⊢;obtain ⟨u,u1,u2,u3⟩:=rp.2 p k hp hk;exact ⟨u,u1,u2,tr2 _ _ u3⟩
     ·rw [a4] at hb;exact ⟨out b hb,(R2.new b hb).2⟩
   ·rw [x2 a1]
    have RR:=(G.rows i s a2).upq K2.size hblk hA3 (fun b hb=>K2.block b (G.lt a2 hb) fun h=>h.elim (notIn a1 a2 hb) fun h=>jD G (hT0 b h).1 ⟨i,s,a2,hb⟩)
    exact RR.kill (fun i hi=>p3 hi) (by simp only [kH,Bool.or_eq_false_iff] at a1;simp only [fC,a1.1,a1.2,Bool.false_and,Bool.or_false])
  ·rcases rows3 i r hi with ⟨j1,s1,a1,a2,-,a4⟩|⟨s1,a1,a2,-,a4⟩ <;> rcases rows3 j s hj with ⟨j2,s2,b1,b2,-,b4⟩|⟨s2,b1,b2,-,b4⟩
   ·rw [a4] at hbi;rw [b4] at hbj;exact G2.apart j1 j2 s1 s2 b (fun e=>hne (by subst e;rw [a1] at b1;simpa using b1)) a2 b2 hbi hbj
   ·rw [a4] at hbi;rw [b4] at hbj
    rcases new2 j1 s1 b a2 hbi with h|h
    ·have:=G.lt b2 hbj;omega
    ·exact notIn b1 b2 hbj h
   ·rw [a4] at hbi;rw [b4] at hbj
    rcases new2 j2 s2 b b2 hbj with h|h
    ·have:=G.lt a2 hbi;omega
    ·exact notIn a1 a2 hbi h
   ·rw [a4] at hbi;rw [b4] at hbj;exact G.apart i j s1 s2 b hne a2 b2 hbi hbj
  ·simp only [HS.swap,fY] at hk
   cases hx:hlk S.env k with
  |none=>rw [hx] at hk;cases hk
  |some x0 =>
    rw [hx] at hk;simp only [Option.map_some,Option.some.injEq] at hk;subst hk;obtain ⟨v,h1,h2⟩:=G.env k x0 hx;exact ⟨v,h1,tr1 v x0 h2⟩
  ·refine G.kept.trans K2 fun b hlt hT=>?_
   rcases hT with hT|hT
   ·obtain ⟨j,i,r,h2,h3,hb⟩:=inOwn b hT
    rcases ((G.rows i r h3).new b hb).1 with h|h
    ·omega
    ·exact h
   ·rcases (hT0 b hT).2 with h|h
    ·omega
    ·exact h
theorem qBw {args:List HV} (n:Nat) (ids:List Nat) (hd:dup ids=false) (hlen:ids.length≤8) (hids:∀ i ∈ ids,cE n i=false) (T0:Nat→Prop) {vs:List Value}
  (G:Good c S look w ρ xs) (hT0:∀ b,T0 b→dullB w b∧(c.w0.heap.size≤b∨c.T b)) (R:jR w (c.A ρ S.st) c.n0 ρ vs args) :
  ∃ (c1:Ctx) (ρ1:Nat→Value) (xs1:Nat→List Value),c1.w0=w∧(∀ b,T0 b→c1.T b)∧(∀ b,dullB w b→¬ T0 b→¬ c1.T b)∧(∀ b,c1.T b→c.w0.heap.size≤b∨c.T b)∧Good c1 ⟨[],eQ (pos ids) S.st 0 ids⟩ (fun _=>none) w ρ1 xs1∧jR w (c1.A ρ1 (eQ (pos ids) S.st 0 ids)) c1.n0 ρ1 vs (args.map (HV.ren (pos ids))) ∧
   ∀ (v:Value) (w2:World) (h:HV) (st2:aC) (ρ2:Nat→Value) (xs2:Nat→List Value),(∀ i r,rlk st2 i=some r→i < 8)→(∀ j,jG (rlk (eQ (pos ids) S.st 0 ids) j)→jG (rlk st2 j))→(∀ b,T0 b→dullB w2 b)→Good c1 ⟨[],st2⟩ (fun _=>none) w2 ρ2 xs2→RepH w2 (c1.A ρ2 st2) c1.n0 ρ2 v h →
    InvV c (S.swap ids n st2) (h.ren (sh2 ids n)) v look w2 :=
 let ⟨c1,ρ1,xs1,a,b,d,e,_,q⟩:=qW4 n ids hd hlen hids T0 G hT0 R
 ⟨c1,ρ1,xs1,a,b,d,e,q⟩
end
def HWM (P:Program) (N:Nat) (x:Code) (Q:iD) (g:MS) (S:HS):Prop :=
 ∀ (c:Ctx) (l:Env) (w:World),Inv c S (lk l) w→MsOk P c w g→W P N x (fun e l' w'=>∃ S' g',Inv c S' (lk l') w'∧MsOk P c w' g'∧Q e g' S') l w
def msQ (K:MS→HS→Prop) (Q:iD):iD
|.normal,g,S=>K g S
|e,g,S=>Q e g S
def mbQ (id:Nat) (Q:iD):iD
|.exit id',g,S=>if id'=id then Q .normal g S else Q (.exit id') g S
|e,g,S=>Q e g S
section
variable {P:Program} {N:Nat} {S S':HS} {g g':MS} {Q Q':iD}
theorem HWM.mono {x:Code} (h:HWM P N x Q g S) (hq:∀ e g S,Q e g S→Q' e g S):HWM P N x Q' g S:=fun c l w I M =>
 (h c l w I M).mono fun e' l' w' ⟨S',g',I',M',q⟩=>⟨S',g',I',M',hq _ _ _ q⟩
theorem qVk {x:Code} (h:HW P N x (fun e S'=>Q e g S') S):HWM P N x Q g S:=fun c l w I M=>by
 obtain ⟨c1,I1,back⟩:=qAv I M;exact (h c1 l w I1).mono fun e' l' w' ⟨S',I',q⟩=>by
  obtain ⟨I2,M2⟩:=back S' _ _ I';exact ⟨S',g,I2,M2,q⟩
theorem bK {id:Nat} {ops:List Oper} (h:HVM P N ops Q ops g S):HWM P N (.region id ops.toArray false) Q g S:=fun c l w I M hk F=>wpIn_region_lit (h c F l w hk I M)
theorem aD {id:Nat} {ops:List Oper} (h:∀ K:HS→Prop,(∀ S',Q .normal g S'→K S')→HV2 P N (bQ ops) K ops S):HWM P N (.region id ops.toArray false) Q g S :=
 qVk (zJ fun K hK=>h K hK)
theorem aA {x y:Code} (h:HWM P N x (msQ (fun g S=>HWM P N y Q g S) Q) g S):HWM P N (.seq x y) Q g S:=fun c l w I M =>
 eC ((h c l w I M).mono fun e' l' w' ⟨S',g',I',M',q⟩=>by
  cases e' with
 |normal=>exact q c l' w' I' M'
 |_=>exact ⟨S',g',I',M',q⟩)
theorem bR {id:Nat} {x:Code} (h:HWM P N x (mbQ id Q) g S):HWM P N (.block id x) Q g S:=fun c l w I M =>
 qD7 ((h c l w I M).mono fun e' l' w' ⟨S',g',I',M',q⟩=>by
  cases e' with
 |exit id' =>
   simp only [qVc];simp only [mbQ] at q;split
   ·rename_i e1;rw [if_pos e1] at q;exact ⟨S',g',I',M',q⟩
   ·rename_i e1;rw [if_neg e1] at q;exact ⟨S',g',I',M',q⟩
 |_=>exact ⟨S',g',I',M',q⟩)
theorem bS {x:Operand} {a b:Code} {t:Bool} (hx:hev S.env x=some (.v (.bool t))) (ht:t=true→HWM P N a Q g S) (hf:t=false→HWM P N b Q g S):HWM P N (.cond x a b) Q g S:=fun c l w ⟨ρ,xs,G⟩ M=>by
 obtain ⟨v,h1,h2⟩:=G.ev (aS _ l) hx
 have:=bB h2
 subst this;exact jQ h1 (fun e1=>ht e1 c l w ⟨ρ,xs,G⟩ M) (fun e1=>hf e1 c l w ⟨ρ,xs,G⟩ M)
theorem dP {x:Operand} {a b:Code} (hx:hev S.env x=some (.v (.bool true))) (ht:HWM P N a Q g S):HWM P N (.cond x a b) Q g S:=bS hx (fun _=>ht) (fun h=>by cases h)
theorem bT {x:Operand} {a b:Code} (hx:hev S.env x=some (.v (.bool false))) (hf:HWM P N b Q g S):HWM P N (.cond x a b) Q g S:=bS hx (fun h=>by cases h) (fun _=>hf)
theorem cP {x:Code} (ks ids:List Nat) {S':HS} (he:S.keep ks ids=S') (h:HWM P N x Q g S'):HWM P N x Q g S:=fun c l w I M=>h c l w (by rw [← he];exact I.keep ks ids) M
theorem aY (h:Q .normal g S):HWM P N .skip Q g S:=fun c l w I M=>wK ⟨S,g,I,M,h⟩
theorem kL {id:Nat} (h:Q (.exit id) g S):HWM P N (.exit id) Q g S:=fun c l w I M=>qXk ⟨S,g,I,M,h⟩
theorem bN (h:Q .ret g S):HWM P N .ret Q g S:=fun c l w I M=>qAp ⟨S,g,I,M,h⟩
theorem aB {K:MS→HS→Prop} (h:K g S):msQ K Q .normal g S:=h
theorem dQ {K:MS→HS→Prop} (h:Q .ret g S):msQ K Q .ret g S:=h
theorem eJ {K:MS→HS→Prop} {id:Nat} (h:Q (.exit id) g S):msQ K Q (.exit id) g S:=h
theorem bP {id:Nat} (h:Q .normal g S):mbQ id Q .normal g S:=h
theorem gT {id:Nat} (h:Q .ret g S):mbQ id Q .ret g S:=h
theorem kC {id:Nat} (h:Q .normal g S):mbQ id Q (.exit id) g S:=by simp only [mbQ,if_true];exact h
theorem qMo {id id':Nat} (hne:(id' == id)=false) (h:Q (.exit id') g S):mbQ id Q (.exit id') g S:=by simp only [mbQ];rw [if_neg (by simpa using hne)];exact h
theorem sN {ι:Type} {x:Code} (E:ι→HS) (G:ι→MS) (J:ι→Prop) (μ:ι→Nat) (ks ids:List Nat) (i:ι) (h0:S.keep ks ids=E i) (hg:g=G i) (hI:J i)
  (round:∀ i,J i→HWM P N x (msQ (fun g' S'=>∃ j,S'.keep ks ids=E j∧g'=G j∧J j∧μ j < μ i) Q) (G i) (E i)):HWM P N (.loop x) Q g S:=fun c l w Iv M=>by
 refine qXj (ι:=ι × Env) (fun p=>p.2) (fun p w=>Inv c (E p.1) (lk p.2) w∧MsOk P c w (G p.1)∧J p.1) (fun p=>μ p.1) ks (i,keep ks l) rfl ⟨?_,by rw [← hg];exact M,hI⟩ ?_
 ·rw [← h0];exact (Iv.keep ks ids).agree fun k h hk=>iG (oW hk).1
 ·rintro ⟨j,l1⟩ w1 ⟨I1,M1,hj⟩;refine (round j hj c l1 w1 I1 M1).mono fun e' l' w' ⟨S',g',I',M',q⟩=>?_
  cases e' with
 |normal =>
   obtain ⟨j',hE,hG,hI',hμ⟩:=q;refine ⟨(j',keep ks l'),rfl,⟨?_,by rw [← hG];exact M',hI'⟩,hμ⟩
   rw [← hE];exact (I'.keep ks ids).agree fun k h hk=>iG (oW hk).1
 |_=>exact ⟨S',g',I',M',q⟩
theorem zFp {ι:Type} {x y:Code} (E:ι→HS) (G:ι→MS) (J:ι→Prop) (ks ids:List Nat) (hx:HWM P N x (msQ (fun g' S'=>∃ j,S'.keep ks ids=E j∧g'=G j∧J j) Q') g S)
  (hy:∀ j,J j→HWM P N y Q (G j) (E j)):HWM P N x (msQ (fun g S=>HWM P N y Q g S) Q') g S :=
 hx.mono fun e g' S' h=>by
  cases e with
 |normal=>obtain ⟨j,hE,hG,hI⟩:=h;subst hG;exact cP ks ids hE (hy j hI)
 |_=>exact h
theorem qZ2 {x:Code} {i it r n cnt:Nat} {k:TypeId} {M:MTab} {left:List UInt8→Bool} {cur:Option (ByteArray × Value)} (hi:g[i]?=some (.itr it r k n M left cnt cur)) (h:HWM P N x Q (g.set i (.map r k n M)) S):HWM P N x Q g S:=fun c l w I MK=>by
 refine h c l w I ⟨fun j m hj=>?_,fun j1 j2 m1 m2 b hne h1 h2 hb1 hb2=>?_,fun j m b hj hb=>?_⟩
 ·rcases getElem?_set' hj with ⟨rfl,rfl⟩|⟨hne,hj⟩
  ·obtain ⟨⟨D,lf,hrg,hr,_⟩,_⟩:=MK.ok _ _ hi;exact ⟨D,hrg.owns,hr⟩
  ·exact MK.ok j m hj
 ·have up:∀ {j:Nat} {m:MO} {b:Nat},(g.set i (.map r k n M))[j]?=some m→b ∈ m.bs→∃ m':MO,g[j]?=some m'∧b ∈ m'.bs:=fun {j m b} hj hb=>by
   rcases getElem?_set' hj with ⟨rfl,rfl⟩|⟨hne,hj⟩
   ·simp only [MO.bs,List.mem_singleton] at hb;exact ⟨_,hi,by simp [MO.bs,hb]⟩
   ·exact ⟨m,hj,hb⟩
  obtain ⟨m1',a1,a2⟩:=up h1 hb1;obtain ⟨m2',b1,b2⟩:=up h2 hb2;exact MK.nd j1 j2 m1' m2' b hne a1 b1 a2 b2
 ·rcases getElem?_set' hj with ⟨rfl,rfl⟩|⟨hne,hj⟩
  ·simp only [MO.bs,List.mem_singleton] at hb;exact MK.foot _ _ b hi (by simp [MO.bs,hb])
  ·exact MK.foot j m b hj hb
end
end Go.Eng
