/-
  Rows named anew and trimmed within a region.
-/
import Derived.Test.YtbdomkfdkfdfgaaGreatDoorAet
import Derived.Test.YtbdomkfdkfdfgaaGreatDoorUpt
set_option linter.unusedSimpArgs false
set_option linter.unusedVariables false
section
set_option maxRecDepth 20000
namespace Go.Proofs.YtbdomkfdkfdfgaaGreatDoor
open Go Go.Eng Go.RowKit Go.Tr
theorem zNt {n:Nat} {st:aD} {nw0:Bool} {els:List (List HV)} (id:Nat→Nat) (nw:Nat→Bool) (ls:Nat→List Ent) (h0:rlk st 0=some (.hl nw0 22 1 els)) (hlen:els.length=n) (hels:∀ i (h:i < els.length),els[i]=[.own (id i)])
  (hrow:∀ i,i < n→rlk st (id i)=some (.sl (nw i) 67 3 (aG (ls i)))) (hid:∀ i j,i < n→j < n→id i=id j→i=j) (hid0:∀ i,i < n→id i≠0) (hbx:∀ j,¬ pF (rlk st j)) (hn:n≤1000000) (hm:∀ i,i < n→(ls i).length≤1000000000) :
  HFunS Tryz.prog 16 [.own 0] st (fun h st'=>h=.v (.bool true)∧st'=[]):=by
 intro c w ρ xs vs hw G R;obtain ⟨v,rfl⟩:∃ v,vs=[v]:=by
  match vs,R.1 with
 |[v],_=>exact ⟨v,rfl⟩
 have hv:=R.2 0 (by simp) (by simp)
 simp only [List.getElem_cons_zero] at hv
 cases hv with
|own _ h1 =>
 subst hlen;obtain ⟨o1,o2,o3⟩:=lY G h0;obtain ⟨ad,cap,hv0,hvf⟩:=Own.form o1
 have hcellV:∀ i (h:i < els.length),(xs 0)[i]?=some (ρ (id i)):=fun i h=>by
  obtain ⟨u,u1,-,u3⟩:=o3 i 0 h (by rw [hels i h];simp)
  simp only [hels i h,List.getElem_cons_zero] at u3
  cases u3
  rw [Nat.mul_one,Nat.add_zero] at u1;exact u1
 have hL:∃ L,(0 < els.length→ad=some ⟨L,0,none⟩∧L < w.heap.size∧∀ j u,(xs 0)[j]?=some u→w.cell? ⟨L,j,none⟩=some u):=by
  by_cases h:0 < els.length
  ·obtain ⟨g,e,-,a,b⟩:=hvf h;exact ⟨g,fun _=>⟨e,a,b⟩⟩
  ·exact ⟨0,fun h'=>absurd h' h⟩
 obtain ⟨L,hL⟩:=hL
 let T:Nat→Prop:=fun b=>∃ i,i < els.length∧(ρ (id i)).ownBlock=some b
 have huniq:∀ i j b,i < els.length→j < els.length→(ρ (id i)).ownBlock=some b→(ρ (id j)).ownBlock=some b→i=j:=fun i j b hi hj h1 h2=>by
  by_cases e:i=j
  ·exact e
  ·exact (G.apart (id i) (id j) _ _ b (fun e2=>e (hid i j hi hj e2)) (hrow i hi) (hrow j hj) h1 h2).elim
 classical
 let ow:Nat→Nat:=fun b=>if h:T b then Classical.choose h else els.length + 1
 have how:∀ i b,i < els.length→(ρ (id i)).ownBlock=some b→ow b=i:=fun i b hi hb=>by
  have h:T b:=⟨i,hi,hb⟩
  show (if h:T b then Classical.choose h else _)=i
  rw [dif_pos h];exact huniq _ _ b (Classical.choose_spec h).1 hi (Classical.choose_spec h).2 hb
 have hTL:0 < els.length→¬ T L:=fun h ⟨i,hi,hb⟩=>by
  refine G.apart (id i) 0 _ _ L (hid0 i hi) (hrow i hi) h0 hb ?_;rw [hv0,(hL h).1];rfl
 rw [hv0];refine Ret.mono (qWk w els.length L cap ad (fun i=>ρ (id i)) (fun i=>(ls i).length) (fun i=>xs (id i)) ow T (fun h=>(hL h).1) ⟨Kept.refl _ _,fun j hj=>?_⟩ (fun j hj b hb=>⟨how j b hj hb,G.lt (hrow j hj) hb⟩) (fun j b hj hb=>⟨j,hj,hb⟩) (fun j hj=>?_) hn hm) ?_
 ·have:=(dK G (hrow j hj)).1
  simpa [aG] using this
 ·obtain ⟨a,b,d⟩:=hL (by omega)
  refine ⟨?_,b,hTL (by omega),d j _ (hcellV j hj)⟩
  show (if h:T L then Classical.choose h else _)=_
  rw [dif_neg (hTL (by omega))]
 ·rintro r w' ⟨rfl,hK⟩;refine ⟨_,[],ρ,xs,fun i r h=>by simp [rlk] at h,fun j h=>(hbx j h).elim,⟨rfl,rfl⟩,⟨fun i r h=>by simp [rlk] at h,fun i j r s b _ h=>by simp [rlk] at h,fun k h hk=>by simp [hlk] at hk,G.kept.trans hK fun b hlt hT=>?_,G.a0⟩,.v _⟩
  obtain ⟨i,hi,hb⟩:=hT;exact ((G.rows _ _ (hrow i hi)).new b hb).1.resolve_left (by rw [hw];rw [hw] at hlt;omega)
theorem zJo (a b d:List Ent) (n0 n1 n2 n3:Bool) (ha:a.length≤1000000000) (hb:b.length≤1000000000) (hd:d.length≤1000000000) :
  HFunS Tryz.prog 16 [.own 0] [(0,.hl n0 22 1 [[.own 1],[.own 2],[.own 3]]),(1,.sl n1 67 3 (aG a)),(2,.sl n2 67 3 (aG b)),(3,.sl n3 67 3 (aG d))] (fun h st'=>h=.v (.bool true)∧st'=[]) :=
 zNt (n:=3) (fun i=>i + 1) (fun i=>[n1,n2,n3].getD i false) (fun i=>[a,b,d].getD i []) rfl rfl (fun i hi=>by match i,hi with|0,_=>rfl|1,_=>rfl|2,_=>rfl) (fun i hi=>by match i,hi with|0,_=>rfl|1,_=>rfl|2,_=>rfl) (fun i j _ _ e=>by omega) (fun i _=>by omega)
  (fun j h=>by match j,h with|0,h=>exact h|1,h=>exact h|2,h=>exact h|3,h=>exact h|j + 4,h=>exact h) (by omega) (fun i hi=>by match i,hi with|0,_=>exact ha|1,_=>exact hb|2,_=>exact hd)
end Go.Proofs.YtbdomkfdkfdfgaaGreatDoor
end
section
namespace Go.Eng
open Go Go.RowKit
section
variable {P:Program} {N:Nat} {ds:List (Option Nat)} {K:HS→Prop} {S S':HS} {c:Ctx} {look:Nat→Option Value} {w:World}
theorem Inv.trim (I:Inv c S look w) (id n:Nat) {ty sz:Nat} {nw:Bool} {els:List (List FV)} (hr:rlk S.st id=some (.sl nw ty sz els)) (hn:n < els.length):Inv c (S.trim id n) look w:=by
 obtain ⟨ρ,xs,G⟩:=I;obtain ⟨o1,o2,o3⟩:=dK G hr
 have hl0:=o1.1
 rcases o1.2 with ⟨h3,h4⟩|⟨g,cap,cur,h3,hb1,hb2,h4,h5,h6,h7⟩
 ·omega
 let ρ':Nat→Value:=fun i=>if i=id then .slice (some ⟨g,0,none⟩) n cap else ρ i
 let xs':Nat→List Value:=fun i=>if i=id then (xs id).take (n * sz) else xs i
 have hown:∀ i b,(ρ' i).ownBlock=some b→(ρ i).ownBlock=some b:=fun i b h=>by
  by_cases e:i=id
  ·subst e
   have h:(if i=i then Value.slice (some ⟨g,0,none⟩) n cap else ρ i).ownBlock=some b:=h
   rw [if_pos rfl] at h;rw [h3];exact h
  ·have h:(if i=id then Value.slice (some ⟨g,0,none⟩) n cap else ρ i).ownBlock=some b:=h
   rw [if_neg e] at h;exact h
 have hsz:n * sz≤els.length * sz:=Nat.mul_le_mul_right _ (by omega)
 have back:∀ i r,rlk (S.trim id n).st i=some r→∃ r0,rlk S.st i=some r0∧((i=id∧r=.sl nw ty sz (els.take n))∨(i≠id∧r=r0.trim id n)):=by
  intro i r hi;simp only [HS.trim,qSd] at hi
  by_cases e:i=id
  ·subst e;rw [if_pos rfl,hr] at hi;simp only [Option.map_some,Option.some.injEq] at hi;exact ⟨_,hr,.inl ⟨rfl,hi.symm⟩⟩
  ·rw [if_neg e] at hi
   cases hs:rlk S.st i with
  |none=>rw [hs] at hi;cases hi
  |some r0=>rw [hs] at hi;simp only [Option.map_some,Option.some.injEq] at hi;exact ⟨r0,rfl,.inr ⟨e,hi.symm⟩⟩
 have hA:∀ b,c.A ρ' (S.trim id n).st b→c.A ρ S.st b:=by
  rintro b (h0|⟨i,r,hi,hb⟩)
  ·exact .inl h0
  ·obtain ⟨r0,h1,-⟩:=back i r hi;exact .inr ⟨i,r0,h1,hown i b hb⟩
 have tr1:∀ v y,RepH w (c.A ρ S.st) c.n0 ρ v y→RepH w (c.A ρ S.st) c.n0 ρ' v (y.trim id n):=by
  intro v y h
  induction h with
 |v x=>rw [HV.trim];exact .v x
 |lst h=>rw [HV.trim];exact .lst h
 |own j h1 =>
   rw [HV.trim];split
   ·exact .junk _
   ·rename_i e
    have e2:ρ' j=ρ j:=by show (if j=id then _ else _)=_;rw [if_neg e]
    rw [← e2];exact .own j (by rw [e2];exact h1)
 |vw s o m hg hm hc hn' hx' ha =>
   rw [HV.trim];rename_i i len c0 c' a a';split
   ·rename_i e;subst e;split
    ·rename_i e2;obtain ⟨rfl,rfl⟩:=e2;rw [h3] at hg
     cases hg
     obtain ⟨g',hg',rfl⟩:=ha (by omega)
     cases hg'
     have e2:ρ' i=.slice (some ⟨g,0,none⟩) m cap:=by show (if i=i then _ else _)=_;rw [if_pos rfl]
     have:Value.slice (some ⟨g,0 * s,none⟩) m c'=ρ' i:=by rw [e2,hc];simp
     rw [this];exact .own i (by rw [e2];rfl)
    ·exact .junk _
   ·rename_i e
    have e2:ρ' i=ρ i:=by show (if i=id then _ else _)=_;rw [if_neg e]
    exact .vw s o m (by rw [e2];exact hg) hm hc hn' hx' ha
 |ptr s i k h =>
   rw [HV.trim];rename_i j _ _ _;split
   ·exact .junk _
   ·rename_i e
    have e2:ρ' j=ρ j:=by show (if j=id then _ else _)=_;rw [if_neg e]
    exact .ptr s i k (by rw [e2];exact h)
 |elt h h1 h2=>rw [HV.trim];exact .elt h h1 h2
 |agg hn h1 h ih=>rw [HV.trim];exact .agg (by simpa using hn) h1 (fun j a b=>by rw [List.getElem_map];exact ih j a (by simpa using b))
 |tup hn h ih=>rw [HV.trim];exact .tup (by simpa using hn) (fun j a b=>by rw [List.getElem_map];exact ih j a (by simpa using b))
 |junk v=>rw [HV.trim];exact .junk v
 have tr:∀ v y,RepH w (c.A ρ S.st) c.n0 ρ v y→RepH w (c.A ρ' (S.trim id n).st) c.n0 ρ' v (y.trim id n):=fun v y h=>(tr1 v y h).up (Nat.le_refl _) (fun _ _ _=>rfl) (fun b _=>hA b) (Nat.le_refl _)
 refine ⟨ρ',xs',fun i r hi=>?_,fun i j r s b hne hi hj hbi hbj=>?_,fun k y hk=>?_,G.kept,G.a0⟩
 ·obtain ⟨r0,h1,h2⟩:=back i r hi
  rcases h2 with ⟨rfl,rfl⟩|⟨hne,rfl⟩
  ·have e1:ρ' i=.slice (some ⟨g,0,none⟩) n cap:=by show (if i=i then _ else _)=_;rw [if_pos rfl]
   have e2:xs' i=(xs i).take (n * sz):=by show (if i=i then _ else _)=_;rw [if_pos rfl]
   have hlen:(els.take n).length=n:=by simp;omega
   refine ⟨?_,⟨fun y hy=>o2 y (List.mem_of_mem_take hy),fun p k hp hk=>?_⟩,fun b hb=>(G.rows i _ hr).new b (hown i b hb)⟩
   ·rw [e1,e2];simp only [Row.ty,Row.sz,Row.len,hlen];refine ⟨by rw [List.length_take,hl0];omega,.inr ⟨g,cap,cur,rfl,hb1,hb2,by omega,h5,h6,?_⟩⟩
    rw [← h7,List.take_take,Nat.min_eq_left hsz]
   ·rw [hlen] at hp;simp only [List.getElem_take] at hk ⊢;obtain ⟨u,u1,u2,u3⟩:=o3 p k (by omega) hk
    have hks:=o2 _ (List.getElem_mem (show p < els.length by omega))
    refine ⟨u,?_,u2,u3.up (Nat.le_refl _) (fun _ _ _=>rfl) (fun b _=>hA b) (Nat.le_refl _)⟩
    rw [e2,List.getElem?_take_of_lt (rN hp (by omega))]
    exact u1
  ·have e1:ρ' i=ρ i:=by show (if i=id then _ else _)=_;rw [if_neg hne]
   have e2:xs' i=xs i:=by show (if i=id then _ else _)=_;rw [if_neg hne]
   have R:=G.rows i r0 h1
   have rp:=R.rep
   have f1:(r0.trim id n).ty=r0.ty∧(r0.trim id n).sz=r0.sz∧(r0.trim id n).len=r0.len∧(r0.trim id n).nw=r0.nw:=by cases r0 <;> simp [Row.trim,Row.ty,Row.sz,Row.len,Row.nw]
   rw [e2];refine ⟨by rw [e1,f1.1,f1.2.1,f1.2.2.1];exact R.own,?_,fun b hb=>by rw [f1.2.2.2];rw [e1] at hb;exact R.new b hb⟩
   cases r0 with
  |sl nw ty sz els =>
    refine ⟨rp.1,fun p k hp hk=>?_⟩
    obtain ⟨u,u1,u2,u3⟩:=rp.2 p k hp hk;exact ⟨u,u1,u2,u3.up (Nat.le_refl _) (fun _ _ _=>rfl) (fun b _=>hA b) (Nat.le_refl _)⟩
  |bx nw ty cells =>
    refine ⟨by rw [e1];exact rp.1,fun k hk=>?_⟩
    rw [List.length_map] at hk;obtain ⟨u,u1,u2,u3⟩:=rp.2 k hk;refine ⟨u,u1,u2,?_⟩;rw [List.getElem_map];exact tr _ _ u3
  |hl nw ty sz els =>
    refine ⟨fun y hy=>?_,fun p k hp hk=>?_⟩
    ·obtain ⟨z,hz,rfl⟩:=List.mem_map.1 hy;rw [List.length_map];exact rp.1 z hz
    ·simp only [List.length_map] at hp;simp only [List.getElem_map,List.length_map] at hk ⊢;obtain ⟨u,u1,u2,u3⟩:=rp.2 p k hp hk;exact ⟨u,u1,u2,tr _ _ u3⟩
 ·obtain ⟨r0,h1,-⟩:=back i r hi;obtain ⟨s0,h2,-⟩:=back j s hj;exact G.apart i j r0 s0 b hne h1 h2 (hown i b hbi) (hown j b hbj)
 ·simp only [HS.trim,qTu] at hk
  cases hx0:hlk S.env k with
 |none=>rw [hx0] at hk;cases hk
 |some x0 =>
   rw [hx0] at hk;simp only [Option.map_some,Option.some.injEq] at hk;subst hk;obtain ⟨v,h1,h2⟩:=G.env k x0 hx0;exact ⟨v,h1,tr v x0 h2⟩
theorem qVj {ops:List Oper} (id n:Nat) {ty sz:Nat} {nw:Bool} {els:List (List FV)} (hr:rlk S.st id=some (.sl nw ty sz els)) (hn:n < els.length) (hs:S.trim id n=S') (h:zCz P N ds K ops S'):zCz P N ds K ops S:=fun c l w I=>h c l w (hs ▸ I.trim id n hr hn)
end
end Go.Eng
end
