/-
  What a row's block holds, read.
-/
import Derived.Test.YtlihpgmgiehjkaaGreatDoorMu
import Derived.Test.YtlihpgmgiehjkaaGreatDoorSwI
import Derived.Test.YtlihpgmgiehjkaaGreatDoorTrE
import Derived.Test.YtlihpgmgiehjkaaGreatDoorSwX
import Derived.Test.YtlihpgmgiehjkaaGreatDoorSwY
import Derived.Test.YtlihpgmgiehjkaaGreatDoorDkH
import Derived.Test.YtlihpgmgiehjkaaGreatDoorDsP
import Derived.Test.YtlihpgmgiehjkaaGreatDoorPln
import Derived.Test.YtlihpgmgiehjkaaGreatDoorUpt
set_option linter.unusedSimpArgs false
set_option linter.unusedVariables false
section
namespace Go.Eng
open Go Go.RowKit
section
variable {P:Program} {c:Ctx} {S:HS} {look:Nat→Option Value} {w:World} {ρ:Nat→Value} {xs:Nat→List Value}
theorem zP0 (G:Good c S look w ρ xs) {id ty sz off n n0:Nat} {nw:Bool} {els:List (List FV)} {v:Value} {A':Nat→Prop} (h:rlk S.st id=some (.sl nw ty sz els)) (hr:RepH w (c.A ρ S.st) c.n0 ρ v (.vw id sz off n)) (hA:∀ b,b < w.heap.size→A' b→c.A ρ S.st b) (hK:∀ b,(ρ id).ownBlock=some b→¬ A' b) :
  RepF w A' n0 v (.lst false (kH ((els.drop off).take n))):=by
 cases hr with
|vw _ _ _ hg hm hc hn' hx' ha =>
 rename_i len c0 c' a a';obtain ⟨o1,o2,o3⟩:=dB G h;obtain ⟨q2,cap2,hg2⟩:=dT o1;rw [hg] at hg2
 cases hg2
 have hle:n≤c':=by
  rcases o1.2 with ⟨h3,h4⟩|⟨g,cap',cur,h3,hb1,hb2,h4,h5,hb3⟩
  ·omega
  ·rw [hg] at h3;cases h3;omega
 have val:∀ i k (hi:i < n) (hk:k < sz),∃ u,(xs id).getD ((off + i) * sz + k) (.bool false)=u∧(xs id)[(off + i) * sz + k]?=some u∧u.oneCell'=true∧∃ (h1:off + i < els.length) (h2:k < els[off + i].length),RepF w (c.A ρ S.st) c.n0 u els[off + i][k]:=fun i k hi hk=>by
  have h1:off + i < els.length:=by omega
  have h2:k < els[off + i].length:=by rw [o2 _ (List.getElem_mem h1)];exact hk
  obtain ⟨u,p,q,r⟩:=o3 (off + i) k h1 h2;exact ⟨u,by rw [List.getD_eq_getElem?_getD,p];rfl,p,q,h1,h2,r⟩
 refine .lst sz (fun i k=>(xs id).getD ((off + i) * sz + k) (.bool false)) (by simp [kH];omega) hle hx' hn' (fun x hx=>?_) (fun h0=>?_) (fun i k hi hk=>?_) (fun i k hi hk=>?_)
 ·simp only [kH,List.mem_map] at hx;obtain ⟨y,hy,rfl⟩:=hx;rw [List.length_map];exact o2 y (List.mem_of_mem_drop (List.mem_of_mem_take hy))
 ·obtain ⟨g,rfl,rfl⟩:=ha (by omega)
  rw [hg] at o1
  have hl:=o1.1
  rcases o1.2 with ⟨h3,h4⟩|⟨g',cap',cur,h3,hb1,hb2,h4,h5,hb3⟩
  ·cases h3
  ·cases h3
   refine ⟨g,off * sz,rfl,hK g (by rw [hg];rfl),(Array.getElem?_eq_some_iff.1 hb2).1,fun h=>(by cases h),fun i k hi hk=>?_⟩
   obtain ⟨u,p,q,-⟩:=val i k hi hk;rw [p,← q,← World.ownsRow.cellAt o1 _ (by rw [← hl];exact (List.getElem?_eq_some_iff.1 q).1)]
   congr 2
   rw [Nat.add_mul];omega
 ·obtain ⟨u,p,-,q,-⟩:=val i k hi hk;rw [p];exact q
 ·simp only [kH,List.length_map,List.length_take,List.length_drop] at hi
  have hk':=hk
  simp only [kH,List.getElem_map,List.getElem_take,List.getElem_drop,List.length_map] at hk';obtain ⟨u,p,-,-,q1,q2,r⟩:=val i k (by omega) (by rw [← o2 _ (List.getElem_mem (show off + i < els.length by omega))];exact hk')
  rw [p];simp only [kH,List.getElem_map,List.getElem_take,List.getElem_drop];exact r.old (Nat.le_refl _) (fun _ _ _=>rfl) hA
theorem HFunM.dim {f:FuncId} {args:List HV} {st:aF} {g:MS} {R:HV→aF→MS→Prop} (H:HFunM P f args st g R)
  (hR:∀ h st' g',R h st' g'→(∃ x,h=.v x)∧∀ i s,rlk st' i=some s→∃ (nw:Bool) (ty:Nat) (cs:List Value),s=.bx nw ty (cs.map .v)) {vs:List Value} (hw:c.w0=w)
  (G:Good c ⟨[],st⟩ (fun _=>none) w ρ xs) (M:MsOk P c w g) (K:Nat→Prop) (hK:∀ b,K b→¬ dD ρ st b) (hr:iZ w (fun b=>c.A ρ st b∧¬ K b) c.n0 ρ vs args) :
  Calls P f vs.toArray w (Ret fun v w'=>∃ h st' g' ρ' xs',(∀ i r,rlk st' i=some r→i < 8)∧(∀ j,iW (rlk st j)→iW (rlk st' j))∧(∃ m,bsL g'=bsL g ++ m)∧R h st' g'∧Good c ⟨[],st'⟩ (fun _=>none) w' ρ' xs'∧MsOk P c w' g'∧RepH w' (c.A ρ' st') c.n0 ρ' v h):=by
 let c':Ctx:=⟨c.w0,c.T,fun b=>c.A0 b∧¬ K b,c.n0,c.hn,c.B⟩
 have hA:∀ b,c'.A ρ st b→c.A ρ st b∧¬ K b:=by
  rintro b (h|h)
  ·exact ⟨.inl h.1,h.2⟩
  ·exact ⟨.inr h,fun hk=>hK b hk h⟩
 have G1:Good c' ⟨[],st⟩ (fun _=>none) w ρ xs:=by
  refine ⟨fun i s hi=>?_,G.apart,fun t h ht=>(by cases ht),G.kept,fun b hb=>G.a0 b hb.1⟩
  exact ((G.rows i s hi).up (Nat.le_refl _) (fun _ _ _=>rfl) (fun b _ h=>(hA b h).1) (fun _ _=>rfl)).ctx rfl rfl fun b hb=>((G.rows i s hi).new b hb).1
 have R1:iZ w (c'.A ρ st) c'.n0 ρ vs args:=⟨hr.1,fun i h1 h2=>(hr.2 i h1 h2).up (Nat.le_refl _) (fun _ _ _=>rfl) (fun b _=>hA b) (Nat.le_refl _)⟩
 refine Ret.mono (H c' w ρ xs vs hw G1 ⟨M.ok,M.nd,M.foot⟩ R1) fun v w' ⟨h,st',g',ρ',xs',a,b,m,q,G2,M2,hv⟩=>?_
 obtain ⟨⟨x,rfl⟩,q3⟩:=hR _ _ _ q
 have hv:=bD hv
 subst hv;refine ⟨.v v,st',g',ρ',xs',a,b,m,q,⟨fun i s hi=>?_,G2.apart,fun t h ht=>(by cases ht),G2.kept,G.a0⟩,⟨M2.ok,M2.nd,M2.foot⟩,.v v⟩
 obtain ⟨nw',ty',cs,rfl⟩:=q3 i s hi
 have R:=G2.rows i _ hi
 refine ⟨R.own,⟨R.rep.1,fun p hp=>?_⟩,R.new⟩
 obtain ⟨u,u1,u2,u3⟩:=R.rep.2 p hp;refine ⟨u,u1,u2,?_⟩;rw [List.getElem_map] at u3 ⊢
 have:=bD u3
 subst this;exact .v _
theorem zFe {N:Nat} {Q:iK} {g:MS} {all more:List Oper} {o:Oper} {f:FuncId} {args args':List HV} {st:aF} {R:HV→aF→MS→Prop} {x:Operand} {ay:Array Operand} {ats:Array TypeId} (q ty sz off m:Nat) {nw:Bool} {els:List (List FV)} (n:Nat) (ids:List Nat) (hc:aK P f=true) (H:HFunM P f args' st g R)
  (hop:o.op=.call ⟨.value x,ay,ats⟩) (hg:gOK S.env (cD all) o.guard=true) (hd:dM N o.dst=true) (hfn:fnH (hev S.env x)=some f) (has:lB S.env ay.toList=some args)
  (hdup:dup ids=false) (hlen:ids.length≤8) (hids:∀ i ∈ ids,cP n i=false) (hst:eK (pos ids) S.st 0 ids=st) (hq:rlk S.st q=some (.sl nw ty sz els)) (hqi:¬ q ∈ ids) (hal:args'.length=args.length)
  (harg:∀ i (a:i < args.length) (b:i < args'.length),(args[i]=.vw q sz off m∧args'[i]=.lst false (kH ((els.drop off).take m)))∨args'[i]=args[i].ren (pos ids))
  (hR:∀ h st' g',R h st' g'→(∃ x,h=.v x)∧∀ i s,rlk st' i=some s→∃ (nw:Bool) (ty:Nat) (cs:List Value),s=.bx nw ty (cs.map .v))
  (h:∀ h st' g',R h st' g'→HVM P N all Q more g' ((S.swap ids n st').set o.dst (h.ren (sh2 ids n)))):HVM P N all Q (o :: more) g S:=fun c F l w hk I M=>by
 have hd:=eC hd
 have I0:=I
 obtain ⟨ρ,xs,G⟩:=I
 have hk':∀ v,bH N (stp o.dst v l)=true:=fun v=>dV hk (fun k e=>by rw [e] at hd;exact hd)
 unfold wpListIn;rw [iX I0 F hk hg,if_pos rfl];obtain ⟨vs,e1,e2,e3⟩:=G.evs (aY _ _) has;subst hst;obtain ⟨c1,ρ1,xs1,hw1,hT,hnT,hfT,⟨hA1,hOw⟩,G1,R1,back⟩:=qL3 n ids hdup hlen hids (fun b=>b ∈ bsL g) G (fun b hb=>by
  obtain ⟨m,hm,hb⟩:=List.mem_flatMap.1 hb;obtain ⟨i,hi⟩:=List.mem_iff_getElem?.1 hm;exact ⟨M.dull hi hb,M.foot i m b hi hb⟩) (R:=(⟨e2,e3⟩:iZ w (c.A ρ S.st) c.n0 ρ vs args))
 have M1:MsOk P c1 w g:=⟨M.ok,M.nd,fun i m b hi hb=>.inr (hT b (List.mem_flatMap.2 ⟨m,List.mem_iff_getElem?.2 ⟨i,hi⟩,hb⟩))⟩
 have R2:iZ w (fun b=>c1.A ρ1 (eK (pos ids) S.st 0 ids) b∧¬ (ρ q).ownBlock=some b) c1.n0 ρ1 vs args':=by
  refine ⟨by rw [hal];exact e2,fun i h1 h2=>?_⟩
  have h3:i < args.length:=by rw [← hal];exact h2
  rcases harg i h3 h2 with ⟨a1,a2⟩|a
  ·have hv:=e3 i h1 h3
   rw [a1] at hv;rw [a2];exact .lst (zP0 G hq hv (fun b _ hb=>hA1 b hb.1) (fun b hb hn=>hn.2 hb))
  ·have hv:=R1.2 i h1 (by rw [List.length_map];exact h3)
   rw [List.getElem_map] at hv;rw [a];exact hv.up (Nat.le_refl _) (fun _ _ _=>rfl) (fun b _ hb=>hb.1) (Nat.le_refl _)
 have hcall:=H.dim hR hw1 G1 M1 (fun b=>(ρ q).ownBlock=some b) (fun b hb ho=>by
  obtain ⟨i,r,hi,hr,hb'⟩:=hOw b ho;exact G.apart q i _ _ b (fun e=>hqi (e ▸ hi)) hq hr hb hb') R2
 have hv:bK P l o.op o.type w (fun u w2=>∃ h st' g',R h st' g'∧InvV c (S.swap ids n st') (h.ren (sh2 ids n)) u (lk l) w2∧MsOk P c w2 g') (fun u w2=>∃ h st' g',R h st' g'∧InvV c (S.swap ids n st') (h.ren (sh2 ids n)) u (lk l) w2∧MsOk P c w2 g'):=by
  rw [hop];unfold bK;simp only [aQ,bY,e1,G.fn (aY _ _) hfn];refine ⟨hc,Ret.mono hcall fun u w2 ⟨h,st2,g2,ρ2,xs2,h8,hbx,⟨m,hm⟩,q,G2,M2,hr⟩=>⟨h,st2,g2,q,back u w2 h st2 ρ2 xs2 h8 hbx (fun b hb=>?_) G2 hr,M2.ok,M2.nd,fun i m b hi hb=>?_⟩⟩
  ·have:b ∈ bsL g2:=by rw [hm];exact List.mem_append_left _ hb
   obtain ⟨m',hm',hb'⟩:=List.mem_flatMap.1 this;obtain ⟨i,hi⟩:=List.mem_iff_getElem?.1 hm';exact M2.dull hi hb'
  ·rcases M2.foot i m b hi hb with h|h
   ·rw [hw1] at h
    have:=G.kept.size
    exact .inl (by omega)
   ·exact hfT b h
 refine (cF ((gH (fun x X hx=>gV F hk hx) hv).mono fun u w2 ⟨h',st',g',q,I2,M2⟩=>?_))
 rw [jU];exact h h' st' g' q c F _ _ (hk' _) (I2.set o.dst) M2
end
end Go.Eng
end
section
set_option maxRecDepth 20000
namespace Go.Tr
open Go Go.Eng
def spare:Ent:=({ data:=#[115,112,97,114,101] },0,ByteArray.empty)
abbrev zP8 (t:List Ent):Row:=.sl true 54 3 (bR t)
theorem zM5 {S:HS} {id sz n:Nat} {ty:Nat} {els:List (List FV)} {Q:HV→aF→Prop} (hr:rlk S.st id=some (.sl true ty sz els)) (hf:∀ x ∈ els,∀ f ∈ x,FreshF f) (q:Q (.vw 0 sz 0 n) [(0,.sl true ty sz els)]):qE9 S (.vw id sz 0 n) Q :=
 ⟨[id],by simp,by simp [dup],.vw ..,fun i h r hr'=>by
  simp at h;subst h;rw [hr] at hr';simp only [Option.some.injEq] at hr';subst hr';exact ⟨rfl,hf⟩,by
  rw [HV.ren];simp only [pos,if_true,iB,hr,Row.ren];exact q⟩
end Go.Tr
namespace Go.Proofs.YtlihpgmgiehjkaaGreatDoor
open Go Go.Eng Go.RowKit Go.Tr
set_option maxHeartbeats 2000000 in
theorem zMg (t:List Ent) (hl:t.length≤1048576):HFun Tryz.prog 18 [.lst false (bR t)] (fun h st=>h=.vw 0 3 0 t.length∧st=[(0,zP8 (t ++ [spare]))]):=by
 refine jP (N:=12) Tryz.func18 rfl Tryz.ntmps18 Tryz.results18 (by simp) ?_
 refine zE ?_;refine zJ (fun K hK=>?_);simp (disch:=omega) only [push_cast,↓iC9,simprocAttr];refine hK _ ?_;clear hK K
 have e1:bR t ++ [[FV.v (.string { data:=#[115,112,97,114,101] }),.v (.int .i64 0),.v (.string ByteArray.empty)]]=bR (t ++ [spare]):=qE0 t _ _ _
 refine zE ?_;refine zJ (fun K hK=>?_);simp (disch:=omega) only [push_cast,↓iC9,simprocAttr,yV,yU,Nat.sub_zero,e1];refine hK _ ?_;clear hK K
 refine zA ?_;refine zW ?_;simp only [yA,yM,yH,yE,aL,aV,yK,yJ,zS,zM,Nat.reduceEqDiff,reduceIte,reduceCtorEq];exact zM5 rfl (qZw _) ⟨rfl,rfl⟩
theorem qUg:∀ (t:List Ent),t.length≤1048576→(∀ e ∈ t,e.2.2.size≤1048576)→kK t≤t.length * 1048576
|[],_,_=>by simp [kK]
|e :: r,h,hs=>by
  have ih:=qUg r (by simp at h;omega) (fun x hx=>hs x (by simp [hx]))
  have:=hs e (by simp)
  simp only [kK,List.map_cons,List.sum_cons,List.length_cons] at ih ⊢;omega
theorem qYp (t:List Ent) (e:Ent):kK (t ++ [e])=kK t + e.2.2.size:=by simp [kK]
end Go.Proofs.YtlihpgmgiehjkaaGreatDoor
end
section
set_option maxRecDepth 20000
namespace Go.Proofs.YtlihpgmgiehjkaaGreatDoor
open Go Go.Eng Go.RowKit Go.Maps Go.Tr Go.Dk Go.Sw
theorem zBf {a:List Ent} (ha:Tree a):∃ D,Sy dL3 D∧LayOk scH [] a dL3∧Hub (wK scH [] a dL3) a 203 403∧∃ D',Sy (wK scH [] a dL3) D':=by
 obtain ⟨D,sy⟩:=zSa;obtain ⟨l1,l2,-,D',l4,-⟩:=hub0.lay Tree.nil ha sy (by decide) (by decide)
 have hl:=ha.len
 exact ⟨D,sy,l1,⟨l2.calm,l2.sz.mono (Nat.le_refl _) (by omega) (by simp;omega),l2.vol,l2.out⟩,D',l4⟩
set_option maxHeartbeats 2000000 in
theorem zQi (a:List Ent) (ha:Tree a) (fs:Bool):HFunM Tryz.prog 19 [.lst fs (bR a)] [] [] (fun h st g=>∃ r1 r2,h=.ptr 0 6 0 0∧st=[(0,.bx true 64 ((wK scH [] a dL3).cells r1 r2))]∧g=(wK scH [] a dL3).maps kS r1 r2):=by
 refine kC (N:=29) Tryz.func19 rfl Tryz.ntmps19 Tryz.results19 (by simp) ?_
 refine aA ?_;refine aC (fun K hK=>?_);simp (disch:=omega) only [push_cast,↓iC9,simprocAttr];refine hK _ ?_;clear hK K
 refine aA ?_;refine aX ?_;refine bN 32 [] cl5 (zPi) rfl rfl rfl rfl (by simp only [push_cast,simprocAttr];exact rfl) (by decide) (by decide) (by decide) (by simp only [push_cast,simprocAttr];try rfl) (by simp only [push_cast,simprocAttr];try rfl) ?_
 rintro _ _ _ ⟨r1,r2,rfl,rfl,rfl⟩
 have qTd:Dk.new.Ok 1099511627776:=⟨List.Pairwise.nil,by simp [Dk.new],by decide,by decide,by decide,by decide,by decide,by decide⟩
 have c1:=qCv Dk.new 1099511627776 qTd (Int.le_refl _) scH r1 r2 (by decide)
 have c2:=qCv dS1 1099511627776 zPf (Int.le_refl _) lyW r1 r2 (by decide)
 have c3:=qSk dL2 1099511627776 zSj (Int.le_refl _) qKm r1 r2 (by decide) qAa (by decide)
 rw [sc1] at c1;rw [ly2] at c2;rw [ly3] at c3;obtain ⟨D,sy,hk,hub,-⟩:=zBf ha
 have c4:=zPk (hub0.fine (by decide) (by decide) sy) scH (by decide) hub0.E [] a (hub0.ref Tree.nil) Tree.nil.ri ha.ri (by decide) (by have:=ha.len;omega) (nA Tree.nil) (fun e he=>⟨nA ha e he,Nat.le_trans (qD8 ha e he) (by decide)⟩) hk fs r1 r2
 obtain ⟨e,he⟩:∃ e,wK scH [] a dL3=e:=⟨_,rfl⟩;rw [he] at c4 ⊢;simp only [bM] at c1 c2 c3 c4;refine aG 1 (fun K1 hK1=>?_);simp (disch:=omega) only [push_cast,↓iC9,simprocAttr,aE,aD,bM];refine hK1 _ ?_;(try clear hK1 K1)
 refine aR ?_;refine aA ?_;refine aA ?_;refine aX ?_;refine aG 4 (fun K1 hK1=>?_);simp (disch:=omega) only [push_cast,↓iC9,simprocAttr];refine hK1 _ ?_;(try clear hK1 K1)
 refine bN 72 [32] zLf (c1) rfl rfl rfl rfl (by simp only [push_cast,simprocAttr];exact rfl) (by decide) (by decide) (by decide) (by simp only [push_cast,simprocAttr];try rfl) (by simp only [push_cast,simprocAttr];try rfl) ?_
 rintro _ _ _ ⟨rfl,rfl,rfl⟩;refine aG 4 (fun K1 hK1=>?_);simp (disch:=omega) only [push_cast,↓iC9,simprocAttr,aE,aD];refine hK1 _ ?_;(try clear hK1 K1)
 refine bN 112 [32] zLf (c2) rfl rfl rfl rfl (by simp only [push_cast,simprocAttr];exact rfl) (by decide) (by decide) (by decide) (by simp only [push_cast,simprocAttr];try rfl) (by simp only [push_cast,simprocAttr];try rfl) ?_
 rintro _ _ _ ⟨rfl,rfl,rfl⟩;refine aG 4 (fun K1 hK1=>?_);simp (disch:=omega) only [push_cast,↓iC9,simprocAttr,aE,aD];refine hK1 _ ?_;(try clear hK1 K1)
 refine bN 152 [32] zQ5 (c3) rfl rfl rfl rfl (by simp only [push_cast,simprocAttr];exact rfl) (by decide) (by decide) (by decide) (by simp only [push_cast,simprocAttr];try rfl) (by simp only [push_cast,simprocAttr];try rfl) ?_
 rintro _ _ _ ⟨rfl,rfl,rfl⟩;refine aG 5 (fun K1 hK1=>?_);simp (disch:=omega) only [push_cast,↓iC9,simprocAttr,aE,aD];refine hK1 _ ?_;(try clear hK1 K1)
 refine bN 200 [32] zTh (c4) rfl rfl rfl rfl (by simp only [push_cast,simprocAttr];exact rfl) (by decide) (by decide) (by decide) (by simp only [push_cast,simprocAttr];try rfl) (by simp only [push_cast,simprocAttr];try rfl) ?_
 rintro _ _ _ ⟨rfl,rfl,rfl⟩;refine aG 2 (fun K1 hK1=>?_);simp (disch:=omega) only [push_cast,↓iC9,simprocAttr,aE,aD];refine hK1 _ ?_;(try clear hK1 K1)
 refine aR ?_;refine aB ?_;refine aW rfl ?_;refine aN ?_;refine aA ?_;refine aC (fun K hK=>?_);simp (disch:=omega) only [push_cast,↓iC9,simprocAttr];refine hK _ ?_;clear hK K
 refine aB ?_;refine bB ?_;simp only [aJ,aP,yH,yE,yK,yJ,aS,zS,zM,Nat.reduceEqDiff,reduceIte,reduceCtorEq];refine cE [32] [r1,r2] (by first|rfl|simp [bsL,MO.bs]) (by decide) (by decide) (by simp only [push_cast,simprocAttr]) (by simp only [push_cast,simprocAttr]) (by simp only [push_cast,simprocAttr];rfl) (by simp only [push_cast,simprocAttr];rfl) ?_
 exact ⟨r1,r2,rfl,rfl,rfl⟩
theorem zQh {d:Dk} {a b:List Ent} {k n:Nat} (h:Hub d a k n) (ha:Tree a) (hb:Tree b) {D:Int→ByteArray} (sy:Sy d D) (hk:k≤700) (hn:n≤10000) (r1 r2:Nat) :
  HFunM Tryz.prog 20 [.ptr 0 6 0 0,.v (.string scH),.lst false (bR b)] [(0,.bx false 64 (d.cells r1 r2))] (d.maps kS r1 r2)
   (fun h st g=>h=.v (.int .i64 0)∧st=[(0,.bx false 64 ((wK scH a b d).cells r1 r2))]∧g=(wK scH a b d).maps kS r1 r2):=by
 obtain ⟨l1,-,-,-⟩:=h.lay ha hb sy hk hn;exact zPk (h.fine (by omega) (by omega) sy) scH (by decide) h.E a b (h.ref ha) ha.ri hb.ri (by have:=ha.len;omega) (by have:=hb.len;omega) (nA ha) (fun e he=>⟨nA hb e he,Nat.le_trans (qD8 hb e he) (by decide)⟩) l1 false r1 r2
theorem qYt (b:List Ent):kH (((bR (b ++ [spare])).drop 0).take b.length)=bR b:=by
 rw [List.drop_zero,show bR (b ++ [spare])=bR b ++ [[.v (.string { data:=#[115,112,97,114,101] }),.v (.int .i64 0),.v (.string ByteArray.empty)]] from (qE0 b _ _ _).symm,List.take_append_of_le_length (by rw [yV];exact Nat.le_refl _),List.take_of_length_le (by rw [yV];exact Nat.le_refl _),yT]
end Go.Proofs.YtlihpgmgiehjkaaGreatDoor
end
section
set_option maxRecDepth 20000
namespace Go.Proofs.YtlihpgmgiehjkaaGreatDoor
open Go Go.Eng Go.RowKit Go.Tr Go.Dk
abbrev BB:Int:=1099511627776
theorem qTd:Dk.new.Ok BB:=⟨List.Pairwise.nil,by simp [Dk.new],by decide,by decide,by decide,by decide,by decide,by decide⟩
end Go.Proofs.YtlihpgmgiehjkaaGreatDoor
end
section
set_option maxRecDepth 20000
namespace Go.Dk
open Go Go.Eng Go.Tr Go.Proofs.YtlihpgmgiehjkaaGreatDoor
structure Stp where
 k:Int
 P:ByteArray
 Q:ByteArray
 N:Int
structure Stp.Ok (s:Stp):Prop where
 P:s.P.size≤1048576
 Q:s.Q.size≤1048576
 N:-9223372036854775808≤s.N∧s.N≤9223372036854775807
end Go.Dk
namespace Go.Proofs.YtlihpgmgiehjkaaGreatDoor
open Go Go.Eng Go.RowKit Go.Tr Go.Dk
end Go.Proofs.YtlihpgmgiehjkaaGreatDoor
end
section
namespace Go.Eng
open Go Go.RowKit
def Rd (w:World) (v:Value) (xs:List Value):Prop:=∀ b,v.ownBlock=some b→∀ (p:Nat) (u:Value),xs[p]?=some u→w.cell? ⟨b,p,none⟩=some u
theorem Own.rd {w:World} {v:Value} {xs:List Value} {base te sz n:Nat} (h:Own w base te sz v n xs):Rd w v xs:=by
 intro b hb p u hu
 have hl:=h.1
 have hh:=h
 rcases h.2 with ⟨rfl,_⟩|⟨g,cap,cur,rfl,_⟩
 ·cases hb
 ·cases hb
  rw [World.ownsRow.cellAt hh p (by have:=(List.getElem?_eq_some_iff.1 hu).1;omega),hu]
end Go.Eng
end
