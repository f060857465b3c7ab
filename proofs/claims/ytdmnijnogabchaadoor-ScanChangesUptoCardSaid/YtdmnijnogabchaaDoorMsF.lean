/-
  A call that is handed some of the maps: the others stay ay they are.
-/
import Derived.Test.YtdmnijnogabchaaDoorMs
set_option linter.unusedSimpArgs false
set_option linter.unusedVariables false
namespace Go.Eng
open Go Go.RowKit Go.Maps
section
variable {P:Program} {N:Nat} {S:HS} {g:MS} {Q:iD}
theorem nE {pre g1 g2 post:MS} {i:Nat} {m:MO} (h:(pre ++ (g2 ++ post))[i]?=some m) :
  (∃ j,i=pre.length + j∧g2[j]?=some m)∨(i < pre.length∧(pre ++ (g1 ++ post))[i]?=some m)∨(pre.length + g2.length≤i∧(pre ++ (g1 ++ post))[i - g2.length + g1.length]?=some m):=by
 rcases Nat.lt_or_ge i pre.length with h1|h1
 ·right;left
  rw [List.getElem?_append_left h1] at h;exact ⟨h1,by rw [List.getElem?_append_left h1];exact h⟩
 ·rw [List.getElem?_append_right h1] at h
  rcases Nat.lt_or_ge (i - pre.length) g2.length with h2|h2
  ·left
   rw [List.getElem?_append_left h2] at h;exact ⟨i - pre.length,by omega,h⟩
  ·right;right
   rw [List.getElem?_append_right h2] at h;refine ⟨by omega,?_⟩
   rw [List.getElem?_append_right (by omega),List.getElem?_append_right (by omega),show i - g2.length + g1.length - pre.length - g1.length=i - pre.length - g2.length by omega]
   exact h
theorem kR {pre g1 post:MS} {j:Nat} {m:MO} (h:g1[j]?=some m):(pre ++ (g1 ++ post))[pre.length + j]?=some m:=by
 have hj:=(List.getElem?_eq_some_iff.1 h).1
 rw [List.getElem?_append_right (by omega),Nat.add_sub_cancel_left,List.getElem?_append_left hj];exact h
theorem qB8 {all more:List Oper} {o:Oper} {f:FuncId} {args args':List HV} {st:aC} {R:HV→aC→MS→Prop} {x:Operand} {ay:Array Operand} {ats:Array TypeId} (pre g1 post:MS) (hgg:g=pre ++ (g1 ++ post)) (n:Nat) (ids:List Nat) (hc:aL P f=true) (H:HFunM P f args' st g1 R)
  (hop:o.op=.call ⟨.value x,ay,ats⟩) (hg:gOK S.env (bQ all) o.guard=true) (hd:cQ N o.dst=true) (hfn:fnH (hev S.env x)=some f) (has:fP S.env ay.toList=some args)
  (hdup:dup ids=false) (hlen:ids.length≤8) (hids:∀ i ∈ ids,cE n i=false) (hst:eQ (pos ids) S.st 0 ids=st) (hargs:args.map (HV.ren (pos ids))=args')
  (h:∀ h st' g',R h st' g'→HVM P N all Q more (pre ++ (g' ++ post)) ((S.swap ids n st').set o.dst (h.ren (sh2 ids n)))):HVM P N all Q (o :: more) g S:=fun c F l w hk I M=>by
 have hd:=dN hd
 have I0:=I
 obtain ⟨ρ,xs,G⟩:=I
 have hk':∀ v,bF N (stp o.dst v l)=true:=fun v=>dM hk (fun k e=>by rw [e] at hd;exact hd)
 unfold wpListIn;rw [jK I0 F hk hg,if_pos rfl];obtain ⟨vs,e1,e2,e3⟩:=G.evs (aS _ _) has;subst hst;subst hargs;subst hgg
 have inG1:∀ b,b ∈ bsL g1→∃ (j:Nat) (m:MO),g1[j]?=some m∧b ∈ m.bs:=fun b hb=>by
  obtain ⟨m,hm,hb⟩:=List.mem_flatMap.1 hb;obtain ⟨i,hi⟩:=List.mem_iff_getElem?.1 hm;exact ⟨i,m,hi,hb⟩
 obtain ⟨c1,ρ1,xs1,hw1,hT,hnT,hfT,G1,R1,back⟩:=qBw n ids hdup hlen hids (fun b=>b ∈ bsL g1) G (fun b hb=>by
  obtain ⟨j,m,hj,hb⟩:=inG1 b hb;exact ⟨M.dull (kR hj) hb,M.foot _ m b (kR hj) hb⟩) (R:=(⟨e2,e3⟩:jR w (c.A ρ S.st) c.n0 ρ vs args))
 have M1:MsOk P c1 w g1:=⟨fun i m hi=>M.ok _ m (kR hi),fun i j m m' b hne hi hj=>M.nd _ _ m m' b (fun e=>hne (by omega)) (kR hi) (kR hj),fun i m b hi hb=>.inr (hT b (List.mem_flatMap.2 ⟨m,List.mem_iff_getElem?.2 ⟨i,hi⟩,hb⟩))⟩
 have hcall:=H c1 w ρ1 xs1 vs hw1 G1 M1 R1
 -- the others' blocks
 have oth:∀ (i:Nat) (m:MO) (b:Nat),(pre ++ (g1 ++ post))[i]?=some m→(i < pre.length∨pre.length + g1.length≤i)→b ∈ m.bs→b < w.heap.size∧¬ c1.T b:=fun i m b hi hr hb=>by
  have hdl:=M.dull hi hb
  refine ⟨hdl.lt,hnT b hdl fun hb1=>?_⟩
  obtain ⟨j,m',hj,hb'⟩:=inG1 b hb1
  have hjl:=(List.getElem?_eq_some_iff.1 hj).1
  exact M.nd i (pre.length + j) m m' b (by omega) hi (kR hj) hb hb'
 have hv:aX P l o.op o.type w (fun u w2=>∃ h st' g',R h st' g'∧InvV c (S.swap ids n st') (h.ren (sh2 ids n)) u (lk l) w2∧MsOk P c w2 (pre ++ (g' ++ post))) (fun u w2=>∃ h st' g',R h st' g'∧InvV c (S.swap ids n st') (h.ren (sh2 ids n)) u (lk l) w2∧MsOk P c w2 (pre ++ (g' ++ post))):=by
  rw [hop];unfold aX;simp only [aK,bG,e1,G.fn (aS _ _) hfn];refine ⟨hc,Ret.mono hcall fun u w2 ⟨h,st2,g2,ρ2,xs2,h8,hbx,⟨m,hm⟩,q,G2,M2,hr⟩=>⟨h,st2,g2,q,back u w2 h st2 ρ2 xs2 h8 hbx (fun b hb=>?_) G2 hr,?_⟩⟩
  ·have:b ∈ bsL g2:=by rw [hm];exact List.mem_append_left _ hb
   obtain ⟨m',hm',hb'⟩:=List.mem_flatMap.1 this;obtain ⟨i,hi⟩:=List.mem_iff_getElem?.1 hm';exact M2.dull hi hb'
  ·have keptO:∀ (i:Nat) (m:MO),(pre ++ (g1 ++ post))[i]?=some m→(i < pre.length∨pre.length + g1.length≤i)→m.ok P w2:=fun i m hi hr=>MO.ok_block (M.ok i m hi) fun b hb=>by
    obtain ⟨h1,h2⟩:=oth i m b hi hr hb
    have hw1':=hw1
    have:=G2.kept.block b (by rw [hw1];exact h1) h2
    rw [hw1] at this;exact this
   have clash:∀ (i:Nat) (m m':MO) (j b:Nat),(pre ++ (g1 ++ post))[i]?=some m→(i < pre.length∨pre.length + g1.length≤i)→g2[j]?=some m'→b ∈ m.bs→b ∈ m'.bs→False:=fun i m m' j b hi hr hj hb hb'=>by
    obtain ⟨h1,h2⟩:=oth i m b hi hr hb
    rcases M2.foot j m' b hj hb' with h|h
    ·rw [hw1] at h;omega
    ·exact h2 h
   refine ⟨fun i m hi=>?_,fun i j m m' b hne hi hj hb hb'=>?_,fun i m b hi hb=>?_⟩
   ·rcases nE (g1:=g1) hi with ⟨j,-,hj⟩|⟨h1,h2⟩|⟨h1,h2⟩
    ·exact M2.ok j m hj
    ·exact keptO _ m h2 (.inl h1)
    ·exact keptO _ m h2 (.inr (by omega))
   ·rcases nE (g1:=g1) hi with ⟨j1,e1,hj1⟩|⟨h1,h2⟩|⟨h1,h2⟩ <;> rcases nE (g1:=g1) hj with ⟨j2,e2,hj2⟩|⟨k1,k2⟩|⟨k1,k2⟩
    ·exact M2.nd j1 j2 m m' b (fun e=>hne (by omega)) hj1 hj2 hb hb'
    ·exact clash _ m' m j1 b k2 (.inl k1) hj1 hb' hb
    ·exact clash _ m' m j1 b k2 (.inr (by omega)) hj1 hb' hb
    ·exact clash _ m m' j2 b h2 (.inl h1) hj2 hb hb'
    ·exact M.nd _ _ m m' b hne h2 k2 hb hb'
    ·exact M.nd _ _ m m' b (by omega) h2 k2 hb hb'
    ·exact clash _ m m' j2 b h2 (.inr (by omega)) hj2 hb hb'
    ·exact M.nd _ _ m m' b (by omega) h2 k2 hb hb'
    ·exact M.nd _ _ m m' b (by omega) h2 k2 hb hb'
   ·rcases nE (g1:=g1) hi with ⟨j,-,hj⟩|⟨h1,h2⟩|⟨h1,h2⟩
    ·rcases M2.foot j m b hj hb with h|h
     ·rw [hw1] at h
      have:=G.kept.size
      exact .inl (by omega)
     ·exact hfT b h
    ·exact M.foot _ m b h2 hb
    ·exact M.foot _ m b h2 hb
 refine (bY ((eU (fun x X hx=>iM F hk hx) hv).mono fun u w2 ⟨h',st',g',q,I2,M2⟩=>?_))
 rw [iY];exact h h' st' g' q c F _ _ (hk' _) (I2.set o.dst) M2
end
end Go.Eng
