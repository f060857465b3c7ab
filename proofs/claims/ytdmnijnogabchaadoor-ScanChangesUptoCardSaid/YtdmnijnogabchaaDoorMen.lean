/-
  Maps beside the state: entries that are found ahead of their store; keys of any tN.
-/
import Derived.Test.YtdmnijnogabchaaDoorDrs
import Derived.Test.YtdmnijnogabchaaDoorMsF
import Derived.WideKeyEntry
import Derived.DeepKeys4
set_option linter.unusedSimpArgs false
set_option linter.unusedVariables false
namespace Go.Eng
open Go Go.RowKit Go.Maps
open Go.ChangeMaps Go.MapKept Go.WideShapes
open Go.WideElems (Fit rd rg)
section
variable {P:Program} {N:Nat} {all more:List Oper} {Q:iD} {g:MS} {S:HS} {o:Oper} {K:HS→MS→Prop} {t k e:TypeId} {z:Value}
theorem qRo (hg:gOK S.env (bQ all) o.guard=true) (hd:cQ N o.dst=true) (h:HV1 P o S g fun S' g'=>HVM P N all Q more g' S'):HVM P N all Q (o :: more) g S:=fun c F l w hk I M=>by
 have hd:=dN hd
 have hk':∀ v,bF N (stp o.dst v l)=true:=fun v=>dM hk (fun k e=>by rw [e] at hd;exact hd)
 unfold wpListIn;rw [jK I F hk hg,if_pos rfl];refine bY ((h c l w I M _ (fun x X hx=>iM F hk hx)).mono fun u w1 ⟨S',g',hK,I',M'⟩=>?_)
 rw [iY];exact hK c F _ _ (hk' _) I' M'
theorem HV1.mono {K':HS→MS→Prop} (h:HV1 P o S g K) (hk:∀ S g,K S g→K' S g):HV1 P o S g K':=fun c l w I M ev' hev'=>(h c l w I M ev' hev').mono fun u w1 ⟨S',g',hK,r⟩=>⟨S',g',hk _ _ hK,r⟩
theorem qB9 {f:FuncId} {args args':List HV} {st:aC} {R:HV→aC→MS→Prop} {x:Operand} {ay:Array Operand} {ats:Array TypeId} (pre g1 post:MS) (hgg:g=pre ++ (g1 ++ post)) (n:Nat) (ids:List Nat) (hc:aL P f=true) (H:HFunM P f args' st g1 R)
  (hop:o.op=.call ⟨.value x,ay,ats⟩) (hfn:fnH (hev S.env x)=some f) (has:fP S.env ay.toList=some args)
  (hdup:dup ids=false) (hlen:ids.length≤8) (hids:∀ i ∈ ids,cE n i=false) (hst:eQ (pos ids) S.st 0 ids=st) (hargs:args.map (HV.ren (pos ids))=args')
  (h:∀ h st' g',R h st' g'→K ((S.swap ids n st').set o.dst (h.ren (sh2 ids n))) (pre ++ (g' ++ post))):HV1 P o S g K:=fun c l w I M ev' hev'=>by
 obtain ⟨ρ,xs,G⟩:=I;obtain ⟨vs,e1,e2,e3⟩:=G.evs (aS _ _) has;subst hst;subst hargs;subst hgg
 have inG1:∀ b,b ∈ bsL g1→∃ (j:Nat) (m:MO),g1[j]?=some m∧b ∈ m.bs:=fun b hb=>by
  obtain ⟨m,hm,hb⟩:=List.mem_flatMap.1 hb;obtain ⟨i,hi⟩:=List.mem_iff_getElem?.1 hm;exact ⟨i,m,hi,hb⟩
 obtain ⟨c1,ρ1,xs1,hw1,hT,hnT,hfT,G1,R1,back⟩:=qBw n ids hdup hlen hids (fun b=>b ∈ bsL g1) G (fun b hb=>by
  obtain ⟨j,m,hj,hb⟩:=inG1 b hb;exact ⟨M.dull (kR hj) hb,M.foot _ m b (kR hj) hb⟩) (R:=(⟨e2,e3⟩:jR w (c.A ρ S.st) c.n0 ρ vs args))
 have M1:MsOk P c1 w g1:=⟨fun i m hi=>M.ok _ m (kR hi),fun i j m m' b hne hi hj=>M.nd _ _ m m' b (fun e=>hne (by omega)) (kR hi) (kR hj),fun i m b hi hb=>.inr (hT b (List.mem_flatMap.2 ⟨m,List.mem_iff_getElem?.2 ⟨i,hi⟩,hb⟩))⟩
 have hcall:=H c1 w ρ1 xs1 vs hw1 G1 M1 R1
 -- the others' blocks
 have oth:∀ (i:Nat) (m:MO) (b:Nat),(pre ++ (g1 ++ post))[i]?=some m→(i < pre.length∨pre.length + g1.length≤i)→b ∈ m.bs→b < w.heap.size∧¬ c1.T b:=fun i m b hi hr hb=>by
  have hdl:=M.dull hi hb
  refine ⟨hdl.lt,hnT b hdl fun hb1=>?_⟩
  obtain ⟨j,m',hj,hb'⟩:=inG1 b hb1
  have hjl:=(List.getElem?_eq_some_iff.1 hj).1
  exact M.nd i (pre.length + j) m m' b (by omega) hi (kR hj) hb hb'
 have hv:aX P l o.op o.type w (fun u w2=>∃ h st' g',R h st' g'∧InvV c (S.swap ids n st') (h.ren (sh2 ids n)) u (lk l) w2∧MsOk P c w2 (pre ++ (g' ++ post))) (fun u w2=>∃ h st' g',R h st' g'∧InvV c (S.swap ids n st') (h.ren (sh2 ids n)) u (lk l) w2∧MsOk P c w2 (pre ++ (g' ++ post))):=by
  rw [hop];unfold aX;simp only [aK,bG,e1,G.fn (aS _ _) hfn];refine ⟨hc,Ret.mono hcall fun u w2 ⟨h,st2,g2,ρ2,xs2,h8,hbx,⟨m,hm⟩,q,G2,M2,hr⟩=>⟨h,st2,g2,q,back u w2 h st2 ρ2 xs2 h8 hbx (fun b hb=>?_) G2 hr,?_⟩⟩
  ·have:b ∈ bsL g2:=by rw [hm];exact List.mem_append_left _ hb
   obtain ⟨m',hm',hb'⟩:=List.mem_flatMap.1 this;obtain ⟨i,hi⟩:=List.mem_iff_getElem?.1 hm';exact M2.dull hi hb'
  ·have keptO:∀ (i:Nat) (m:MO),(pre ++ (g1 ++ post))[i]?=some m→(i < pre.length∨pre.length + g1.length≤i)→m.ok P w2:=fun i m hi hr=>MO.ok_block (M.ok i m hi) fun b hb=>by
    obtain ⟨h1,h2⟩:=oth i m b hi hr hb
    have hw1':=hw1
    have:=G2.kept.block b (by rw [hw1];exact h1) h2
    rw [hw1] at this;exact this
   have clash:∀ (i:Nat) (m m':MO) (j b:Nat),(pre ++ (g1 ++ post))[i]?=some m→(i < pre.length∨pre.length + g1.length≤i)→g2[j]?=some m'→b ∈ m.bs→b ∈ m'.bs→False:=fun i m m' j b hi hr hj hb hb'=>by
    obtain ⟨h1,h2⟩:=oth i m b hi hr hb
    rcases M2.foot j m' b hj hb' with h|h
    ·rw [hw1] at h;omega
    ·exact h2 h
   refine ⟨fun i m hi=>?_,fun i j m m' b hne hi hj hb hb'=>?_,fun i m b hi hb=>?_⟩
   ·rcases nE (g1:=g1) hi with ⟨j,-,hj⟩|⟨h1,h2⟩|⟨h1,h2⟩
    ·exact M2.ok j m hj
    ·exact keptO _ m h2 (.inl h1)
    ·exact keptO _ m h2 (.inr (by omega))
   ·rcases nE (g1:=g1) hi with ⟨j1,e1,hj1⟩|⟨h1,h2⟩|⟨h1,h2⟩ <;> rcases nE (g1:=g1) hj with ⟨j2,e2,hj2⟩|⟨k1,k2⟩|⟨k1,k2⟩
    ·exact M2.nd j1 j2 m m' b (fun e=>hne (by omega)) hj1 hj2 hb hb'
    ·exact clash _ m' m j1 b k2 (.inl k1) hj1 hb' hb
    ·exact clash _ m' m j1 b k2 (.inr (by omega)) hj1 hb' hb
    ·exact clash _ m m' j2 b h2 (.inl h1) hj2 hb hb'
    ·exact M.nd _ _ m m' b hne h2 k2 hb hb'
    ·exact M.nd _ _ m m' b (by omega) h2 k2 hb hb'
    ·exact clash _ m m' j2 b h2 (.inr (by omega)) hj2 hb hb'
    ·exact M.nd _ _ m m' b (by omega) h2 k2 hb hb'
    ·exact M.nd _ _ m m' b (by omega) h2 k2 hb hb'
   ·rcases nE (g1:=g1) hi with ⟨j,-,hj⟩|⟨h1,h2⟩|⟨h1,h2⟩
    ·rcases M2.foot j m b hj hb with h|h
     ·rw [hw1] at h
      have:=G.kept.size
      exact .inl (by omega)
     ·exact hfT b h
    ·exact M.foot _ m b h2 hb
    ·exact M.foot _ m b h2 hb
 refine (eU hev' hv).mono fun u w2 ⟨h',st',g',q,I2,M2⟩=>?_
 exact ⟨_,_,h h' st' g' q,I2.set o.dst,M2⟩
theorem qP0 {m x:Operand} {i r n:Nat} {M:MTab} {s:ByteArray} (hT:MapTy P t k e z) (hop:o.op=.mapEntry t m x)
  (hi:g[i]?=some (.map r k n M)) (hn:n < maxLen) (hm:hev S.env m=some (.v (.map (some r)))) (hx:hev S.env x=some (.v (.string s))) (hsz:s.size≤maxLen)
  (h:∀ st:Value,K (S.set o.dst (.tup [.junk,.v st])) (g.set i (.opn r t k n M s.data.toList st))):HV1 P o S g K:=fun c l w I MK ev' hev'=>by
 obtain ⟨ρ,xs,G⟩:=I;obtain ⟨vm,m1,m2⟩:=G.ev (aS _ l) hm;obtain ⟨vx,x1,x2⟩:=G.ev (aS _ l) hx
 have:=bB m2;subst this
 have:=bB x2;subst this
 have m3:=hev' _ _ m1
 have x3:=hev' _ _ x1
 obtain ⟨D,⟨es,clock,hb,F,hs,hD⟩,hr⟩:=MK.ok i _ hi
 have hkey:keyOf P k (.string s)=some (.string s.data.toList):=WideMaps.keyOf_string_mk hT.kk hsz
 obtain ⟨v0,st,es1,clock1,hrun,-,hstore⟩:=WideElems.entry_then_store (WideMaps.string_law hT.kk) hT.tk hT.z hb F hkey
 have hgr:w.grownBy (setBlock w r (.map es1 clock1)) (some r):=World.mapTurned.grown ⟨es,clock,es1,clock1,hb,rfl⟩
 have hf:=MK.foot i _ r hi (by simp [MO.bs])
 have hdl:=MK.dull hi (b:=r) (by simp [MO.bs])
 have G':=G.turn hdl hf hgr
 have hb1:(setBlock w r (.map es1 clock1)).heap[r]?=some (.map es1 clock1):=heap_setBlock_same hb _
 unfold Yields;simp only [execOp,hop,m3,x3,hrun,Result.andThen,Sem.run_bind,Sem.run];refine ⟨_,_,h (goInt st),InvV.set ⟨ρ,xs,G',.tup (by simp) fun j a b=>?_⟩ o.dst,MK.set hi ⟨⟨_,_,hb1⟩,fun w2 v hw2=>?_⟩ (fun b hb=>.inl hb) G.kept.size fun b hb hn=>?_⟩
 ·match j,a with
 |0,_=>exact .junk _
 |1,_=>exact .v _
 ·rw [hb1] at hw2;obtain ⟨es',clock',h1,h2⟩:=hstore w2 v hw2;obtain ⟨es2,clock2,h3,F',hput,-⟩:=Maps.fit_store (R':=mK) (Keyed.of_law (WideMaps.string_law hT.kk)) hT.tk hb F (Nat.lt_of_le_of_lt hs hn) (fun _ _ _ _ hz=>hz) hkey (val:=v) (yv:=(.held v,[])) rfl
  rw [h3] at h2
  have e0:setBlock w r (.map es2 clock2)=setBlock w r (.map es' clock'):=by injection h2
  have e1:(setBlock w r (.map es2 clock2)).heap[r]?=(setBlock w r (.map es' clock')).heap[r]?:=by rw [e0]
  rw [heap_setBlock_same hb,heap_setBlock_same hb] at e1;simp only [Option.some.injEq,Obj.map.injEq] at e1;obtain ⟨rfl,rfl⟩:=e1;refine ⟨_,h1,World.mapTurned.grown ⟨es1,clock1,es2,clock2,hw2,rfl⟩,D.put (.string s.data.toList) (.held v),⟨es2,clock2,heap_setBlock_same hw2 _,F',?_,?_⟩,qA0 hr _ _⟩
  ·have e1:es2.size=((es2.toList.map (rg P k mK)).foldr DataW.insert []).length:=by rw [length_sorted];simp
   rw [e1,hput];unfold putKey;rw [length_insert]
   have e2:=List.length_filter_le (notKey (.string s.data.toList)) ((es.toList.map (rg P k mK)).foldr DataW.insert [])
   rw [length_sorted,List.length_map] at e2
   have e3:es.toList.length=es.size:=by simp
   omega
  ·rw [hD,DataW.put_eq,hput]
 ·exact hgr.block b hb fun e=>hn (by simp [MO.bs,Option.some.inj e])
theorem qKt {m x y:Operand} {i r n:Nat} {M:MTab} {s:List UInt8} {st:Value} {hv:HV} {v:Value} (hop:o.op=.entryStore t m x y)
  (hi:g[i]?=some (.opn r t k n M s st)) (hm:hev S.env m=some (.v (.map (some r)))) (hx:hev S.env x=some (.v st)) (hy:hev S.env y=some hv) (hvv:vOf hv=some v)
  (h:K (S.set o.dst (.v undef)) (g.set i (.map r k (n + 1) (M.put s v)))):HV1 P o S g K:=fun c l w I MK ev' hev'=>by
 obtain ⟨ρ,xs,G⟩:=I;obtain ⟨vm,m1,m2⟩:=G.ev (aS _ l) hm;obtain ⟨vx,x1,x2⟩:=G.ev (aS _ l) hx;obtain ⟨vy,y1,y2⟩:=G.ev (aS _ l) hy
 have:=bB m2;subst this
 have:=bB x2;subst this
 have:=sS hvv y2;subst this
 have m3:=hev' _ _ m1
 have x3:=hev' _ _ x1
 have y3:=hev' _ _ y1
 obtain ⟨-,hst⟩:=MK.ok i _ hi;obtain ⟨w3,hrun,hgr,D,hown,hrd⟩:=hst w vy rfl
 have hf:=MK.foot i _ r hi (by simp [MO.bs])
 have hdl:=MK.dull hi (b:=r) (by simp [MO.bs])
 have G':=G.turn hdl hf hgr
 unfold Yields;simp only [execOp,hop,m3,x3,y3,hrun,Result.andThen,Sem.run_bind,Sem.run];exact ⟨_,_,h,InvV.set ⟨ρ,xs,G',.v _⟩ o.dst,MK.set hi ⟨D,hown,hrd⟩ (fun b hb=>.inl hb) G.kept.size fun b hb hn=>hgr.block b hb fun e=>hn (by simp [MO.bs,Option.some.inj e])⟩
structure MapTyG (P:Program) (t k e:TypeId) (z:Value):Prop where
 tk:P.underlying t=some (.map k e)
 kk:Keyed P k
 z:∀ w,(zeroValue e).run P w=.ok z w
theorem zBu {Kr:HS→Prop} {n i:Nat} {m x:Operand} {cm:Bool} {q r c:Nat} {M:MTab} {ks:List UInt8} {hk:HV} {key:Value} (hsp:all.drop i=o :: more) (hT:MapTyG P t k e z) (hop:o.op=.lookup t m x cm) (hg:o.guard=none) (hd:cQ N o.dst=true)
  (hi:g[q]?=some (.map r k c M)) (hm:hev (dW S.env (gV [m,x])) m=some (.v (.map (some r)))) (hx:hev (dW S.env (gV [m,x])) x=some hk) (hkv:vOf hk=some key) (hkey:keyOf P k key=some (.string ks))
  (h:HRM P N all g Kr n (i + 1) (S.set o.dst (nF (M ks) z cm))):HRM P N all g Kr n i S:=fun E0 st hs0 hst F=>by
 have hoi:all[i]?=some o:=by
  have:=congrArg (fun l=>l[0]?) hsp
  simp only [List.getElem?_drop,Nat.add_zero,List.getElem?_cons_zero] at this;exact this
 let hs1:Nat→HV:=fun j=>if j=i then nF (M ks) z cm else hs0 j
 have e1:hs1 i=nF (M ks) z cm:=if_pos rfl
 have e2:∀ j,j < i→hs1 j=hs0 j:=fun j hj=>if_neg (by omega)
 have F2:FrOk all E0 hs1 (i + 1) (S.set o.dst (nF (M ks) z cm)).env:=by
  have:=(F.congr e2).set hoi
  rw [e1] at this;exact this
 obtain ⟨hs2,b1,b2,S2,f2,F2,k2⟩:=h E0 st hs1 (by cases o.dst <;> exact hst) F2
 have ej:∀ j,j < i→hs2 j=hs0 j:=fun j hj=>by rw [b1 j (by omega),e2 j hj]
 have ei:hs2 i=nF (M ks) z cm:=by rw [b1 i (by omega),e1]
 refine ⟨hs2,ej,fun k' o' h1 h2 ho=>?_,S2,f2,F2,k2⟩
 rcases Nat.lt_or_ge i k' with hk'|hk'
 ·exact b2 k' o' (by omega) h2 ho
 ·have:k'=i:=by omega
  subst this;rw [hoi] at ho;simp only [Option.some.injEq] at ho;subst ho
  have TF:∀ t h,hlk (dW S.env (gV [m,x])) t=some h→t ∈ gV [m,x]∧hlk S.env t=some h:=fun t h hh=>jB hh
  refine ⟨dN hd,dW S.env (gV [m,x]),(F.congr ej).env fun t x hx=>(TF t x hx).2,fun t h hh=>fW ?_,fun c' l w ρ xs G MK=>⟨true,by rw [hg];rfl,fun _=>?_,fun e=>by cases e⟩⟩
  ·have:=iV (TF t h hh).1
   rw [hop]
   simpa [Op.operands] using this
  ·obtain ⟨vm,m1,m2⟩:=G.ev (aS _ l) hm;obtain ⟨vx,x1,x2⟩:=G.ev (aS _ l) hx
   have:=bB m2;subst this
   have:=sS hkv x2;subst this
   have m3:evD l m=.map (some r):=by simp [evD,m1]
   have x3:evD l x=vx:=by simp [evD,x1]
   obtain ⟨D,hown,hr⟩:=MK.ok q _ hi;rw [ei]
   have val:∀ v ps,mK v=some (D.atKey (.string ks) (.held z),ps)→v=(M ks).getD z:=fun v ps hv=>by
    simp only [mK,hr.at',Option.some.injEq,Prod.mk.injEq] at hv
    cases hM:M ks with
   |none=>rw [hM] at hv;injection hv.1
   |some u=>rw [hM] at hv;injection hv.1
   cases cm with
  |false =>
    obtain ⟨v,ps,hrun,hv⟩:=hown.lookup hT.kk hT.tk (hT.z w) (zd:=.held z) (zp:=[]) rfl (key:=vx) (kl:=.string ks) hkey
    have:=val v ps hv
    subst this;unfold Yields;simp only [execOp,hop,m3,x3,hrun,Result.andThen,Sem.run_bind,Sem.run];exact ⟨kE _,Below.refl _ _⟩
  |true =>
    obtain ⟨v,ps,hrun,hv⟩:=hown.look_ok hT.kk hT.tk (hT.z w) (zd:=.held z) (zp:=[]) rfl (key:=vx) (kl:=.string ks) hkey
    have:=val v ps hv
    subst this;rw [hr.has] at hrun;unfold Yields;simp only [execOp,hop,m3,x3,hrun,Result.andThen,Sem.run_bind,Sem.run];refine ⟨.tup rfl fun j a b=>?_,Below.refl _ _⟩
    match j,a with
   |0,_=>exact kE _
   |1,_=>exact .v _
theorem zFt {m x y:Operand} {i r n:Nat} {M:MTab} {ks:List UInt8} {hk hv:HV} {key v:Value} (hT:MapTyG P t k e z) (hop:o.op=.mapUpdate t m x y)
  (hi:g[i]?=some (.map r k n M)) (hn:n < maxLen) (hm:hev S.env m=some (.v (.map (some r)))) (hx:hev S.env x=some hk) (hkv:vOf hk=some key) (hkey:keyOf P k key=some (.string ks)) (hy:hev S.env y=some hv) (hvv:vOf hv=some v)
  (h:K (S.set o.dst (.v undef)) (g.set i (.map r k (n + 1) (M.put ks v)))):HV1 P o S g K:=fun c l w I MK ev' hev'=>by
 obtain ⟨ρ,xs,G⟩:=I;obtain ⟨vm,m1,m2⟩:=G.ev (aS _ l) hm;obtain ⟨vx,x1,x2⟩:=G.ev (aS _ l) hx;obtain ⟨vy,y1,y2⟩:=G.ev (aS _ l) hy
 have:=bB m2;subst this
 have:=sS hkv x2;subst this
 have:=sS hvv y2;subst this
 have m3:=hev' _ _ m1
 have x3:=hev' _ _ x1
 have y3:=hev' _ _ y1
 obtain ⟨D,hown,hr⟩:=MK.ok i _ hi;obtain ⟨w',hrun,hown',ht⟩:=hown.store hT.kk hT.tk hn (key:=vx) (val:=vy) (kl:=.string ks) hkey (d:=.held vy) (ps:=[]) rfl
 have hgr:=ht.grown
 have hf:=MK.foot i _ r hi (by simp [MO.bs])
 have hdl:=MK.dull hi (b:=r) (by simp [MO.bs])
 have G':=G.turn hdl hf hgr
 unfold Yields;simp only [execOp,hop,m3,x3,y3,hrun,Result.andThen,Sem.run_bind,Sem.run];exact ⟨_,_,h,InvV.set ⟨ρ,xs,G',.v _⟩ o.dst,MK.set hi ⟨_,hown',qA0 hr _ _⟩ (fun b hb=>.inl hb) G.kept.size fun b hb hn=>hgr.block b hb fun e=>hn (by simp [MO.bs,Option.some.inj e])⟩
end
end Go.Eng
