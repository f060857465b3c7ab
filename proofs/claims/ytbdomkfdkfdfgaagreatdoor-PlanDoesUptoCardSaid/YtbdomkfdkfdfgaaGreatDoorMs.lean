/-
  Maps beside the engine's state: regions that draw their order; functions that are handed maps, their bodies, their calls.
-/
import Derived.Test.YtbdomkfdkfdfgaaGreatDoorMp
set_option linter.unusedSimpArgs false
set_option linter.unusedVariables false
section
namespace Go.Eng
open Go Go.RowKit Go.Maps
structure MapTy (P:Program) (t k e:TypeId) (z:Value):Prop where
 tk:P.underlying t=some (.map k e)
 kk:P.underlying k=some .string
 z:∀ w,(zeroValue e).run P w=.ok z w
def zT3 (cs:List Value):Bool:=cs.all (·.oneCell')
def zCd:Value→HV
|.agg cs=>if zT3 cs.toList then .agg (cs.toList.map .v) else .v (.agg cs)
|v=>.v v
theorem qYm {w:World} {A:Nat→Prop} {n0:Nat} {ρ:Nat→Value} (v:Value):RepH w A n0 ρ v (zCd v):=by
 unfold zCd;split
 ·rename_i cs;split
  ·rename_i h;refine .agg (by simp) (fun j hj=>?_) fun j h1 h2=>?_
   ·have:=List.all_eq_true.1 h (cs[j]) (by simp)
    simpa using this
   ·simp only [List.getElem_map,Array.getElem_toList];exact .v _
  ·exact .v _
 ·exact .v v
def vOf:HV→Option Value
|.v x=>some x
|.agg hs=>(vsOf hs).map fun l=>.agg l.toArray
|_=>none
where vsOf:List HV→Option (List Value)
|[]=>some []
|.v x :: r=>(vsOf r).map (x :: ·)
|_=>none
theorem qWp {w:World} {A:Nat→Prop} {n0:Nat} {ρ:Nat→Value}:∀ {hs:List HV} {l:List Value},vOf.vsOf hs=some l→∀ {vs:List Value},vs.length=hs.length→(∀ j (h1:j < vs.length) (h2:j < hs.length),RepH w A n0 ρ vs[j] hs[j])→vs=l
|[],l,h,vs,hl,_=>by
  simp only [vOf.vsOf,Option.some.injEq] at h;subst h;exact List.length_eq_zero_iff.1 hl
|x :: r,l,h,[],hl,_=>by simp at hl
|x :: r,l,h,v :: vs,hl,hr=>by
  match x,h with
 |.v x,h =>
   simp only [vOf.vsOf,Option.map_eq_some_iff] at h;obtain ⟨l',h1,rfl⟩:=h
   have e:=qWp h1 (vs:=vs) (by simpa using hl) fun j a b=>hr (j + 1) (by simpa using a) (by simpa using b)
   have:=bL (hr 0 (by simp) (by simp))
   simp only [List.getElem_cons_zero] at this;rw [this,e]
theorem zPa {w:World} {A:Nat→Prop} {n0:Nat} {ρ:Nat→Value} {v x:Value} {h:HV} (hv:vOf h=some x) (r:RepH w A n0 ρ v h):v=x:=by
 unfold vOf at hv;split at hv
 ·simp only [Option.some.injEq] at hv;subst hv;exact bL r
 ·simp only [Option.map_eq_some_iff] at hv;obtain ⟨l,h1,rfl⟩:=hv
  cases r with
 |@agg cs _ hn h1' h2 =>
   have:=qWp h1 (vs:=cs.toList) (by simpa using hn) fun j a b=>by
    have:=h2 j (by simpa using a) b
    simpa using this
   rw [← this]
 ·cases hv
def qS6 (v:Option Value) (z:Value):Bool→HV
|true=>.tup [zCd (v.getD z),.v (.bool v.isSome)]
|false=>zCd (v.getD z)
section
variable {P:Program} {N:Nat} {all more:List Oper} {Q:uT} {g:MS} {S:HS} {o:Oper} {t k e:TypeId} {z:Value}
theorem zAz {m x:Operand} {cm:Bool} {i r n:Nat} {M:MTab} {s:ByteArray} (hT:MapTy P t k e z) (hop:o.op=.lookup t m x cm) (hg:gOK S.env (cT all) o.guard=true) (hd:fW N o.dst=true)
  (hi:g[i]?=some (.map r k n M)) (hm:hev S.env m=some (.v (.map (some r)))) (hx:hev S.env x=some (.v (.string s))) (hsz:s.size≤maxLen)
  (h:HVM P N all Q more g (S.set o.dst (qS6 (M s.data.toList) z cm))):HVM P N all Q (o :: more) g S :=
 qQ8 hg hd fun c l w ρ xs G MK ev' hev'=>by
  obtain ⟨vm,m1,m2⟩:=G.ev (bX _ l) hm;obtain ⟨vx,x1,x2⟩:=G.ev (bX _ l) hx
  have:=bL m2;subst this
  have:=bL x2;subst this
  have m3:=hev' _ _ m1
  have x3:=hev' _ _ x1
  obtain ⟨D,hown,hr⟩:=MK.ok i _ hi
  have val:∀ v ps,qT4 v=some (D.atKey (.string s.data.toList) (.held z),ps)→v=(M s.data.toList).getD z:=fun v ps hv=>by
   simp only [qT4,hr.at',Option.some.injEq,Prod.mk.injEq] at hv
   cases hM:M s.data.toList with
  |none=>rw [hM] at hv;injection hv.1
  |some u=>rw [hM] at hv;injection hv.1
  cases cm with
 |false =>
   obtain ⟨v,ps,hrun,hv⟩:=hown.lookup (string_keyed hT.kk) hT.tk (hT.z w) (zd:=.held z) (zp:=[]) rfl (key:=.string s) (kl:=.string s.data.toList) (WideMaps.keyOf_string_mk hT.kk hsz)
   have:=val v ps hv
   subst this;exact ⟨_,w,g,_,by unfold Yields;simp [execOp,hop,m3,x3,hrun,Result.andThen],⟨ρ,xs,G,qYm _⟩,MK,h⟩
 |true =>
   obtain ⟨v,ps,hrun,hv⟩:=hown.look_ok (string_keyed hT.kk) hT.tk (hT.z w) (zd:=.held z) (zp:=[]) rfl (key:=.string s) (kl:=.string s.data.toList) (WideMaps.keyOf_string_mk hT.kk hsz)
   have:=val v ps hv
   subst this;rw [hr.has] at hrun;exact ⟨.tuple #[(M s.data.toList).getD z,.bool (M s.data.toList).isSome],w,g,_,by unfold Yields;simp [execOp,hop,m3,x3,hrun,Result.andThen],⟨ρ,xs,G,.tup rfl fun j a b=>by
    match j,a with
   |0,_=>exact qYm _
   |1,_=>exact .v _⟩,MK,h⟩
theorem zHn {D:DataW Value} {M:MTab} (h:Reads D M) (s:List UInt8) (v:Value):Reads (D.put (.string s) (.held v)) (M.put s v):=by
 have hkl:WideAt.IsKeyLit (.string s):=trivial
 refine ⟨h.map.put _ _,fun q=>?_,fun q z=>?_⟩
 ·by_cases eq:q=s
  ·subst eq;rw [Maps.has_put_same h.map hkl];simp [MTab.put]
  ·rw [Maps.has_put_other fun e=>eq (by injection e)]
   simp only [MTab.put,if_neg eq];exact h.has q
 ·by_cases eq:q=s
  ·subst eq;rw [Maps.atKey_put_same h.map hkl];simp [MTab.put]
  ·rw [Maps.atKey_put_other fun e=>eq (by injection e)]
   simp only [MTab.put,if_neg eq];exact h.at' q z
theorem qWn {m x y:Operand} {i r n:Nat} {M:MTab} {s:ByteArray} {hv:HV} {v:Value} (hT:MapTy P t k e z) (hop:o.op=.mapUpdate t m x y) (hg:gOK S.env (cT all) o.guard=true) (hd:fW N o.dst=true)
  (hi:g[i]?=some (.map r k n M)) (hn:n < maxLen) (hm:hev S.env m=some (.v (.map (some r)))) (hx:hev S.env x=some (.v (.string s))) (hsz:s.size≤maxLen) (hy:hev S.env y=some hv) (hvv:vOf hv=some v)
  (h:HVM P N all Q more (g.set i (.map r k (n + 1) (M.put s.data.toList v))) (S.set o.dst (.v undef))):HVM P N all Q (o :: more) g S :=
 qQ8 hg hd fun c l w ρ xs G MK ev' hev'=>by
  obtain ⟨vm,m1,m2⟩:=G.ev (bX _ l) hm;obtain ⟨vx,x1,x2⟩:=G.ev (bX _ l) hx;obtain ⟨vy,y1,y2⟩:=G.ev (bX _ l) hy
  have:=bL m2;subst this
  have:=bL x2;subst this
  have:=zPa hvv y2;subst this
  have m3:=hev' _ _ m1
  have x3:=hev' _ _ x1
  have y3:=hev' _ _ y1
  obtain ⟨D,hown,hr⟩:=MK.ok i _ hi;obtain ⟨w',hrun,hown',ht⟩:=hown.store (string_keyed hT.kk) hT.tk hn (key:=.string s) (val:=vy) (kl:=.string s.data.toList) (WideMaps.keyOf_string_mk hT.kk hsz) (d:=.held vy) (ps:=[]) rfl
  have hgr:=ht.grown
  have hf:=MK.foot i _ r hi (by simp [MO.bs])
  have hdl:=MK.dull hi (b:=r) (by simp [MO.bs])
  have G':=G.turn hdl hf hgr
  refine ⟨undef,w',g.set i (.map r k (n + 1) (M.put s.data.toList vy)),.v undef,by unfold Yields;simp [execOp,hop,m3,x3,y3,hrun,Result.andThen],⟨ρ,xs,G',.v _⟩,MK.set hi ⟨_,hown',zHn hr _ _⟩ (fun b hb=>.inl hb) G.kept.size fun b hb hn=>?_,h⟩
  exact hgr.block b hb fun e=>hn (by simp [MO.bs,Option.some.inj e])
theorem zAy {cp:Option Operand} (hop:o.op=.makeMap t none) (hg:gOK S.env (cT all) o.guard=true) (hd:fW N o.dst=true) (k:TypeId)
  (h:∀ r,HVM P N all Q more (g ++ [.map r k 0 (fun _=>none)]) (S.set o.dst (.v (.map (some r))))):HVM P N all Q (o :: more) g S :=
 qQ8 hg hd fun c l w ρ xs G MK ev' hev'=>by
  have hB:Below w.heap.size w (w.alloc (.map #[] 0)):=(Below.refl _ _).alloc (Nat.le_refl _) _
  refine ⟨.map (some w.heap.size),w.alloc (.map #[] 0),_,.v (.map (some w.heap.size)),?_,⟨ρ,xs,G.below hB,.v _⟩,?_,h w.heap.size⟩
  ·have hrun:(execOp ev' o).run P w=.ok (.value (.map (some w.heap.size))) (w.alloc (.map #[] 0)):=by
    simp only [execOp,hop];rfl
   unfold Yields;rw [hrun];exact ⟨rfl,rfl⟩
  ·have key:∀ j m,(g ++ [.map w.heap.size k 0 (fun _=>none)])[j]?=some m→g[j]?=some m∨(j=g.length∧m=.map w.heap.size k 0 (fun _=>none)):=fun j m h=>by
    rcases Nat.lt_or_ge j g.length with hj|hj
    ·rw [List.getElem?_append_left hj] at h;exact .inl h
    ·rw [List.getElem?_append_right hj] at h
     have:j - g.length=0:=by
      have:=(List.getElem?_eq_some_iff.1 h).1
      simp at this;omega
     rw [this] at h;simp only [List.getElem?_cons_zero,Option.some.injEq] at h;exact .inr ⟨by omega,h.symm⟩
   refine ⟨fun j m hj=>?_,fun j1 j2 m1 m2 b hne h1 h2 hb1 hb2=>?_,fun j m b hj hb=>?_⟩
   ·rcases key j m hj with hj|⟨_,rfl⟩
    ·exact MO.ok_block (MK.ok j m hj) fun b hb=>hB.block b (MK.dull hj hb).lt
    ·exact ⟨.map [],World.ownsMap_made w P k _,⟨⟨[],rfl⟩,fun s=>rfl,fun s z=>rfl⟩⟩
   ·rcases key j1 m1 h1 with h1|⟨e1,rfl⟩ <;> rcases key j2 m2 h2 with h2|⟨e2,rfl⟩
    ·exact MK.nd j1 j2 m1 m2 b hne h1 h2 hb1 hb2
    ·simp only [MO.bs,List.mem_singleton] at hb2
     have:=(MK.dull h1 hb1).lt;omega
    ·simp only [MO.bs,List.mem_singleton] at hb1
     have:=(MK.dull h2 hb2).lt;omega
    ·omega
   ·rcases key j m hj with hj|⟨_,rfl⟩
    ·exact MK.foot j m b hj hb
    ·simp only [MO.bs,List.mem_singleton] at hb;subst hb;exact .inl G.kept.size
end
end Go.Eng
end
section
namespace Go.Eng
open Go Go.RowKit Go.Maps
section
variable {P:Program} {N:Nat} {c:Ctx} {S S':HS} {g g':MS} {Q Q':uT} {l:Env} {look:Nat→Option Value} {w w':World} {ρ ρ':Nat→Value} {xs:Nat→List Value} {A A':Nat→Prop} {n0 n1:Nat}
end
def HWM (P:Program) (N:Nat) (x:Code) (Q:uT) (g:MS) (S:HS):Prop :=
 ∀ (c:Ctx) (l:Env) (w:World),Inv c S (lk l) w→MsOk P c w g→W P N x (fun e l' w'=>∃ S' g',Inv c S' (lk l') w'∧MsOk P c w' g'∧Q e g' S') l w
def msQ (K:MS→HS→Prop) (Q:uT):uT
|.normal,g,S=>K g S
|e,g,S=>Q e g S
def mbQ (id:Nat) (Q:uT):uT
|.exit id',g,S=>if id'=id then Q .normal g S else Q (.exit id') g S
|e,g,S=>Q e g S
section
variable {P:Program} {N:Nat} {S S':HS} {g g':MS} {Q Q':uT}
theorem HWM.mono {x:Code} (h:HWM P N x Q g S) (hq:∀ e g S,Q e g S→Q' e g S):HWM P N x Q' g S:=fun c l w I M =>
 (h c l w I M).mono fun e' l' w' ⟨S',g',I',M',q⟩=>⟨S',g',I',M',hq _ _ _ q⟩
theorem zAw {x:Code} (h:HW P N x (fun e S'=>Q e g S') S):HWM P N x Q g S:=fun c l w I M=>by
 obtain ⟨c1,I1,back⟩:=qRu I M;exact (h c1 l w I1).mono fun e' l' w' ⟨S',I',q⟩=>by
  obtain ⟨I2,M2⟩:=back S' _ _ I';exact ⟨S',g,I2,M2,q⟩
theorem qAe {id:Nat} {ops:List Oper} (h:HVM P N ops Q ops g S):HWM P N (.region id ops.toArray false) Q g S:=fun c l w I M hk F=>wpIn_region_lit (h c F l w hk I M)
theorem aS {id:Nat} {ops:List Oper} (h:∀ K:HS→Prop,(∀ S',Q .normal g S'→K S')→HV2 P N (cT ops) K ops S):HWM P N (.region id ops.toArray false) Q g S :=
 zAw (zJ fun K hK=>h K hK)
theorem aR {x y:Code} (h:HWM P N x (msQ (fun g S=>HWM P N y Q g S) Q) g S):HWM P N (.seq x y) Q g S:=fun c l w I M =>
 bM ((h c l w I M).mono fun e' l' w' ⟨S',g',I',M',q⟩=>by
  cases e' with
 |normal=>exact q c l' w' I' M'
 |_=>exact ⟨S',g',I',M',q⟩)
theorem jQ {id:Nat} {x:Code} (h:HWM P N x (mbQ id Q) g S):HWM P N (.block id x) Q g S:=fun c l w I M =>
 iJ ((h c l w I M).mono fun e' l' w' ⟨S',g',I',M',q⟩=>by
  cases e' with
 |exit id' =>
   simp only [zAo];simp only [mbQ] at q;split
   ·rename_i e1;rw [if_pos e1] at q;exact ⟨S',g',I',M',q⟩
   ·rename_i e1;rw [if_neg e1] at q;exact ⟨S',g',I',M',q⟩
 |_=>exact ⟨S',g',I',M',q⟩)
theorem zAx {x:Operand} {a b:Code} {t:Bool} (hx:hev S.env x=some (.v (.bool t))) (ht:t=true→HWM P N a Q g S) (hf:t=false→HWM P N b Q g S):HWM P N (.cond x a b) Q g S:=fun c l w ⟨ρ,xs,G⟩ M=>by
 obtain ⟨v,h1,h2⟩:=G.ev (bX _ l) hx
 have:=bL h2
 subst this;exact iF h1 (fun e1=>ht e1 c l w ⟨ρ,xs,G⟩ M) (fun e1=>hf e1 c l w ⟨ρ,xs,G⟩ M)
theorem pH {x:Operand} {a b:Code} (hx:hev S.env x=some (.v (.bool true))) (ht:HWM P N a Q g S):HWM P N (.cond x a b) Q g S:=zAx hx (fun _=>ht) (fun h=>by cases h)
theorem iM {x:Operand} {a b:Code} (hx:hev S.env x=some (.v (.bool false))) (hf:HWM P N b Q g S):HWM P N (.cond x a b) Q g S:=zAx hx (fun h=>by cases h) (fun _=>hf)
theorem nR {x:Code} (ks ids:List Nat) {S':HS} (he:S.keep ks ids=S') (h:HWM P N x Q g S'):HWM P N x Q g S:=fun c l w I M=>h c l w (by rw [← he];exact I.keep ks ids) M
theorem kC (h:Q .normal g S):HWM P N .skip Q g S:=fun c l w I M=>kX ⟨S,g,I,M,h⟩
theorem qB7 {id:Nat} (h:Q (.exit id) g S):HWM P N (.exit id) Q g S:=fun c l w I M=>qAb ⟨S,g,I,M,h⟩
theorem zGr (h:Q .ret g S):HWM P N .ret Q g S:=fun c l w I M=>qB5 ⟨S,g,I,M,h⟩
theorem aV {K:MS→HS→Prop} (h:K g S):msQ K Q .normal g S:=h
theorem qV1 {K:MS→HS→Prop} (h:Q .ret g S):msQ K Q .ret g S:=h
theorem lC {K:MS→HS→Prop} {id:Nat} (h:Q (.exit id) g S):msQ K Q (.exit id) g S:=h
theorem iC {id:Nat} (h:Q .normal g S):mbQ id Q .normal g S:=h
theorem zEj {id:Nat} (h:Q .ret g S):mbQ id Q .ret g S:=h
theorem qBh {id:Nat} (h:Q .normal g S):mbQ id Q (.exit id) g S:=by simp only [mbQ,if_true];exact h
theorem qB6 {ι:Type} {x:Code} (E:ι→HS) (G:ι→MS) (J:ι→Prop) (μ:ι→Nat) (ks ids:List Nat) (i:ι) (h0:S.keep ks ids=E i) (hg:g=G i) (hI:J i)
  (round:∀ i,J i→HWM P N x (msQ (fun g' S'=>∃ j,S'.keep ks ids=E j∧g'=G j∧J j∧μ j < μ i) Q) (G i) (E i)):HWM P N (.loop x) Q g S:=fun c l w Iv M=>by
 refine qAa (ι:=ι × Env) (fun p=>p.2) (fun p w=>Inv c (E p.1) (lk p.2) w∧MsOk P c w (G p.1)∧J p.1) (fun p=>μ p.1) ks (i,keep ks l) rfl ⟨?_,by rw [← hg];exact M,hI⟩ ?_
 ·rw [← h0];exact (Iv.keep ks ids).agree fun k h hk=>qB (wU hk).1
 ·rintro ⟨j,l1⟩ w1 ⟨I1,M1,hj⟩;refine (round j hj c l1 w1 I1 M1).mono fun e' l' w' ⟨S',g',I',M',q⟩=>?_
  cases e' with
 |normal =>
   obtain ⟨j',hE,hG,hI',hμ⟩:=q;refine ⟨(j',keep ks l'),rfl,⟨?_,by rw [← hG];exact M',hI'⟩,hμ⟩
   rw [← hE];exact (I'.keep ks ids).agree fun k h hk=>qB (wU hk).1
 |_=>exact ⟨S',g',I',M',q⟩
end
end Go.Eng
end
section
namespace Go.Eng
open Go Go.RowKit Go.Maps
section
variable {P:Program} {N:Nat} {S:HS} {g:MS} {Q:uT}
theorem zNu {Qp:qDa} {l:Env} {w:World} {id:Nat} {ops:List Oper} (keys:List Nat) (n:Nat) (hm:P.follows .mixedOrders=true) (bU:uC l=keys) (hok:qA4 keys ops n=true) (hlt:DLt N ops n)
  {C:World→Prop} {R:Nat→Value→World→Prop} (hC:C w.drew) {Le:Nat→World→World→Prop} (hLe:∀ i w,Le i w w) (hS:∀ j i u w w',j < n→i < n→j≠i→C w→R j u w→Le i w w'→R j u w')
  (H:∀ i o,i < n→ops[i]?=some o→∀ (vs:Nat→Value) (w:World),C w→(∀ j t,j < i→aM ops j=some t→t ∈ o.looksAt ops.toArray→R j (vs j) w) →
   ∃ b,gd (iH l ops vs i) (cT ops) o.guard (·=b)∧(b=true→Yields P (execOp (evD (iH l ops vs i)) o) w fun u w'=>R i u w'∧C w'∧Le i w w')∧(b=false→R i undef w))
  (hT:∀ (F:Fr N) (vs:Nat→Value) (w:World),bK N (iH l ops vs n)=true→C w→(∀ j,j < n→R j (vs j) w)→wpListIn (FW F.ds.2) 0 P ops.toArray (zB3 N F.ds Qp) (ops.drop n) (mk F (iH l ops vs n)) w):W P N (.region id ops.toArray true) Qp l w:=fun hk F=>by
 have ok:=rF hok
 refine wpIn_region_any hm ?_
 have:=qU4 ok F hk (fun t ht=>wJ (by rw [bU];exact ht)) hlt hLe hS H (Q:=zB3 N F.ds Qp)
  (fun vs w' hw' hR=>hT F vs w' (qCw hlt hk n (Nat.le_refl _)) hw' hR)
  ops.length (Array.replicate ops.length false) (mk F l) w.drew (fun _=>undef) (oK _)
  ⟨by simp,(fun i j hi=>by rw [getD_replicate_false] at hi;cases hi),(fun i hi=>by rw [getD_replicate_false] at hi;cases hi),rfl,by simp [mk,mK,F.hN],(fun j t _ hl=>by rw [getD_replicate_false] at hl;cases hl),fun t _=>rfl,hC⟩
  (fun j _ hl=>by rw [getD_replicate_false] at hl;cases hl)
 simpa using this
theorem zQw {id:Nat} {ops:List Oper} (n:Nat) (hm:P.follows .mixedOrders=true) (hok:qA4 (bU S.env) ops n=true)
  (h:∀ K1:HS→Prop,(∀ S',HVM P N ops Q (ops.drop n) g S'→K1 S')→HVr P N (cT ops) K1 (ops.take n) S):HWM P N (.region id ops.toArray true) Q g S:=fun c l w I M=>by
 have hks:∀ k ∈ bU S.env,∃ v,lk l k=some v:=fun k hk=>by
  obtain ⟨x,hx⟩:=qM hk;obtain ⟨ρ,xs,G⟩:=I;obtain ⟨v,h1,-⟩:=G.env k x hx;exact ⟨v,h1⟩
 refine qEk (bU S.env) ?_
 have I':Inv c S (lk (keep (bU S.env) l)) w:=I.agree fun k x hk=>qB (wT hk)
 have hkk:uC (keep (bU S.env) l)=bU S.env:=rW hks
 generalize keep (bU S.env) l=l' at I' hkk;obtain ⟨ρ,xs,G⟩:=I'
 have ok:=rF hok
 have hlen:(ops.take n).length=n:=by rw [List.length_take];have:=ok.hn;omega
 have get_take:∀ {i:Nat} {o:Oper},(ops.take n)[i]?=some o→i < n∧ops[i]?=some o:=fun {i o} h=>by
  have hi:=(List.getElem?_eq_some_iff.1 h).1
  rw [hlen] at hi;rw [List.getElem?_take_of_lt hi] at h;exact ⟨hi,h⟩
 obtain ⟨hs,-,heads,S1,e1,F1,h1⟩:=qHt (E0:=S.env) (st:=S.st) (ops.take n) 0 S (fun _=>.junk) (fun k o hk=>by rw [Nat.zero_add];exact (get_take hk).2) rfl (fun t x hx=>.inr ⟨fun j hj=>absurd hj (Nat.not_lt_zero _),hx⟩) (h _ fun _ h=>h)
 rw [hlen,Nat.zero_add] at F1
 have head:∀ i o,i < n→ops[i]?=some o→HeadOk P N ops S.env S.st hs i o:=fun i o hi ho=>by
  have:=heads i o (by rw [List.getElem?_take_of_lt hi];exact ho)
  rw [Nat.zero_add] at this;exact this
 have uniq:∀ i j t,i < n→j < n→aM ops i=some t→aM ops j=some t→i=j:=by
  intro i j t hi hj h1 h2
  rcases Nat.lt_trichotomy i j with h|h|h
  ·rcases ok.uniq j i hj h with e|e
   ·rw [h2] at e;cases e
   ·exact absurd (h2.trans h1.symm) e
  ·exact h
  ·rcases ok.uniq i j hi h with e|e
   ·rw [h1] at e;cases e
   ·exact absurd (h1.trans h2.symm) e
 have hlt:DLt N ops n:=fun i t hi hd=>by
  obtain ⟨o,ho,hod⟩:=tC hd
  have:=(head i o hi ho).lt
  rw [hod] at this;exact this
 have frame:∀ (vs:Nat→Value) (w':World) (i:Nat) (E:aK),i≤n→Below w.heap.size w w'→FrOk ops S.env hs i E →
   (∀ j t x,j < i→aM ops j=some t→hlk E t=some x→RepH w' (c.A ρ S.st) c.n0 ρ (vs j) (hs j))→Good c ⟨E,S.st⟩ (lk (iH l' ops vs i)) w' ρ xs:=fun vs w' i E hi hB F hv=>by
  have GB:=G.below hB
  refine ⟨GB.rows,GB.apart,fun k x hk=>?_,GB.kept,GB.a0⟩
  rcases F k x hk with ⟨j,a,b,d⟩|⟨a,b⟩
  ·refine ⟨vs j,(lP (l:=l') (vs:=vs) hlt (base:=Array.replicate N undef) (by simp) b (fun q hq hne e=>hne (uniq q j k hq (by omega) e b)) i hi a).1,?_⟩
   rw [← d];exact hv j k x a b hk
  ·obtain ⟨v,v1,v2⟩:=GB.env k x b;exact ⟨v,by rw [(nP (l:=l') (vs:=vs) #[] k i a).1];exact v1,v2⟩
 refine zNu (bU S.env) n hm hkk hok hlt (C:=fun w'=>Below w.heap.size w w') (R:=fun j u w'=>RepH w' (c.A ρ S.st) c.n0 ρ u (hs j)) (Below.refl _ _).drew (Le:=fun _ w w'=>Below w.heap.size w w') (fun _ w=>Below.refl _ _) (fun j _ u w1 w2 _ _ _ _ hr hB=>hr.above hB) ?_ ?_
 ·intro i o hi ho vs w1 hC hR;obtain ⟨T,TF,TS,run⟩:=(head i o hi ho).head
  have GT:Good c ⟨T,S.st⟩ (lk (iH l' ops vs i)) w1 ρ xs:=frame vs w1 i T (by omega) hC TF fun j t x hj hd hx=>hR j t hj hd (uA (TS t x hx))
  obtain ⟨b,b1,b2,b3⟩:=run c _ w1 ρ xs GT;refine ⟨b,b1,fun hb=>?_,fun hb=>?_⟩
  ·exact (lU (fun x X hx=>by simp [evD,hx]) (b2 hb)).mono fun u w2 ⟨hu,hB⟩=>⟨hu,hC.trans (hB.mono hC.size),hB⟩
  ·rw [b3 hb];exact .v _
 ·intro F vs w1 hk1 hC hR;obtain ⟨E1,st1⟩:=S1
  have e1:st1=S.st:=e1
  subst e1
  have G1:=frame vs w1 n E1 (Nat.le_refl _) hC F1 fun j t x hj _ _=>hR j hj
  exact h1 c F _ w1 hk1 ⟨ρ,xs,G1⟩ (M.block fun b hb _=>hC.block b hb.lt)
def bsL (g:MS):List Nat:=g.flatMap MO.bs
def HFunM (P:Program) (f:FuncId) (args:List HV) (st:aD) (g:MS) (Q:HV→aD→MS→Prop):Prop :=
 ∀ (c:Ctx) (w:World) (ρ:Nat→Value) (xs:Nat→List Value) (vs:List Value),c.w0=w→Good c ⟨[],st⟩ (fun _=>none) w ρ xs→MsOk P c w g→vJ w (c.A ρ st) c.n0 ρ vs args →
  Calls P f vs.toArray w (Ret fun v w'=>∃ h st' g' ρ' xs',(∀ i r,rlk st' i=some r→i < 8)∧(∀ j,pF (rlk st j)→pF (rlk st' j))∧(∃ m,bsL g'=bsL g ++ m)∧Q h st' g'∧Good c ⟨[],st'⟩ (fun _=>none) w' ρ' xs'∧MsOk P c w' g'∧RepH w' (c.A ρ' st') c.n0 ρ' v h)
theorem HFunM.mono {f:FuncId} {args:List HV} {st:aD} {R R':HV→aD→MS→Prop} (h:HFunM P f args st g R) (hq:∀ h st g,R h st g→R' h st g):HFunM P f args st g R' :=
 fun c w ρ xs vs hw G M hr=>Ret.mono (h c w ρ xs vs hw G M hr) fun v w' ⟨x,st',g',ρ',xs',a,b,d,q,r⟩=>⟨x,st',g',ρ',xs',a,b,d,hq _ _ _ q,r⟩
theorem zNz {x:Code} {Qh:gG} (h:HWM P N x (fun e _ S=>Qh e S) [] S):HW P N x Qh S:=fun c l w I =>
 (h c l w I ⟨fun i m hi=>by simp at hi,fun i j m m' b _ hi=>by simp at hi,fun i m b hi=>by simp at hi⟩).mono fun e l' w' ⟨S',g',I',_,q⟩=>⟨S',I',q⟩
end
end Go.Eng
end
