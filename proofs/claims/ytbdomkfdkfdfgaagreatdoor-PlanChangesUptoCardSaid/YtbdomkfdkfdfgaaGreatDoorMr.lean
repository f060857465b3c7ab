/-
  Maps beside the engine's state: code; functions that are handed maps.
-/
import Derived.Test.YtbdomkfdkfdfgaaGreatDoorMp
set_option linter.unusedSimpArgs false
set_option linter.unusedVariables false
section
namespace Go.Eng
open Go Go.RowKit Go.Maps
structure MapTy (P:Program) (t k e:TypeId) (z:Value):Prop where
 tk:P.underlying t=some (.map k e)
 kk:P.underlying k=some .string
 z:∀ w,(zeroValue e).run P w=.ok z w
def zRt (cs:List Value):Bool:=cs.all (·.oneCell')
def qZ8:Value→HV
|.agg cs=>if zRt cs.toList then .agg (cs.toList.map .v) else .v (.agg cs)
|v=>.v v
theorem qWj {w:World} {A:Nat→Prop} {n0:Nat} {ρ:Nat→Value} (v:Value):RepH w A n0 ρ v (qZ8 v):=by
 unfold qZ8;split
 ·rename_i cs;split
  ·rename_i h;refine .agg (by simp) (fun j hj=>?_) fun j h1 h2=>?_
   ·have:=List.all_eq_true.1 h (cs[j]) (by simp)
    simpa using this
   ·simp only [List.getElem_map,Array.getElem_toList];exact .v _
  ·exact .v _
 ·exact .v v
def vOf:HV→Option Value
|.v x=>some x
|.agg hs=>(vsOf hs).map fun l=>.agg l.toArray
|_=>none
where vsOf:List HV→Option (List Value)
|[]=>some []
|.v x :: r=>(vsOf r).map (x :: ·)
|_=>none
theorem qUw {w:World} {A:Nat→Prop} {n0:Nat} {ρ:Nat→Value}:∀ {hs:List HV} {l:List Value},vOf.vsOf hs=some l→∀ {vs:List Value},vs.length=hs.length→(∀ j (h1:j < vs.length) (h2:j < hs.length),RepH w A n0 ρ vs[j] hs[j])→vs=l
|[],l,h,vs,hl,_=>by
  simp only [vOf.vsOf,Option.some.injEq] at h;subst h;exact List.length_eq_zero_iff.1 hl
|x :: r,l,h,[],hl,_=>by simp at hl
|x :: r,l,h,v :: vs,hl,hr=>by
  match x,h with
 |.v x,h =>
   simp only [vOf.vsOf,Option.map_eq_some_iff] at h;obtain ⟨l',h1,rfl⟩:=h
   have e:=qUw h1 (vs:=vs) (by simpa using hl) fun j a b=>hr (j + 1) (by simpa using a) (by simpa using b)
   have:=bF (hr 0 (by simp) (by simp))
   simp only [List.getElem_cons_zero] at this;rw [this,e]
theorem zL4 {w:World} {A:Nat→Prop} {n0:Nat} {ρ:Nat→Value} {v x:Value} {h:HV} (hv:vOf h=some x) (r:RepH w A n0 ρ v h):v=x:=by
 unfold vOf at hv;split at hv
 ·simp only [Option.some.injEq] at hv;subst hv;exact bF r
 ·simp only [Option.map_eq_some_iff] at hv;obtain ⟨l,h1,rfl⟩:=hv
  cases r with
 |@agg cs _ hn h1' h2 =>
   have:=qUw h1 (vs:=cs.toList) (by simpa using hn) fun j a b=>by
    have:=h2 j (by simpa using a) b
    simpa using this
   rw [← this]
 ·cases hv
def zB9 (v:Option Value) (z:Value):Bool→HV
|true=>.tup [qZ8 (v.getD z),.v (.bool v.isSome)]
|false=>qZ8 (v.getD z)
section
variable {P:Program} {N:Nat} {all more:List Oper} {Q:qQ} {g:MS} {S:HS} {o:Oper} {t k e:TypeId} {z:Value}
theorem zLw {m x:Operand} {cm:Bool} {i r n:Nat} {M:MTab} {s:ByteArray} (hT:MapTy P t k e z) (hop:o.op=.lookup t m x cm) (hg:gOK S.env (bW all) o.guard=true) (hd:eU N o.dst=true)
  (hi:g[i]?=some (.map r k n M)) (hm:hev S.env m=some (.v (.map (some r)))) (hx:hev S.env x=some (.v (.string s))) (hsz:s.size≤maxLen)
  (h:HVM P N all Q more g (S.set o.dst (zB9 (M s.data.toList) z cm))):HVM P N all Q (o :: more) g S :=
 qPc hg hd fun c l w ρ xs G MK ev' hev'=>by
  obtain ⟨vm,m1,m2⟩:=G.ev (bJ _ l) hm;obtain ⟨vx,x1,x2⟩:=G.ev (bJ _ l) hx
  have:=bF m2;subst this
  have:=bF x2;subst this
  have m3:=hev' _ _ m1
  have x3:=hev' _ _ x1
  obtain ⟨D,hown,hr⟩:=MK.ok i _ hi
  have val:∀ v ps,qRt v=some (D.atKey (.string s.data.toList) (.held z),ps)→v=(M s.data.toList).getD z:=fun v ps hv=>by
   simp only [qRt,hr.at',Option.some.injEq,Prod.mk.injEq] at hv
   cases hM:M s.data.toList with
  |none=>rw [hM] at hv;injection hv.1
  |some u=>rw [hM] at hv;injection hv.1
  cases cm with
 |false =>
   obtain ⟨v,ps,hrun,hv⟩:=hown.lookup (string_keyed hT.kk) hT.tk (hT.z w) (zd:=.held z) (zp:=[]) rfl (key:=.string s) (kl:=.string s.data.toList) (WideMaps.keyOf_string_mk hT.kk hsz)
   have:=val v ps hv
   subst this;exact ⟨_,w,g,_,by unfold Yields;simp [execOp,hop,m3,x3,hrun,Result.andThen],⟨ρ,xs,G,qWj _⟩,MK,h⟩
 |true =>
   obtain ⟨v,ps,hrun,hv⟩:=hown.look_ok (string_keyed hT.kk) hT.tk (hT.z w) (zd:=.held z) (zp:=[]) rfl (key:=.string s) (kl:=.string s.data.toList) (WideMaps.keyOf_string_mk hT.kk hsz)
   have:=val v ps hv
   subst this;rw [hr.has] at hrun;exact ⟨.tuple #[(M s.data.toList).getD z,.bool (M s.data.toList).isSome],w,g,_,by unfold Yields;simp [execOp,hop,m3,x3,hrun,Result.andThen],⟨ρ,xs,G,.tup rfl fun j a b=>by
    match j,a with
   |0,_=>exact qWj _
   |1,_=>exact .v _⟩,MK,h⟩
theorem zFb {D:DataW Value} {M:MTab} (h:Reads D M) (s:List UInt8) (v:Value):Reads (D.put (.string s) (.held v)) (M.put s v):=by
 have hkl:WideAt.IsKeyLit (.string s):=trivial
 refine ⟨h.map.put _ _,fun q=>?_,fun q z=>?_⟩
 ·by_cases eq:q=s
  ·subst eq;rw [Maps.has_put_same h.map hkl];simp [MTab.put]
  ·rw [Maps.has_put_other fun e=>eq (by injection e)]
   simp only [MTab.put,if_neg eq];exact h.has q
 ·by_cases eq:q=s
  ·subst eq;rw [Maps.atKey_put_same h.map hkl];simp [MTab.put]
  ·rw [Maps.atKey_put_other fun e=>eq (by injection e)]
   simp only [MTab.put,if_neg eq];exact h.at' q z
theorem zNp {m x y:Operand} {i r n:Nat} {M:MTab} {s:ByteArray} {hv:HV} {v:Value} (hT:MapTy P t k e z) (hop:o.op=.mapUpdate t m x y) (hg:gOK S.env (bW all) o.guard=true) (hd:eU N o.dst=true)
  (hi:g[i]?=some (.map r k n M)) (hn:n < maxLen) (hm:hev S.env m=some (.v (.map (some r)))) (hx:hev S.env x=some (.v (.string s))) (hsz:s.size≤maxLen) (hy:hev S.env y=some hv) (hvv:vOf hv=some v)
  (h:HVM P N all Q more (g.set i (.map r k (n + 1) (M.put s.data.toList v))) (S.set o.dst (.v undef))):HVM P N all Q (o :: more) g S :=
 qPc hg hd fun c l w ρ xs G MK ev' hev'=>by
  obtain ⟨vm,m1,m2⟩:=G.ev (bJ _ l) hm;obtain ⟨vx,x1,x2⟩:=G.ev (bJ _ l) hx;obtain ⟨vy,y1,y2⟩:=G.ev (bJ _ l) hy
  have:=bF m2;subst this
  have:=bF x2;subst this
  have:=zL4 hvv y2;subst this
  have m3:=hev' _ _ m1
  have x3:=hev' _ _ x1
  have y3:=hev' _ _ y1
  obtain ⟨D,hown,hr⟩:=MK.ok i _ hi;obtain ⟨w',hrun,hown',ht⟩:=hown.store (string_keyed hT.kk) hT.tk hn (key:=.string s) (val:=vy) (kl:=.string s.data.toList) (WideMaps.keyOf_string_mk hT.kk hsz) (d:=.held vy) (ps:=[]) rfl
  have hgr:=ht.grown
  have hf:=MK.foot i _ r hi (by simp [MO.bs])
  have hdl:=MK.dull hi (b:=r) (by simp [MO.bs])
  have G':=G.turn hdl hf hgr
  refine ⟨undef,w',g.set i (.map r k (n + 1) (M.put s.data.toList vy)),.v undef,by unfold Yields;simp [execOp,hop,m3,x3,y3,hrun,Result.andThen],⟨ρ,xs,G',.v _⟩,MK.set hi ⟨_,hown',zFb hr _ _⟩ (fun b hb=>.inl hb) G.kept.size fun b hb hn=>?_,h⟩
  exact hgr.block b hb fun e=>hn (by simp [MO.bs,Option.some.inj e])
theorem zLv {cp:Option Operand} (hop:o.op=.makeMap t none) (hg:gOK S.env (bW all) o.guard=true) (hd:eU N o.dst=true) (k:TypeId)
  (h:∀ r,HVM P N all Q more (g ++ [.map r k 0 (fun _=>none)]) (S.set o.dst (.v (.map (some r))))):HVM P N all Q (o :: more) g S :=
 qPc hg hd fun c l w ρ xs G MK ev' hev'=>by
  have hB:Below w.heap.size w (w.alloc (.map #[] 0)):=(Below.refl _ _).alloc (Nat.le_refl _) _
  refine ⟨.map (some w.heap.size),w.alloc (.map #[] 0),_,.v (.map (some w.heap.size)),?_,⟨ρ,xs,G.below hB,.v _⟩,?_,h w.heap.size⟩
  ·have hrun:(execOp ev' o).run P w=.ok (.value (.map (some w.heap.size))) (w.alloc (.map #[] 0)):=by
    simp only [execOp,hop];rfl
   unfold Yields;rw [hrun];exact ⟨rfl,rfl⟩
  ·have key:∀ j m,(g ++ [.map w.heap.size k 0 (fun _=>none)])[j]?=some m→g[j]?=some m∨(j=g.length∧m=.map w.heap.size k 0 (fun _=>none)):=fun j m h=>by
    rcases Nat.lt_or_ge j g.length with hj|hj
    ·rw [List.getElem?_append_left hj] at h;exact .inl h
    ·rw [List.getElem?_append_right hj] at h
     have:j - g.length=0:=by
      have:=(List.getElem?_eq_some_iff.1 h).1
      simp at this;omega
     rw [this] at h;simp only [List.getElem?_cons_zero,Option.some.injEq] at h;exact .inr ⟨by omega,h.symm⟩
   refine ⟨fun j m hj=>?_,fun j1 j2 m1 m2 b hne h1 h2 hb1 hb2=>?_,fun j m b hj hb=>?_⟩
   ·rcases key j m hj with hj|⟨_,rfl⟩
    ·exact MO.ok_block (MK.ok j m hj) fun b hb=>hB.block b (MK.dull hj hb).lt
    ·exact ⟨.map [],World.ownsMap_made w P k _,⟨⟨[],rfl⟩,fun s=>rfl,fun s z=>rfl⟩⟩
   ·rcases key j1 m1 h1 with h1|⟨e1,rfl⟩ <;> rcases key j2 m2 h2 with h2|⟨e2,rfl⟩
    ·exact MK.nd j1 j2 m1 m2 b hne h1 h2 hb1 hb2
    ·simp only [MO.bs,List.mem_singleton] at hb2
     have:=(MK.dull h1 hb1).lt;omega
    ·simp only [MO.bs,List.mem_singleton] at hb1
     have:=(MK.dull h2 hb2).lt;omega
    ·omega
   ·rcases key j m hj with hj|⟨_,rfl⟩
    ·exact MK.foot j m b hj hb
    ·simp only [MO.bs,List.mem_singleton] at hb;subst hb;exact .inl G.kept.size
end
end Go.Eng
end
section
namespace Go.Eng
open Go Go.RowKit Go.Maps
section
variable {P:Program} {N:Nat} {c:Ctx} {S S':HS} {g g':MS} {Q Q':qQ} {l:Env} {look:Nat→Option Value} {w w':World} {ρ ρ':Nat→Value} {xs:Nat→List Value} {A A':Nat→Prop} {n0 n1:Nat}
end
def HWM (P:Program) (N:Nat) (x:Code) (Q:qQ) (g:MS) (S:HS):Prop :=
 ∀ (c:Ctx) (l:Env) (w:World),Inv c S (lk l) w→MsOk P c w g→W P N x (fun e l' w'=>∃ S' g',Inv c S' (lk l') w'∧MsOk P c w' g'∧Q e g' S') l w
def msQ (K:MS→HS→Prop) (Q:qQ):qQ
|.normal,g,S=>K g S
|e,g,S=>Q e g S
def mbQ (id:Nat) (Q:qQ):qQ
|.exit id',g,S=>if id'=id then Q .normal g S else Q (.exit id') g S
|e,g,S=>Q e g S
section
variable {P:Program} {N:Nat} {S S':HS} {g g':MS} {Q Q':qQ}
theorem HWM.mono {x:Code} (h:HWM P N x Q g S) (hq:∀ e g S,Q e g S→Q' e g S):HWM P N x Q' g S:=fun c l w I M =>
 (h c l w I M).mono fun e' l' w' ⟨S',g',I',M',q⟩=>⟨S',g',I',M',hq _ _ _ q⟩
theorem qYv {x:Code} (h:HW P N x (fun e S'=>Q e g S') S):HWM P N x Q g S:=fun c l w I M=>by
 obtain ⟨c1,I1,back⟩:=qPy I M;exact (h c1 l w I1).mono fun e' l' w' ⟨S',I',q⟩=>by
  obtain ⟨I2,M2⟩:=back S' _ _ I';exact ⟨S',g,I2,M2,q⟩
theorem qUu {id:Nat} {ops:List Oper} (h:HVM P N ops Q ops g S):HWM P N (.region id ops.toArray false) Q g S:=fun c l w I M hk F=>wpIn_region_lit (h c F l w hk I M)
theorem cL {id:Nat} {ops:List Oper} (h:∀ K:HS→Prop,(∀ S',Q .normal g S'→K S')→HV2 P N (bW ops) K ops S):HWM P N (.region id ops.toArray false) Q g S :=
 qYv (zJ fun K hK=>h K hK)
theorem cJ {x y:Code} (h:HWM P N x (msQ (fun g S=>HWM P N y Q g S) Q) g S):HWM P N (.seq x y) Q g S:=fun c l w I M =>
 fT ((h c l w I M).mono fun e' l' w' ⟨S',g',I',M',q⟩=>by
  cases e' with
 |normal=>exact q c l' w' I' M'
 |_=>exact ⟨S',g',I',M',q⟩)
theorem nY {id:Nat} {x:Code} (h:HWM P N x (mbQ id Q) g S):HWM P N (.block id x) Q g S:=fun c l w I M =>
 qHx ((h c l w I M).mono fun e' l' w' ⟨S',g',I',M',q⟩=>by
  cases e' with
 |exit id' =>
   simp only [qYm];simp only [mbQ] at q;split
   ·rename_i e1;rw [if_pos e1] at q;exact ⟨S',g',I',M',q⟩
   ·rename_i e1;rw [if_neg e1] at q;exact ⟨S',g',I',M',q⟩
 |_=>exact ⟨S',g',I',M',q⟩)
theorem qYw {x:Operand} {a b:Code} {t:Bool} (hx:hev S.env x=some (.v (.bool t))) (ht:t=true→HWM P N a Q g S) (hf:t=false→HWM P N b Q g S):HWM P N (.cond x a b) Q g S:=fun c l w ⟨ρ,xs,G⟩ M=>by
 obtain ⟨v,h1,h2⟩:=G.ev (bJ _ l) hx
 have:=bF h2
 subst this;exact lP h1 (fun e1=>ht e1 c l w ⟨ρ,xs,G⟩ M) (fun e1=>hf e1 c l w ⟨ρ,xs,G⟩ M)
theorem wG {x:Operand} {a b:Code} (hx:hev S.env x=some (.v (.bool true))) (ht:HWM P N a Q g S):HWM P N (.cond x a b) Q g S:=qYw hx (fun _=>ht) (fun h=>by cases h)
theorem nX {x:Operand} {a b:Code} (hx:hev S.env x=some (.v (.bool false))) (hf:HWM P N b Q g S):HWM P N (.cond x a b) Q g S:=qYw hx (fun h=>by cases h) (fun _=>hf)
theorem pC {x:Code} (ks ids:List Nat) {S':HS} (he:S.keep ks ids=S') (h:HWM P N x Q g S'):HWM P N x Q g S:=fun c l w I M=>h c l w (by rw [← he];exact I.keep ks ids) M
theorem tF (h:Q .normal g S):HWM P N .skip Q g S:=fun c l w I M=>qB3 ⟨S,g,I,M,h⟩
theorem qPb {id:Nat} (h:Q (.exit id) g S):HWM P N (.exit id) Q g S:=fun c l w I M=>zAu ⟨S,g,I,M,h⟩
theorem cK {K:MS→HS→Prop} (h:K g S):msQ K Q .normal g S:=h
theorem rY {K:MS→HS→Prop} {id:Nat} (h:Q (.exit id) g S):msQ K Q (.exit id) g S:=h
theorem lF {id:Nat} (h:Q .normal g S):mbQ id Q .normal g S:=h
theorem qKw {id:Nat} (h:Q .normal g S):mbQ id Q (.exit id) g S:=by simp only [mbQ,if_true];exact h
theorem qPa {ι:Type} {x:Code} (E:ι→HS) (G:ι→MS) (J:ι→Prop) (μ:ι→Nat) (ks ids:List Nat) (i:ι) (h0:S.keep ks ids=E i) (hg:g=G i) (hI:J i)
  (round:∀ i,J i→HWM P N x (msQ (fun g' S'=>∃ j,S'.keep ks ids=E j∧g'=G j∧J j∧μ j < μ i) Q) (G i) (E i)):HWM P N (.loop x) Q g S:=fun c l w Iv M=>by
 refine zAt (ι:=ι × Env) (fun p=>p.2) (fun p w=>Inv c (E p.1) (lk p.2) w∧MsOk P c w (G p.1)∧J p.1) (fun p=>μ p.1) ks (i,keep ks l) rfl ⟨?_,by rw [← hg];exact M,hI⟩ ?_
 ·rw [← h0];exact (Iv.keep ks ids).agree fun k h hk=>nE (sM hk).1
 ·rintro ⟨j,l1⟩ w1 ⟨I1,M1,hj⟩;refine (round j hj c l1 w1 I1 M1).mono fun e' l' w' ⟨S',g',I',M',q⟩=>?_
  cases e' with
 |normal =>
   obtain ⟨j',hE,hG,hI',hμ⟩:=q;refine ⟨(j',keep ks l'),rfl,⟨?_,by rw [← hG];exact M',hI'⟩,hμ⟩
   rw [← hE];exact (I'.keep ks ids).agree fun k h hk=>nE (sM hk).1
 |_=>exact ⟨S',g',I',M',q⟩
end
end Go.Eng
end
