/-
  Maps beside the engine's state: the operations.
-/
import Derived.Test.YtdmnijnogabchaaDoorMp
set_option linter.unusedSimpArgs false
set_option linter.unusedVariables false
namespace Go.Eng
open Go Go.RowKit Go.Maps
structure MapTy (P:Program) (t k e:TypeId) (z:Value):Prop where
 tk:P.underlying t=some (.map k e)
 kk:P.underlying k=some .string
 z:∀ w,(zeroValue e).run P w=.ok z w
def zJr (cs:List Value):Bool:=cs.all (·.oneCell')
def xX:Value→HV
|.agg cs=>if zJr cs.toList then .agg (cs.toList.map .v) else .v (.agg cs)
|v=>.v v
theorem kE {w:World} {A:Nat→Prop} {n0:Nat} {ρ:Nat→Value} (v:Value):RepH w A n0 ρ v (xX v):=by
 unfold xX;split
 ·rename_i cs;split
  ·rename_i h;refine .agg (by simp) (fun j hj=>?_) fun j h1 h2=>?_
   ·have:=List.all_eq_true.1 h (cs[j]) (by simp)
    simpa using this
   ·simp only [List.getElem_map,Array.getElem_toList];exact .v _
  ·exact .v _
 ·exact .v v
def vOf:HV→Option Value
|.v x=>some x
|.agg hs=>(vsOf hs).map fun l=>.agg l.toArray
|_=>none
where vsOf:List HV→Option (List Value)
|[]=>some []
|.v x :: r=>(vsOf r).map (x :: ·)
|_=>none
theorem qRr {w:World} {A:Nat→Prop} {n0:Nat} {ρ:Nat→Value}:∀ {hs:List HV} {l:List Value},vOf.vsOf hs=some l→∀ {vs:List Value},vs.length=hs.length→(∀ j (h1:j < vs.length) (h2:j < hs.length),RepH w A n0 ρ vs[j] hs[j])→vs=l
|[],l,h,vs,hl,_=>by
  simp only [vOf.vsOf,Option.some.injEq] at h;subst h;exact List.length_eq_zero_iff.1 hl
|x :: r,l,h,[],hl,_=>by simp at hl
|x :: r,l,h,v :: vs,hl,hr=>by
  match x,h with
 |.v x,h =>
   simp only [vOf.vsOf,Option.map_eq_some_iff] at h;obtain ⟨l',h1,rfl⟩:=h
   have e:=qRr h1 (vs:=vs) (by simpa using hl) fun j a b=>hr (j + 1) (by simpa using a) (by simpa using b)
   have:=bB (hr 0 (by simp) (by simp))
   simp only [List.getElem_cons_zero] at this;rw [this,e]
theorem sS {w:World} {A:Nat→Prop} {n0:Nat} {ρ:Nat→Value} {v x:Value} {h:HV} (hv:vOf h=some x) (r:RepH w A n0 ρ v h):v=x:=by
 unfold vOf at hv;split at hv
 ·simp only [Option.some.injEq] at hv;subst hv;exact bB r
 ·simp only [Option.map_eq_some_iff] at hv;obtain ⟨l,h1,rfl⟩:=hv
  cases r with
 |@agg cs _ hn h1' h2 =>
   have:=qRr h1 (vs:=cs.toList) (by simpa using hn) fun j a b=>by
    have:=h2 j (by simpa using a) b
    simpa using this
   rw [← this]
 ·cases hv
def nF (v:Option Value) (z:Value):Bool→HV
|true=>.tup [xX (v.getD z),.v (.bool v.isSome)]
|false=>xX (v.getD z)
section
variable {P:Program} {N:Nat} {all more:List Oper} {Q:iD} {g:MS} {S:HS} {o:Oper} {t k e:TypeId} {z:Value}
theorem iP {m x:Operand} {cm:Bool} {i r n:Nat} {M:MTab} {s:ByteArray} (hT:MapTy P t k e z) (hop:o.op=.lookup t m x cm) (hg:gOK S.env (bQ all) o.guard=true) (hd:cQ N o.dst=true)
  (hi:g[i]?=some (.map r k n M)) (hm:hev S.env m=some (.v (.map (some r)))) (hx:hev S.env x=some (.v (.string s))) (hsz:s.size≤maxLen)
  (h:HVM P N all Q more g (S.set o.dst (nF (M s.data.toList) z cm))):HVM P N all Q (o :: more) g S :=
 pP hg hd fun c l w ρ xs G MK ev' hev'=>by
  obtain ⟨vm,m1,m2⟩:=G.ev (aS _ l) hm;obtain ⟨vx,x1,x2⟩:=G.ev (aS _ l) hx
  have:=bB m2;subst this
  have:=bB x2;subst this
  have m3:=hev' _ _ m1
  have x3:=hev' _ _ x1
  obtain ⟨D,hown,hr⟩:=MK.ok i _ hi
  have val:∀ v ps,mK v=some (D.atKey (.string s.data.toList) (.held z),ps)→v=(M s.data.toList).getD z:=fun v ps hv=>by
   simp only [mK,hr.at',Option.some.injEq,Prod.mk.injEq] at hv
   cases hM:M s.data.toList with
  |none=>rw [hM] at hv;injection hv.1
  |some u=>rw [hM] at hv;injection hv.1
  cases cm with
 |false =>
   obtain ⟨v,ps,hrun,hv⟩:=hown.lookup (string_keyed hT.kk) hT.tk (hT.z w) (zd:=.held z) (zp:=[]) rfl (key:=.string s) (kl:=.string s.data.toList) (WideMaps.keyOf_string_mk hT.kk hsz)
   have:=val v ps hv
   subst this;exact ⟨_,w,g,_,by unfold Yields;simp [execOp,hop,m3,x3,hrun,Result.andThen],⟨ρ,xs,G,kE _⟩,MK,h⟩
 |true =>
   obtain ⟨v,ps,hrun,hv⟩:=hown.look_ok (string_keyed hT.kk) hT.tk (hT.z w) (zd:=.held z) (zp:=[]) rfl (key:=.string s) (kl:=.string s.data.toList) (WideMaps.keyOf_string_mk hT.kk hsz)
   have:=val v ps hv
   subst this;rw [hr.has] at hrun;exact ⟨.tuple #[(M s.data.toList).getD z,.bool (M s.data.toList).isSome],w,g,_,by unfold Yields;simp [execOp,hop,m3,x3,hrun,Result.andThen],⟨ρ,xs,G,.tup rfl fun j a b=>by
    match j,a with
   |0,_=>exact kE _
   |1,_=>exact .v _⟩,MK,h⟩
theorem qA0 {D:DataW Value} {M:MTab} (h:Reads D M) (s:List UInt8) (v:Value):Reads (D.put (.string s) (.held v)) (M.put s v):=by
 have hkl:WideAt.IsKeyLit (.string s):=trivial
 refine ⟨h.map.put _ _,fun q=>?_,fun q z=>?_⟩
 ·by_cases eq:q=s
  ·subst eq;rw [Maps.has_put_same h.map hkl];simp [MTab.put]
  ·rw [Maps.has_put_other fun e=>eq (by injection e)]
   simp only [MTab.put,if_neg eq];exact h.has q
 ·by_cases eq:q=s
  ·subst eq;rw [Maps.atKey_put_same h.map hkl];simp [MTab.put]
  ·rw [Maps.atKey_put_other fun e=>eq (by injection e)]
   simp only [MTab.put,if_neg eq];exact h.at' q z
theorem qRn {m x y:Operand} {i r n:Nat} {M:MTab} {s:ByteArray} {hv:HV} {v:Value} (hT:MapTy P t k e z) (hop:o.op=.mapUpdate t m x y) (hg:gOK S.env (bQ all) o.guard=true) (hd:cQ N o.dst=true)
  (hi:g[i]?=some (.map r k n M)) (hn:n < maxLen) (hm:hev S.env m=some (.v (.map (some r)))) (hx:hev S.env x=some (.v (.string s))) (hsz:s.size≤maxLen) (hy:hev S.env y=some hv) (hvv:vOf hv=some v)
  (h:HVM P N all Q more (g.set i (.map r k (n + 1) (M.put s.data.toList v))) (S.set o.dst (.v undef))):HVM P N all Q (o :: more) g S :=
 pP hg hd fun c l w ρ xs G MK ev' hev'=>by
  obtain ⟨vm,m1,m2⟩:=G.ev (aS _ l) hm;obtain ⟨vx,x1,x2⟩:=G.ev (aS _ l) hx;obtain ⟨vy,y1,y2⟩:=G.ev (aS _ l) hy
  have:=bB m2;subst this
  have:=bB x2;subst this
  have:=sS hvv y2;subst this
  have m3:=hev' _ _ m1
  have x3:=hev' _ _ x1
  have y3:=hev' _ _ y1
  obtain ⟨D,hown,hr⟩:=MK.ok i _ hi;obtain ⟨w',hrun,hown',ht⟩:=hown.store (string_keyed hT.kk) hT.tk hn (key:=.string s) (val:=vy) (kl:=.string s.data.toList) (WideMaps.keyOf_string_mk hT.kk hsz) (d:=.held vy) (ps:=[]) rfl
  have hgr:=ht.grown
  have hf:=MK.foot i _ r hi (by simp [MO.bs])
  have hdl:=MK.dull hi (b:=r) (by simp [MO.bs])
  have G':=G.turn hdl hf hgr
  refine ⟨undef,w',g.set i (.map r k (n + 1) (M.put s.data.toList vy)),.v undef,by unfold Yields;simp [execOp,hop,m3,x3,y3,hrun,Result.andThen],⟨ρ,xs,G',.v _⟩,MK.set hi ⟨_,hown',qA0 hr _ _⟩ (fun b hb=>.inl hb) G.kept.size fun b hb hn=>?_,h⟩
  exact hgr.block b hb fun e=>hn (by simp [MO.bs,Option.some.inj e])
theorem qPy {m:Operand} {i r n:Nat} {M:MTab} (hT:MapTy P t k e z) (hop:o.op=.range t m) (hg:gOK S.env (bQ all) o.guard=true) (hd:cQ N o.dst=true)
  (hi:g[i]?=some (.map r k n M)) (hm:hev S.env m=some (.v (.map (some r))))
  (h:∀ it cnt,HVM P N all Q more (g.set i (.itr it r k n M (fun s=>(M s).isSome) cnt none)) (S.set o.dst (.v (.pointer (some ⟨it,0,none⟩))))):HVM P N all Q (o :: more) g S :=
 pP hg hd fun c l w ρ xs G MK ev' hev'=>by
  obtain ⟨vm,m1,m2⟩:=G.ev (aS _ l) hm
  have:=bB m2;subst this
  have m3:=hev' _ _ m1
  obtain ⟨D,hown,hr⟩:=MK.ok i _ hi;obtain ⟨w',hrun,hrg,hgr,hs⟩:=hown.range (string_keyed hT.kk) hT.tk
  have hB:Below w.heap.size w w':=⟨hgr.os,hgr.tape,hgr.output,hgr.size,fun b hb=>hgr.block b hb (by simp)⟩
  refine ⟨.pointer (some ⟨w.heap.size,0,none⟩),w',g.set i (.itr w.heap.size r k n M (fun s=>(M s).isSome) (Maps.size D) none),.v (.pointer (some ⟨w.heap.size,0,none⟩)),by unfold Yields;simp [execOp,hop,m3,hrun,Result.andThen],⟨ρ,xs,G.below hB,.v _⟩,MK.set hi ⟨⟨D,_,hrg,hr,fun s=>hr.has s⟩,trivial⟩ (fun b hb=>?_) G.kept.size fun b hb hn=>hgr.block b hb (by simp),h _ _⟩
  simp only [MO.bs,List.mem_cons,List.not_mem_nil,or_false] at hb
  rcases hb with rfl|rfl
  ·exact .inr (Nat.le_refl _)
  ·exact .inl (by simp [MO.bs])
theorem qVm {x:Operand} {i it r n cnt:Nat} {M:MTab} {left:List UInt8→Bool} {cur:Option (ByteArray × Value)} (hT:MapTy P t k e z) (hop:o.op=.next x false) (hg:gOK S.env (bQ all) o.guard=true) (hd:cQ N o.dst=true)
  (hi:g[i]?=some (.itr it r k n M left cnt cur)) (hx:hev S.env x=some (.v (.pointer (some ⟨it,0,none⟩))))
  (h0:(∀ s,left s=false)→HVM P N all Q more g (S.set o.dst (.tup [.v (.bool false)])))
  (h1:∀ (s:ByteArray) (v:Value) (cnt':Nat),left s.data.toList=true→M s.data.toList=some v→s.size≤maxLen→cnt' < cnt→HVM P N all Q more (g.set i (.itr it r k n M (fun q=>left q && !(q == s.data.toList)) cnt' (some (s,v)))) (S.set o.dst (.tup [.v (.bool true),.v (.string s),xX v]))) :
  HVM P N all Q (o :: more) g S :=
 pP hg hd fun c l w ρ xs G MK ev' hev'=>by
  obtain ⟨vx,x1,x2⟩:=G.ev (aS _ l) hx
  have:=bB x2;subst this
  have x3:=hev' _ _ x1
  obtain ⟨⟨D,lf,hrg,hr,hlf⟩,hcur⟩:=MK.ok i _ hi
  rcases hrg.next (string_keyed hT.kk) o.type with ⟨hc,hl,hrun⟩|⟨key,v,kl,y,w',cnt',hkey,hlk,hv,hat,hrun,hrg',hlt,hgr,hsz,hen⟩
  ·refine ⟨.tuple #[.bool false],w,g,.tup [.v (.bool false)],by unfold Yields;simp [execOp,hop,x3,hrun,Result.andThen],⟨ρ,xs,G,.tup rfl fun j a b=>?_⟩,MK,h0 fun s=>by rw [← hlf];exact hl _⟩
   match j,a with
  |0,_=>exact .v _
  ·obtain ⟨s,rfl,rfl,hs⟩:∃ s:ByteArray,key=.string s∧kl=.string s.data.toList∧s.size≤maxLen:=by
    unfold keyOf at hkey
    cases key <;> simp [hT.kk,mapKey] at hkey
    exact ⟨_,rfl,hkey.2.symm,hkey.1⟩
   simp only [mK,Option.some.injEq] at hv;subst hv
   have hM:M s.data.toList=some v:=by
    have h1:=hat (.lit (.bool true))
    have h2:=hat (.nil)
    rw [hr.at'] at h1 h2
    cases hM:M s.data.toList with
   |none=>rw [hM] at h1;cases h1
   |some u=>rw [hM] at h1;injection h1 with h1;rw [h1]
   have hf:=MK.foot i _ it hi (by simp [MO.bs])
   have hdl:=MK.dull hi (b:=it) (by simp [MO.bs])
   have G':=G.turn hdl hf hgr
   refine ⟨.tuple #[.bool true,.string s,v],w',g.set i (.itr it r k n M (fun q=>left q && !(q == s.data.toList)) cnt' (some (s,v))),.tup [.v (.bool true),.v (.string s),xX v],by unfold Yields;simp [execOp,hop,x3,hrun,Result.andThen],⟨ρ,xs,G',.tup rfl fun j a b=>?_⟩,MK.set hi ⟨⟨D,_,hrg',hr,fun q=>?_⟩,hen⟩ (fun b hb=>.inl hb) G.kept.size fun b hb hn=>hgr.block b hb fun e=>hn (by simp [MO.bs,Option.some.inj e]),h1 s v cnt' (by rw [← hlf];exact hlk) hM hs hlt⟩
   ·match j,a with
   |0,_=>exact .v _
   |1,_=>exact .v _
   |2,_=>exact kE _
   ·show (lf (.string q) && !(Lit.string q).sameKey (.string s.data.toList))=_
    rw [hlf]
    by_cases eq:q=s.data.toList
    ·subst eq
     have:(Lit.string s.data.toList).sameKey (.string s.data.toList)=true:=WideAt.sameKey_self trivial
     simp [this]
    ·have:=Maps.sameKey_ne (a:=Lit.string q) (b:=Lit.string s.data.toList) (fun h=>eq (by injection h))
     rw [this];simp [eq]
theorem qPz {x:Operand} {i it r n cnt:Nat} {M:MTab} {left:List UInt8→Bool} {s:ByteArray} {v:Value} (hop:o.op=.entry x) (hg:gOK S.env (bQ all) o.guard=true) (hd:cQ N o.dst=true)
  (hi:g[i]?=some (.itr it r k n M left cnt (some (s,v)))) (hx:hev S.env x=some (.v (.pointer (some ⟨it,0,none⟩))))
  (h:HVM P N all Q more g (S.set o.dst (.tup [.v (.string s),xX v]))):HVM P N all Q (o :: more) g S :=
 pP hg hd fun c l w ρ xs G MK ev' hev'=>by
  obtain ⟨vx,x1,x2⟩:=G.ev (aS _ l) hx
  have:=bB x2;subst this
  have x3:=hev' _ _ x1
  obtain ⟨-,hcur⟩:=MK.ok i _ hi
  have hcur:(Instr.entry (.pointer (some ⟨it,0,none⟩))).run P w=.ok (.tuple #[.string s,v]) w:=hcur
  refine ⟨.tuple #[.string s,v],w,g,.tup [.v (.string s),xX v],by unfold Yields;simp [execOp,hop,x3,hcur,Result.andThen],⟨ρ,xs,G,.tup rfl fun j a b=>?_⟩,MK,h⟩
  match j,a with
 |0,_=>exact .v _
 |1,_=>exact kE _
theorem sP {cp:Option Operand} (hop:o.op=.makeMap t none) (hg:gOK S.env (bQ all) o.guard=true) (hd:cQ N o.dst=true) (k:TypeId)
  (h:∀ r,HVM P N all Q more (g ++ [.map r k 0 (fun _=>none)]) (S.set o.dst (.v (.map (some r))))):HVM P N all Q (o :: more) g S :=
 pP hg hd fun c l w ρ xs G MK ev' hev'=>by
  have hB:Below w.heap.size w (w.alloc (.map #[] 0)):=(Below.refl _ _).alloc (Nat.le_refl _) _
  refine ⟨.map (some w.heap.size),w.alloc (.map #[] 0),_,.v (.map (some w.heap.size)),?_,⟨ρ,xs,G.below hB,.v _⟩,?_,h w.heap.size⟩
  ·have hrun:(execOp ev' o).run P w=.ok (.value (.map (some w.heap.size))) (w.alloc (.map #[] 0)):=by
    simp only [execOp,hop];rfl
   unfold Yields;rw [hrun];exact ⟨rfl,rfl⟩
  ·have key:∀ j m,(g ++ [.map w.heap.size k 0 (fun _=>none)])[j]?=some m→g[j]?=some m∨(j=g.length∧m=.map w.heap.size k 0 (fun _=>none)):=fun j m h=>by
    rcases Nat.lt_or_ge j g.length with hj|hj
    ·rw [List.getElem?_append_left hj] at h;exact .inl h
    ·rw [List.getElem?_append_right hj] at h
     have:j - g.length=0:=by
      have:=(List.getElem?_eq_some_iff.1 h).1
      simp at this;omega
     rw [this] at h;simp only [List.getElem?_cons_zero,Option.some.injEq] at h;exact .inr ⟨by omega,h.symm⟩
   refine ⟨fun j m hj=>?_,fun j1 j2 m1 m2 b hne h1 h2 hb1 hb2=>?_,fun j m b hj hb=>?_⟩
   ·rcases key j m hj with hj|⟨_,rfl⟩
    ·exact MO.ok_block (MK.ok j m hj) fun b hb=>hB.block b (MK.dull hj hb).lt
    ·exact ⟨.map [],World.ownsMap_made w P k _,⟨⟨[],rfl⟩,fun s=>rfl,fun s z=>rfl⟩⟩
   ·rcases key j1 m1 h1 with h1|⟨e1,rfl⟩ <;> rcases key j2 m2 h2 with h2|⟨e2,rfl⟩
    ·exact MK.nd j1 j2 m1 m2 b hne h1 h2 hb1 hb2
    ·simp only [MO.bs,List.mem_singleton] at hb2
     have:=(MK.dull h1 hb1).lt;omega
    ·simp only [MO.bs,List.mem_singleton] at hb1
     have:=(MK.dull h2 hb2).lt;omega
    ·omega
   ·rcases key j m hj with hj|⟨_,rfl⟩
    ·exact MK.foot j m b hj hb
    ·simp only [MO.bs,List.mem_singleton] at hb;subst hb;exact .inl G.kept.size
end
end Go.Eng
