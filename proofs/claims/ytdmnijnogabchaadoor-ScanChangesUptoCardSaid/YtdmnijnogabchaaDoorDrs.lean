/-
  A region that draws its order, with maps beside: heads that turn the world go from stage to stage; the others answer the same at every stage.
-/
import Derived.Test.YtdmnijnogabchaaDoorMu
import Derived.Test.YtdmnijnogabchaaDoorDrj
set_option linter.unusedSimpArgs false
set_option linter.unusedVariables false
namespace Go.Eng
open Go Go.RowKit Go.Maps
abbrev Fix:=List (Nat × Value)
def zE5 (v:Value):Oper→Oper
|⟨d,_,ty,p,a,g⟩=>⟨d,.move (.const v),ty,p,a,g⟩
def qP:Fix→Nat→Oper→Oper
|[],_,o=>o
|(a,v) :: r,i,o=>bif a == i then zE5 v o else qP r i o
def mR (F:Fix):Nat→List Oper→List Oper
|_,[]=>[]
|i,o :: r=>qP F i o :: mR F (i + 1) r
def qS (F:Fix) (i:Nat):Bool:=F.any fun p=>p.1 == i
theorem qL5 (i:Nat) (o:Oper):∀ F:Fix,(qP F i o).dst=o.dst∧(qP F i o).guard=o.guard
|[]=>⟨rfl,rfl⟩
|(a,v) :: r=>by
  unfold qP
  cases a == i with
 |true=>exact ⟨rfl,rfl⟩
 |false=>exact qL5 i o r
theorem qL3 {i:Nat} {o:Oper}:∀ {F:Fix},qS F i=false→qP F i o=o
|[],_=>rfl
|(a,v) :: r,h=>by
  simp only [qS,List.any_cons,Bool.or_eq_false_iff] at h;unfold qP;rw [h.1];exact qL3 h.2
theorem qB3 (F:Fix):∀ (ops:List Oper) (k i:Nat),(mR F k ops)[i]?=(ops[i]?).map (qP F (k + i))
|[],k,i=>by simp [mR]
|o :: r,k,0=>by simp [mR]
|o :: r,k,i + 1=>by
  simp only [mR,List.getElem?_cons_succ];rw [qB3 F r (k + 1) i,show k + 1 + i=k + (i + 1) by omega]
theorem tE (F:Fix) (ops:List Oper) (j:Nat):aG (mR F 0 ops) j=aG ops j:=by
 unfold aG;rw [qB3]
 cases ops[j]? with
|none=>rfl
|some o=>exact (qL5 (0 + j) o F).1
def qWb:HV→Option Value
|.v x=>some x
|.agg hs=>(vOf.vsOf hs).bind fun l=>bif l.all (·.oneCell') then some (.agg l.toArray) else none
|_=>none
def zGb:List HV→Option (List Value)
|[]=>some []
|h :: r=>match qWb h,zGb r with
 |some v,some l=>some (v :: l)
 |_,_=>none
def qFh:HV→Option Value
|.tup hs=>(zGb hs).map fun l=>.tuple l.toArray
|h=>qWb h
def qWc (ρ:Nat→Value):HV→Option Value
|.ptr id sz i k=>match ρ id with
 |.slice (some ⟨g,0,none⟩) _ _=>some (.pointer (some ⟨g,i * sz + k,none⟩))
 |_=>none
|h=>qFh h
def qXg (st:aC):HV→Bool
|.ptr id _ _ _=>match rlk st id with
 |some (.bx ..)=>true
 |_=>false
|h=>(qFh h).isSome
section
variable {w:World} {A:Nat→Prop} {n0:Nat} {ρ ρ':Nat→Value}
theorem qRs:∀ {hs:List HV} {l:List Value},vOf.vsOf hs=some l→hs=l.map .v
|[],l,h=>by simp only [vOf.vsOf,Option.some.injEq] at h;subst h;rfl
|x :: r,l,h=>by
  match x,h with
 |.v x,h =>
   simp only [vOf.vsOf,Option.map_eq_some_iff] at h;obtain ⟨l',h1,rfl⟩:=h;rw [qRs h1];rfl
theorem qSd {h:HV} {v:Value} (e:qWb h=some v):RepH w A n0 ρ v h:=by
 unfold qWb at e;split at e
 ·cases e;exact .v _
 ·rename_i hs;simp only [Option.bind_eq_some_iff] at e;obtain ⟨l,h1,h2⟩:=e
  cases ha:l.all (·.oneCell') with
 |false=>rw [ha] at h2;cases h2
 |true =>
   rw [ha] at h2;simp only [cond_true,Option.some.injEq] at h2;subst h2;rw [qRs h1];refine .agg (by simp) (fun j hj=>?_) fun j a b=>?_
   ·simpa using List.all_eq_true.1 ha _ (List.getElem_mem (l:=l) (by simpa using hj))
   ·simp only [List.getElem_map];exact .v _
 ·cases e
theorem qLx {h:HV} {v u:Value} (e:qWb h=some v) (r:RepH w A n0 ρ u h):u=v:=by
 refine sS ?_ r;unfold qWb at e;split at e
 ·exact e
 ·rename_i hs;simp only [Option.bind_eq_some_iff] at e;obtain ⟨l,h1,h2⟩:=e
  cases ha:l.all (·.oneCell') with
 |false=>rw [ha] at h2;cases h2
 |true =>
   rw [ha] at h2;simp only [vOf,h1,Option.map_some];exact h2
 ·cases e
theorem qFg:∀ {hs:List HV} {l:List Value},zGb hs=some l→l.length=hs.length∧∀ j (a:j < l.length) (b:j < hs.length),qWb hs[j]=some l[j]
|[],l,e=>by cases e;exact ⟨rfl,fun j a=>absurd a (by simp)⟩
|h :: r,l,e=>by
  unfold zGb at e;split at e
  ·rename_i v l' hp hr
   cases e
   obtain ⟨a,b⟩:=qFg hr;refine ⟨by simp [a],fun j hj hk=>?_⟩
   cases j with
  |zero=>exact hp
  |succ j=>exact b j (by simpa using hj) (by simpa using hk)
  ·cases e
theorem zCk {h:HV} {v:Value} (e:qFh h=some v):RepH w A n0 ρ v h:=by
 unfold qFh at e;split at e
 ·simp only [Option.map_eq_some_iff] at e;obtain ⟨l,h1,rfl⟩:=e;obtain ⟨a,b⟩:=qFg h1;exact .tup (by simp [a]) fun j p q=>qSd (b j (by simpa using p) q)
 ·exact qSd e
theorem qA1 {h:HV} {v u:Value} (e:qFh h=some v) (r:RepH w A n0 ρ u h):u=v:=by
 unfold qFh at e;split at e
 ·simp only [Option.map_eq_some_iff] at e;obtain ⟨l,h1,rfl⟩:=e;obtain ⟨a,b⟩:=qFg h1
  cases r with
 |@tup cs _ hn hr =>
   have:cs.toList=l:=List.ext_getElem (by simp [hn,a]) fun j p q=>by
    have hc:j < cs.size:=by simpa using p
    have:=qLx (b j q (by omega)) (hr j hc (by omega))
    simpa using this
   rw [← this]
 ·exact qLx e r
theorem zBo {st:aC} {h:HV} {u v:Value} (d:qXg st h=true) (r1:RepH w A n0 ρ u h) (r2:RepH w A n0 ρ v h):u=v:=by
 unfold qXg at d;split at d
 ·cases r1 with
 |ptr _ _ _ h1=>cases r2 with
  |ptr _ _ _ h2 =>
    rw [h1] at h2;simp only [Value.slice.injEq,Option.some.injEq,Addr.mk.injEq] at h2;rw [h2.1.1]
 ·obtain ⟨x,hx⟩:=Option.isSome_iff_exists.1 d;rw [qA1 hx r1,qA1 hx r2]
theorem zE9 {c:Ctx} {S:HS} {look:Nat→Option Value} {xs:Nat→List Value} (G:Good c S look w ρ xs) {h:HV} (d:qXg S.st h=true):∃ v,qWc ρ h=some v∧RepH w (c.A ρ S.st) c.n0 ρ v h:=by
 unfold qXg at d;split at d
 ·rename_i id sz i k;split at d
  ·rename_i nw ty cells hr;obtain ⟨⟨g,hg,-⟩,-⟩:=(G.rows _ _ hr).rep;exact ⟨.pointer (some ⟨g,i * sz + k,none⟩),by simp only [qWc,hg],.ptr _ _ _ hg⟩
  ·cases d
 ·rename_i h hne;obtain ⟨x,hx⟩:=Option.isSome_iff_exists.1 d;refine ⟨x,?_,zCk hx⟩;unfold qWc;split
  ·exact absurd rfl (hne _ _ _ _)
  ·exact hx
theorem zA0 {h:HV} (hf:(qFh h).isSome=true):qWc ρ h=qFh h:=by
 unfold qWc;split
 ·cases hf
 ·rfl
end
def HV1 (P:Program) (o:Oper) (S:HS) (g:MS) (K:HS→MS→Prop):Prop :=
 ∀ (c:Ctx) (l:Env) (w:World),Inv c S (lk l) w→MsOk P c w g→∀ ev':Operand→Value,(∀ x X,ev l x=some X→ev' x=X)→Yields P (execOp ev' o) w fun u w'=>∃ S' g',K S' g'∧Inv c S' (lk (stp o.dst u l)) w'∧MsOk P c w' g'
def zAb:aR→aR→Prop
|[],_=>True
|(k,x) :: r,E=>hlk E k=some x∧zAb r E
theorem qEi {E:aR}:∀ {E1:aR},zAb E1 E→∀ k x,hlk E1 k=some x→hlk E k=some x
|[],_,k,x,h=>by simp [hlk] at h
|(j,y) :: r,H,k,x,h=>by
  simp only [hlk] at h
  by_cases e:j=k
  ·rw [if_pos e] at h;cases h;subst e;exact H.1
  ·rw [if_neg e] at h;exact qEi H.2 k x h
def zAa:aC→aC→Prop
|[],_=>True
|(k,x) :: r,E=>rlk E k=some x∧zAa r E
theorem qRv {E:aC}:∀ {E1:aC},zAa E1 E→∀ k x,rlk E1 k=some x→rlk E k=some x
|[],_,k,x,h=>by simp [rlk] at h
|(j,y) :: r,H,k,x,h=>by
  simp only [rlk] at h
  by_cases e:j=k
  ·rw [if_pos e] at h;cases h;subst e;exact H.1
  ·rw [if_neg e] at h;exact qRv H.2 k x h
section
variable {P:Program} {N:Nat} {S:HS} {g:MS} {Q:iD} {o:Oper} {K:HS→MS→Prop}
theorem qD8 {ds:List (Option Nat)} (hg:o.guard=none) (h:∀ K1:HS→Prop,(∀ S',K S' g→K1 S')→HV2 P N ds K1 [o] S):HV1 P o S g K:=fun c l w I M ev' hev'=>by
 obtain ⟨c1,I1,back⟩:=qAv I M
 have h1:=sQ (c:=c1) _ S l w (h (fun S'=>K S' g) fun _ h=>h) I1
 unfold VC at h1;rw [hg] at h1;obtain ⟨-,h1⟩:=h1;refine (eU hev' h1).mono fun u w' h2=>?_
 unfold VC at h2;obtain ⟨S',I2,hK⟩:=h2;obtain ⟨I3,M3⟩:=back S' _ _ I2;exact ⟨S',g,hK,I3,M3⟩
def frS (fs:List Nat) (ops:List Oper) (j:Nat):Bool:=match aG ops j with
|some t=>fs.contains t
|none=>true
def zLp (N:Nat) (ops:List Oper) (n:Nat) (F:Fix) (fs:List Nat) (ks ns:List Nat):Bool :=
 ((List.range n).all fun j=>(match ops[j]? with|some o=>o.guard.isNone|none=>true) &&
  (match aG ops j with
  |some t=>Nat.blt t N && (!fs.contains t || qS F j) && (fs.contains t || ns.contains t) && !ks.contains t
  |none=>true) &&
  (qS F j || match (mR F 0 ops)[j]? with
  |some o=>(o.looksAt (mR F 0 ops).toArray).all fun t=>!fs.contains t
  |none=>true)) &&
 (ns.all fun k=>!ks.contains k && (List.range n).any fun j=>aG ops j == some k) &&
 (F.all fun p=>Nat.blt p.1 n) && (fs.all fun t=>!ks.contains t)
def zGu (ops:List Oper) (n:Nat) (F:Fix) (fs:List Nat) (st:aC):aR→Bool
|[]=>true
|(t,h) :: r=>(fs.contains t || (qXg st h && ((qFh h).isSome || (List.range n).all fun j=>!(qS F j) || aG ops j != some t))) && zGu ops n F fs st r
theorem qU9 {ops:List Oper} {n:Nat} {F:Fix} {fs:List Nat} {st:aC}:∀ {E:aR},zGu ops n F fs st E=true→∀ t h,hlk E t=some h→fs.contains t=false→qXg st h=true∧((qFh h).isSome=true∨∀ j,j < n→qS F j=true→aG ops j≠some t)
|[],_,t,h,hh,_=>by simp [hlk] at hh
|(k,x) :: r,H,t,h,hh,hf=>by
  simp only [zGu,Bool.and_eq_true,Bool.or_eq_true] at H;simp only [hlk] at hh
  by_cases e:k=t
  ·rw [if_pos e] at hh
   cases hh
   subst e
   rcases H.1 with H|⟨H1,H2⟩
   ·rw [H] at hf;cases hf
   ·refine ⟨H1,H2.imp _root_.id fun H j hj hx e2=>?_⟩
    have:=List.all_eq_true.1 H j (List.mem_range.2 hj)
    simp [hx,e2] at this
  ·rw [if_neg e] at hh;exact qU9 H.2 t h hh hf
theorem qHf (p:Nat→Bool):∀ (E:aR) (k:Nat),hlk (E.filter fun q=>p q.1) k=if p k=true then hlk E k else none
|[],k=>by simp [hlk]
|(j,x) :: r,k=>by
  have ih:=qHf p r k
  rw [List.filter_cons]
  by_cases hj:p j=true
  ·rw [if_pos hj];simp only [hlk]
   by_cases e:j=k
   ·subst e;rw [if_pos rfl,if_pos hj,if_pos rfl]
   ·rw [if_neg e,if_neg e];exact ih
  ·rw [if_neg hj,ih];simp only [hlk]
   by_cases e:j=k
   ·subst e;rw [if_neg hj,if_neg hj]
   ·rw [if_neg e]
theorem yY {a b:aR} {k:Nat} (h:hlk a k=none):hlk (a ++ b) k=hlk b k:=by
 induction a with
|nil=>rfl
|cons p r ih =>
  obtain ⟨j,y⟩:=p;simp only [List.cons_append,hlk] at h ⊢
  by_cases e:j=k
  ·rw [if_pos e] at h;cases h
  ·rw [if_neg e] at h ⊢;exact ih h
theorem qHg {a b:aR} {k:Nat} {x:HV} (h:hlk a k=some x):hlk (a ++ b) k=some x:=by
 induction a with
|nil=>simp [hlk] at h
|cons p r ih =>
  obtain ⟨j,y⟩:=p;simp only [List.cons_append,hlk] at h ⊢
  by_cases e:j=k
  ·rw [if_pos e] at h ⊢;exact h
  ·rw [if_neg e] at h ⊢;exact ih h
theorem zDs {a b:aR} {k:Nat} {x:HV} (h:hlk (a ++ b) k=some x):hlk a k=some x∨(hlk a k=none∧hlk b k=some x):=by
 cases ha:hlk a k with
|some y=>rw [qHg ha] at h;exact .inl h
|none=>rw [yY ha] at h;exact .inr ⟨rfl,h⟩
theorem qTq {a:aR} {k:Nat} (h:k ∉ aV a):hlk a k=none:=by
 cases ha:hlk a k with
|none=>rfl
|some x=>exact absurd (dU ha) h
theorem qVl {id:Nat} {ops:List Oper} {ι:Type} (n:Nat) (F:Fix) (fs:List Nat) (En En':aR) (st:ι→aC) (gs:ι→MS) (ee:ι→aR) (D:ι→Nat→Bool) (s0:ι)
  (hm:P.follows .mixedOrders=true) (hok:oG (aV S.env) ops n=true) (hck:zLp N ops n F fs (aV S.env) (aV En)=true) (hst:S.st=st s0) (hg:g=gs s0) (he:ee s0=[]) (hD:∀ q,qS F q=true→D s0 q=false)
  (hdet:zGu ops n F fs (st s0) En=true) (hEn:(En.filter fun p=>!fs.contains p.1)=En') (hee:∀ s,((aV (ee s)).all fun t=>fs.contains t)=true)
  (hrun:∀ s,∀ K1:HS→Prop,(∀ S',S'.env=En ++ S.env→K1 S')→HRM P N (mR F 0 ops) (gs s) K1 n 0 ⟨S.env,st s⟩)
  (eD:∀ s q o,qS F q=true→ops[q]?=some o→D s q=false→(∀ j,dC ops q j=true→qS F j=true→D s j=true) →
   HV1 P o ⟨ee s ++ (En' ++ S.env),st s⟩ (gs s) fun S' g'=>∃ s',(∀ j,D s' j=(j == q || D s j))∧zAb (ee s' ++ (En' ++ S.env)) S'.env∧zAa (st s') S'.st∧g'=gs s')
  (hend:∀ s,(∀ q,qS F q=true→D s q=true)→HVM P N ops Q (ops.drop n) (gs s) ⟨ee s ++ (En' ++ S.env),st s⟩):HWM P N (.region id ops.toArray true) Q g S:=fun c l w I M=>by
 have hks:∀ k ∈ aV S.env,∃ v,lk l k=some v:=fun k hk=>by
  obtain ⟨x,hx⟩:=eM hk;obtain ⟨ρ,xs,G⟩:=I;obtain ⟨v,h1,-⟩:=G.env k x hx;exact ⟨v,h1⟩
 refine sM (aV S.env) ?_
 have I':Inv c S (lk (keep (aV S.env) l)) w:=I.agree fun k x hk=>iG (dU hk)
 have hkk:kV (keep (aV S.env) l)=aV S.env:=hU hks
 generalize keep (aV S.env) l=l' at I' hkk;obtain ⟨ρ,xs,G⟩:=I'
 have ok:=gX hok
 have uniq:∀ i j t,i < n→j < n→aG ops i=some t→aG ops j=some t→i=j:=by
  intro i j t hi hj h1 h2
  rcases Nat.lt_trichotomy i j with h|h|h
  ·rcases ok.uniq j i hj h with e|e
   ·rw [h2] at e;cases e
   ·exact absurd (h2.trans h1.symm) e
  ·exact h
  ·rcases ok.uniq i j hi h with e|e
   ·rw [h1] at e;cases e
   ·exact absurd (h1.trans h2.symm) e
 simp only [zLp,Bool.and_eq_true,List.all_eq_true,List.mem_range] at hck;obtain ⟨⟨⟨ck1,ck2⟩,ck3⟩,ck4⟩:=hck
 have hgn:∀ j o,j < n→ops[j]?=some o→o.guard=none:=fun j o hj ho=>by
  have:=(ck1 j hj).1.1
  rw [ho] at this
  simpa using this
 have hds:∀ j t,j < n→aG ops j=some t→t < N∧(fs.contains t=true→qS F j=true)∧(fs.contains t=false→t ∈ aV En)∧t ∉ aV S.env:=fun j t hj hd=>by
  have:=(ck1 j hj).1.2
  rw [hd] at this;simp only [Bool.and_eq_true,Bool.or_eq_true,Bool.not_eq_true',Nat.blt_eq] at this;obtain ⟨⟨⟨a1,a2⟩,a3⟩,a4⟩:=this;refine ⟨a1,fun h=>?_,fun h=>?_,fun h=>?_⟩
  ·rcases a2 with a2|a2
   ·rw [h] at a2;cases a2
   ·exact a2
  ·rcases a3 with a3|a3
   ·rw [h] at a3;cases a3
   ·simpa using a3
  ·simp [h] at a4
 have hpl:∀ j o t,j < n→qS F j=false→(mR F 0 ops)[j]?=some o→t ∈ o.looksAt (mR F 0 ops).toArray→fs.contains t=false:=fun j o t hj hx ho ht=>by
  have:=(ck1 j hj).2
  rw [hx,ho] at this;simp only [Bool.false_or,Array.all_eq_true_iff_forall_mem,List.all_eq_true] at this
  have:=this t ht
  simpa using this
 have hns:∀ k,k ∈ aV En→k ∉ aV S.env∧∃ j,j < n∧aG ops j=some k:=fun k hk=>by
  have h1:=ck2 k hk
  obtain ⟨h1,h2⟩:=h1;obtain ⟨j,hj,e⟩:=List.any_eq_true.1 h2;exact ⟨by simpa using h1,j,List.mem_range.1 hj,by simpa using e⟩
 have hFn:∀ q,qS F q=true→q < n:=fun q hq=>by
  obtain ⟨p,hp,e⟩:=List.any_eq_true.1 hq
  have:=ck3 p hp
  simp only [beq_iff_eq] at e;rw [Nat.blt_eq] at this;omega
 have hfk:∀ t,fs.contains t=true→t ∉ aV S.env:=fun t ht h=>by
  have:=ck4 t (by simpa using ht)
  simp [h] at this
 have hlt:DLt N ops n:=fun i t hi hd=>(hds i t hi hd).1
 have over:∀ k x,hlk S.env k=some x→∀ j,j < n→aG ops j≠some k:=fun k x hk j hj e=>(hds j k hj e).2.2.2 (dU hk)
 have hEp:∀ t,hlk En' t=if fs.contains t=true then none else hlk En t:=fun t=>by
  rw [← hEn,qHf (fun t=>!fs.contains t)]
  cases fs.contains t <;> rfl
 have heeN:∀ s t,fs.contains t=false→hlk (ee s) t=none:=fun s t ht=>qTq fun h=>by
  have:=List.all_eq_true.1 (hee s) t h
  rw [ht] at this;cases this
 -- a head's answer in the whole frame
 have inEp:∀ s t h,fs.contains t=false→hlk En t=some h→hlk (ee s ++ (En' ++ S.env)) t=some h:=fun s t h hf hh=>by
  rw [yY (heeN s t hf)];refine qHg ?_;rw [hEp,hf,if_neg (by decide)];exact hh
 have inSp:∀ s t h,hlk S.env t=some h→hlk (ee s ++ (En' ++ S.env)) t=some h:=fun s t h hh=>by
  have hf:fs.contains t=false:=by
   cases hc:fs.contains t with
  |false=>rfl
  |true=>exact absurd (dU hh) (hfk t hc)
  rw [yY (heeN s t hf),yY]
  ·exact hh
  ·rw [hEp,hf,if_neg (by decide)]
   exact qTq fun h1=>(hns t h1).1 (dU hh)
 let val:Nat→Value:=fun j=>match aG ops j with
 |some t=>((hlk En t).bind (qWc ρ)).getD undef
 |none=>undef
 let mix:(Nat→Value)→Nat→Value:=fun vs j=>bif frS fs ops j then vs j else val j
 let ls:(Nat→Value)→Env:=fun vs=>cH l' ops (mix vs) n
 have frT:∀ {j t:Nat},aG ops j=some t→frS fs ops j=fs.contains t:=fun {j t} hd=>by unfold frS;rw [hd]
 have oldE:∀ (vs:Nat→Value) (i k:Nat),(∀ j,j < i→aG ops j≠some k)→lk (cH l' ops vs i) k=lk l' k:=fun vs i k h=>(eN (l:=l') (vs:=vs) #[] k i h).1
 have newE:∀ (vs:Nat→Value) (i j t:Nat),i≤n→j < i→aG ops j=some t→lk (cH l' ops vs i) t=some (vs j):=fun vs i j t hi hj hd=>(eP (l:=l') (vs:=vs) hlt (base:=Array.replicate N undef) (by simp) hd (fun k hk hne e=>hne (uniq k j t hk (by omega) e hd)) i hi hj).1
 -- a head's answer,once for all
 have valOk:∀ j t,j < n→aG ops j=some t→fs.contains t=false→∃ h,hlk En t=some h∧qXg (st s0) h=true∧qWc ρ h=some (val j)∧RepH w (c.A ρ S.st) c.n0 ρ (val j) h∧(qS F j=true→qFh h=some (val j)):=fun j t hj hd hf=>by
  obtain ⟨h,hh⟩:=eM ((hds j t hj hd).2.2.1 hf);obtain ⟨d1,d2⟩:=qU9 hdet t h hh hf;rw [← hst] at d1;obtain ⟨v,v1,v2⟩:=zE9 G d1
  have e:val j=v:=by simp only [val,hd,hh,Option.bind_some,v1,Option.getD_some]
  rw [← hst,e];refine ⟨h,hh,d1,v1,v2,fun hx=>?_⟩
  rcases d2 with d2|d2
  ·rw [← zA0 (ρ:=ρ) d2];exact v1
  ·exact absurd hd (d2 j hj hx)
 let J:(Nat→Bool)→(Nat→Value)→World→Prop:=fun L vs w'=>∃ s,(∀ q,qS F q=true→D s q=L q)∧(∀ j,j < n→frS fs ops j=false→L j=true→vs j=val j)∧Inv c ⟨ee s ++ (En' ++ S.env),st s⟩ (lk (ls vs)) w'∧MsOk P c w' (gs s)
 refine fun hkl Fr'=>?_
 refine wpIn_region_any hm ?_
 have hdr:J (fun _=>false) (fun _=>undef) w.drew:=by
  have GB:=G.below (Below.refl _ _).drew
  refine ⟨s0,fun q hq=>hD q hq,fun j _ _ e=>(by cases e),⟨ρ,xs,?_⟩,?_⟩
  ·rw [he,List.nil_append,← hst];refine ⟨GB.rows,GB.apart,fun t h hh=>?_,GB.kept,GB.a0⟩
   rcases zDs hh with hh|⟨-,hh⟩
   ·have hf:fs.contains t=false:=by
     cases hc:fs.contains t with
    |false=>rfl
    |true=>rw [hEp,if_pos hc] at hh;cases hh
    rw [hEp,if_neg (by rw [hf];decide)] at hh
    obtain ⟨-,j,hj,hd⟩:=hns t (dU hh);obtain ⟨h',e1,-,-,e2,-⟩:=valOk j t hj hd hf;rw [hh] at e1
    cases e1
    refine ⟨val j,?_,e2.above (Below.refl _ _).drew⟩;show lk (cH l' ops (mix _) n) t=_
    rw [newE _ n j t (Nat.le_refl _) hj hd];simp only [mix,frT hd,hf,cond_false]
   ·obtain ⟨v,v1,v2⟩:=GB.env t h hh;refine ⟨v,?_,v2⟩;show lk (cH l' ops (mix _) n) t=_
    rw [oldE _ n t fun j hj=>over t h hh j hj]
    exact v1
  ·rw [← hg];exact M.block fun b hb _=>((Below.refl _ _).drew (w:=w)).block b hb.lt
 have main:=zBl (P:=P) ok Fr' hkl (fun t ht=>lN (by rw [hkk];exact ht)) hlt (J:=J) (Q:=qSw N Fr'.ds fun e l w'=>∃ S' g',Inv c S' (lk l) w'∧MsOk P c w' g'∧Q e g' S') ?_ ?_ ops.length (Array.replicate ops.length false) (mk Fr' l') w.drew (fun _=>undef) (gJ _)
  ⟨by simp,(fun i j hi=>by rw [getD_replicate_false] at hi;cases hi),(fun i hi=>by rw [getD_replicate_false] at hi;cases hi),rfl,by simp [mk,fU,Fr'.hN],(fun j t _ hl=>by rw [getD_replicate_false] at hl;cases hl),(fun t _=>rfl),trivial⟩
  (by
   have e:(fun j=>(Array.replicate ops.length false).getD j false)=fun _=>false:=by funext j;exact getD_replicate_false _ _
   rw [e];exact hdr)
 ·simpa using main
 ·rintro i o hi ho L vs w1 ⟨s,j1,j2,j3,j4⟩ hLi hdep hclos;refine ⟨true,by rw [hgn i o hi ho];rfl,fun _=>?_,fun e=>(by cases e)⟩
  have hcong:execOp (evD (cH l' ops vs i)) o=execOp (evD (ls vs)) o:=by
   refine execOp_congr o (ok.sel i o ho) fun x hx=>?_
   cases x with
  |tmp t =>
    have hla:=fW (opsA:=ops.toArray) hx
    have:lk (cH l' ops vs i) t=lk (ls vs) t:=by
     by_cases h:∃ j,j < n∧aG ops j=some t
     ·obtain ⟨j,hj,hd⟩:=h;obtain ⟨l1,l2⟩:=(ok.looks i o t hi ho hla).1 j hj hd;rw [newE vs i j t (by omega) l1 hd]
      show _=lk (cH l' ops (mix vs) n) t
      rw [newE (mix vs) n j t (Nat.le_refl _) hj hd]
      cases hf:frS fs ops j with
     |true=>simp only [mix,hf,cond_true]
     |false=>simp only [mix,hf,cond_false];rw [j2 j hj hf (hdep j l2)]
     ·have h':∀ j,j < n→aG ops j≠some t:=fun j hj e=>h ⟨j,hj,e⟩
      rw [oldE vs i t fun j hj=>h' j (by omega)]
      show _=lk (cH l' ops (mix vs) n) t
      rw [oldE _ n t h']
    simp only [evD,ev,this]
  |const v=>rfl
  |global v=>rfl
  |func v=>rfl
  rw [hcong]
  -- the frame behind a head
  have lsE:∀ u,(frS fs ops i=false→u=val i)→∀ t,lk (ls fun j=>if j=i then u else vs j) t=lk (stp o.dst u (ls vs)) t:=fun u hu t=>by
   have hdo:aG ops i=o.dst:=by unfold aG;rw [ho];rfl
   have key:lk (stp o.dst u (ls vs)) t=if o.dst=some t then some u else lk (ls vs) t:=by
    cases hod:o.dst with
   |none=>simp [stp]
   |some d =>
     simp only [stp,lk,Option.some.injEq]
   rw [key];show lk (cH l' ops (mix _) n) t=_
   by_cases h:∃ j,j < n∧aG ops j=some t
   ·obtain ⟨j,hj,hd⟩:=h;rw [newE _ n j t (Nat.le_refl _) hj hd]
    by_cases e:j=i
    ·subst e;rw [← hdo,if_pos hd]
     cases hf:frS fs ops j with
    |true=>simp only [mix,hf,cond_true,if_pos]
    |false=>simp only [mix,hf,cond_false];rw [hu hf]
    ·rw [if_neg fun e2=>e (uniq j i t hj hi hd (by rw [hdo,e2]))]
     show _=lk (cH l' ops (mix vs) n) t
     rw [newE (mix vs) n j t (Nat.le_refl _) hj hd]
     cases hf:frS fs ops j with
    |true=>simp only [mix,hf,cond_true,if_neg e]
    |false=>simp only [mix,hf,cond_false]
   ·have h':∀ j,j < n→aG ops j≠some t:=fun j hj e=>h ⟨j,hj,e⟩
    rw [oldE _ n t h',if_neg fun e2=>h' i hi (by rw [hdo,e2])]
    show _=lk (cH l' ops (mix vs) n) t
    rw [oldE _ n t h']
  cases hx:qS F i with
 |true =>
   refine (eD s i o hx ho (by rw [j1 i hx,hLi]) (fun j hj hxj=>by rw [j1 j hxj];exact hdep j hj) c (ls vs) w1 j3 j4 (evD (ls vs)) (fun x X hx=>by simp [evD,hx])).mono fun u w2 ⟨S',g',⟨s',d1,d2,d3,d4⟩,I2,M2⟩=>?_
   have hu:frS fs ops i=false→u=val i:=fun hf=>by
    cases hd:aG ops i with
   |none=>unfold frS at hf;rw [hd] at hf;cases hf
   |some t =>
     rw [frT hd] at hf;obtain ⟨h,e1,-,-,-,e5⟩:=valOk i t hi hd hf
     have h2:=qEi d2 t h (inEp s' t h hf e1)
     obtain ⟨ρ2,xs2,G2⟩:=I2;obtain ⟨v,v1,v2⟩:=G2.env t h h2
     have hdo:o.dst=some t:=by unfold aG at hd;rw [ho] at hd;exact hd
     rw [hdo] at v1;simp only [stp,lk,if_pos,Option.some.injEq] at v1;subst v1;exact qA1 (e5 hx) v2
   subst d4;refine ⟨s',fun q hq=>?_,fun j hj hf hL=>?_,(I2.less (qEi d2) (qRv d3)).agree fun k x _=>lsE u hu k,M2⟩
   ·rw [d1 q]
    by_cases e:q=i
    ·subst e;simp
    ·simp only [if_neg e];rw [show (q == i)=false by simpa using e,Bool.false_or];exact j1 q hq
   ·dsimp only at hL ⊢
    by_cases e:j=i
    ·subst e;rw [if_pos rfl];exact hu hf
    ·rw [if_neg e] at hL ⊢;exact j2 j hj hf hL
 |false =>
   obtain ⟨hs,-,heads,S1,e1,F1,h1⟩:=hrun s _ (fun _ h=>h) S.env (st s) (fun _=>.junk) rfl (fun t x hx=>.inr ⟨fun j hj=>absurd hj (Nat.not_lt_zero _),hx⟩)
   have ho':(mR F 0 ops)[i]?=some o:=by
    rw [qB3,ho];simp only [Option.map_some,Nat.zero_add,qL3 hx]
   obtain ⟨T,TF,TS,run⟩:=(heads i o (Nat.zero_le _) hi ho').head
   have hsE:∀ j t h,j < n→aG ops j=some t→hlk En t=some h→hs j=h:=fun j t h hj hd hh=>by
    have h2:hlk S1.env t=some h:=by rw [h1];exact qHg hh
    rcases F1 t h h2 with ⟨j',a,b,d⟩|⟨a,b⟩
    ·rw [tE] at b;rw [uniq j j' t hj a hd b];exact d
    ·exact absurd (by rw [tE];exact hd) (a j hj)
   have IT:Inv c ⟨T,st s⟩ (lk (ls vs)) w1:=j3.less (S':=⟨T,st s⟩) (fun t h hh=>by
    have hf:=hpl i o t hi hx ho' (TS t h hh)
    rcases TF t h hh with ⟨j,a,b,d⟩|⟨a,b⟩
    ·rw [tE] at b;obtain ⟨h',hh'⟩:=eM ((hds j t (by omega) b).2.2.1 hf)
     have:=hsE j t h' (by omega) b hh'
     rw [d] at this;subst this;exact inEp s t _ hf hh'
    ·exact inSp s t h b) (fun k r hr=>hr)
   obtain ⟨ρ2,xs2,G2⟩:=j3
   have GT:Good c ⟨T,st s⟩ (lk (ls vs)) w1 ρ2 xs2:=⟨G2.rows,G2.apart,fun t h hh=>by
    have hf:=hpl i o t hi hx ho' (TS t h hh)
    rcases TF t h hh with ⟨j,a,b,d⟩|⟨a,b⟩
    ·rw [tE] at b;obtain ⟨h',hh'⟩:=eM ((hds j t (by omega) b).2.2.1 hf)
     have:=hsE j t h' (by omega) b hh'
     rw [d] at this;subst this;exact G2.env t _ (inEp s t _ hf hh')
    ·exact G2.env t _ (inSp s t h b),G2.kept,G2.a0⟩
   obtain ⟨b,b1,b2,b3⟩:=run c _ w1 ρ2 xs2 GT j4
   have hb:b=true:=by
    rw [hgn i o hi ho] at b1;exact b1.symm
   refine (b2 hb).mono fun u w2 ⟨hu,hB⟩=>?_
   have hv:frS fs ops i=false→u=val i:=fun hf=>by
    cases hd:aG ops i with
   |none=>unfold frS at hf;rw [hd] at hf;cases hf
   |some t =>
     rw [frT hd] at hf;obtain ⟨h,e1,e2,-,-,-⟩:=valOk i t hi hd hf;obtain ⟨v,v1,v2⟩:=G2.env t h (inEp s t h hf e1)
     have e3:lk (ls vs) t=some (val i):=by
      show lk (cH l' ops (mix vs) n) t=_
      rw [newE (mix vs) n i t (Nat.le_refl _) hi hd];simp only [mix,frT hd,hf,cond_false]
     have v1:lk (ls vs) t=some v:=v1
     rw [e3] at v1
     cases v1
     rw [hsE i t h hi hd e1] at hu;exact zBo e2 hu (v2.above hB)
   have hno:∀ t,o.dst=some t→frS fs ops i=false:=fun t ht=>by
    have hd:aG ops i=some t:=by unfold aG;rw [ho];exact ht
    rw [frT hd]
    cases hc:fs.contains t with
   |false=>rfl
   |true =>
     have:=(hds i t hi hd).2.1 hc
     rw [hx] at this;cases this
   refine ⟨s,fun q hq=>?_,fun j hj hf hL=>?_,?_,j4.block fun b hb _=>hB.block b hb.lt⟩
   ·dsimp only;rw [if_neg (fun e=>by rw [e,hx] at hq;cases hq)]
    exact j1 q hq
   ·dsimp only at hL ⊢
    by_cases e:j=i
    ·subst e;rw [if_pos rfl];exact hv hf
    ·rw [if_neg e] at hL ⊢;exact j2 j hj hf hL
   ·refine Inv.agree (look:=lk (ls vs)) ⟨ρ2,xs2,G2.below hB⟩ fun k x hk=>?_
    have same:lk (ls fun j=>if j=i then u else vs j) k=lk (stp o.dst u (ls vs)) k:=lsE u hv k
    rw [same]
    cases hod:o.dst with
   |none=>rfl
   |some t =>
     simp only [stp,lk]
     by_cases e:t=k
     ·subst e;rw [if_pos rfl,hv (hno t hod)]
      have hd:aG ops i=some t:=by unfold aG;rw [ho];exact hod
      show _=lk (cH l' ops (mix vs) n) t
      rw [newE (mix vs) n i t (Nat.le_refl _) hi hd];simp only [mix,hno t hod,cond_false]
     ·rw [if_neg e]
 ·rintro L vs w1 ⟨s,j1,j2,j3,j4⟩ hall;refine hend s (fun q hq=>by rw [j1 q hq];exact hall q (hFn q hq)) c Fr' _ w1 (oZ hlt hkl n (Nat.le_refl _)) (j3.agree fun k x hk=>?_) j4
  show _=lk (cH l' ops (mix vs) n) k
  by_cases h:∃ j,j < n∧aG ops j=some k
  ·obtain ⟨j,hj,hd⟩:=h;rw [newE vs n j k (Nat.le_refl _) hj hd,newE (mix vs) n j k (Nat.le_refl _) hj hd]
   cases hf:frS fs ops j with
  |true=>simp only [mix,hf,cond_true]
  |false=>simp only [mix,hf,cond_false];rw [j2 j hj hf (hall j hj)]
  ·have h':∀ j,j < n→aG ops j≠some k:=fun j hj e=>h ⟨j,hj,e⟩
   rw [oldE vs n k h',oldE (mix vs) n k h']
end
theorem nrd {α:Sort _} {p q:α} (h:p=q):p=q:=by rw [h]
theorem cT (E:aR):zAb [] E=True:=nrd rfl
theorem cC (k:Nat) (x:HV) (r E:aR):zAb ((k,x) :: r) E=(hlk E k=some x∧zAb r E):=nrd rfl
theorem cS (E:aC):zAa [] E=True:=nrd rfl
theorem cB (k:Nat) (x:Row) (r E:aC):zAa ((k,x) :: r) E=(rlk E k=some x∧zAa r E):=nrd rfl
theorem qPk (F:Fix) (i:Nat):mR F i []=[]:=nrd rfl
theorem qKh (F:Fix) (i:Nat) (o:Oper) (r:List Oper):mR F i (o :: r)=qP F i o :: mR F (i + 1) r:=nrd rfl
theorem qL4 (i:Nat) (o:Oper):qP [] i o=o:=nrd rfl
theorem qF1 (a:Nat) (v:Value) (r:Fix) (i:Nat) (o:Oper):qP ((a,v) :: r) i o=bif a == i then zE5 v o else qP r i o:=nrd rfl
theorem qU6 (v:Value) (d:Option Nat) (op:Op) (ty:TypeId) (p:String) (a:Array Edge) (g:Option (Nat × Bool)):zE5 v ⟨d,op,ty,p,a,g⟩=⟨d,.move (.const v),ty,p,a,g⟩:=nrd rfl
end Go.Eng
