/-
  Plain: trees ay what stands where; what a put leaves.
-/
import Derived.Test.YtbdomkfdkfdfgaaGreatDoorTsP
import Derived.Test.YtbdomkfdkfdfgaaGreatDoorTrU
set_option linter.unusedSimpArgs false
set_option linter.unusedVariables false
section
namespace Go.Tr
open Go
theorem qMu {a b:List Ent} {e:Ent} (h:rise (a ++ b)) (h1:∀ x ∈ a,blt x.1 e.1=true) (h2:∀ y ∈ b,blt e.1 y.1=true):rise (a ++ e :: b):=by
 obtain ⟨ra,rb,rab⟩:=List.pairwise_append.1 h;refine List.pairwise_append.2 ⟨ra,List.pairwise_cons.2 ⟨h2,rb⟩,fun x hx y hy=>?_⟩
 rcases List.mem_cons.1 hy with rfl|hy
 ·exact h1 x hx
 ·exact rab x hx y hy
theorem qDs {t:List Ent} (h:okR t=true) (p:ByteArray):aU t p=!decide ((aN t p).1=0):=by
 have ri:=qFl h
 cases th:aU t p with
|false=>rw [qCs th];rfl
|true =>
  have tp:=gN ri p
  rw [th] at tp;obtain ⟨hlt,hat⟩:=of_decide_eq_true tp.symm
  have hg:=qKx ri hlt
  rw [hat] at hg;rw [hg]
  have:=kN.1 h _ hlt
  simp only [qAo,qAz,Bool.and_eq_true,Bool.not_eq_true',decide_eq_false_iff_not] at this;rw [kW hlt] at this;rw [decide_eq_false this.1.2.2.1];rfl
theorem zDi {t:List Ent} (ri:rise t) (p:ByteArray) (n:Int × ByteArray):qAy t p n=iL t p n:=by
 unfold qAy iL
 by_cases hE:fP t p n=0
 ·rw [if_pos hE,if_pos hE]
  have tp:=gN ri p
  obtain ⟨s1,s2⟩:=rR ri p
  have pl:=qFg t p
  have hleft:∀ x ∈ t.take (aQ t p),blt x.1 p=true:=fun x hx=>by
   obtain ⟨k,hk,rfl⟩:=List.getElem_of_mem hx;rw [List.length_take] at hk;rw [List.getElem_take];exact s1 k (by omega) (by omega)
  cases th:aU t p with
 |true =>
   rw [th] at tp;obtain ⟨hlt,hat⟩:=of_decide_eq_true tp.symm
   have hd:t=t.take (aQ t p) ++ t[aQ t p] :: t.drop (aQ t p + 1):=by
    rw [← List.drop_eq_getElem_cons hlt,List.take_append_drop]
   have ri2:=ri
   rw [hd] at ri2;obtain ⟨ra,rb,rab⟩:=List.pairwise_append.1 ri2;obtain ⟨rc,rd⟩:=List.pairwise_cons.1 rb;rw [hat] at rc
   have rab2:rise (t.take (aQ t p) ++ t.drop (aQ t p + 1)):=List.pairwise_append.2 ⟨ra,rd,fun x hx y hy=>rab x hx y (List.mem_cons_of_mem _ hy)⟩
   have hf:(t.filter fun e=>!decide (e.1=p))=t.take (aQ t p) ++ t.drop (aQ t p + 1):=by
    conv=>lhs;rw [hd]
    rw [List.filter_append,List.filter_cons,hat];simp only [decide_true,Bool.not_true,Bool.false_eq_true,if_false];rw [List.filter_eq_self.2,List.filter_eq_self.2]
    ·intro x hx
     have:=yZ (rc x hx)
     simp only [Bool.not_eq_true',decide_eq_false_iff_not];exact fun e=>this e.symm
    ·intro x hx
     have:=yZ (hleft x hx)
     simpa using this
   by_cases hk:n.1=0
   ·rw [qE0,if_pos hk,List.append_nil,hf,qL4,if_pos hk,List.eraseIdx_eq_take_drop_succ];exact qKq rab2 (List.Perm.refl _)
   ·rw [qE0,if_neg hk,hf,qL4,if_neg hk,if_pos th,List.set_eq_take_append_cons_drop,if_pos hlt];refine qKq (qMu rab2 hleft rc) ?_;exact (List.perm_append_singleton _ _).trans List.perm_middle.symm
 |false =>
   have hf:(t.filter fun e=>!decide (e.1=p))=t:=by
    rw [List.filter_eq_self];intro x hx
    have:=List.any_eq_false.1 th x hx
    simpa using this
   have hright:∀ y ∈ t.drop (aQ t p),blt p y.1=true:=fun y hy=>by
    have hne:¬ y.1=p:=fun e=>by
     have:=List.any_eq_false.1 th y (List.mem_of_mem_drop hy)
     exact this (by simp [e])
    obtain ⟨k,hk,rfl⟩:=List.getElem_of_mem hy;rw [List.length_drop] at hk;rw [List.getElem_drop] at hne ⊢
    have:=s2 (aQ t p + k) (by omega) (by omega)
    rcases uS t[aQ t p + k].1 p with h|h|h
    ·rw [h] at this;cases this
    ·exact absurd h hne
    ·exact h
   have hk:n.1≠0:=fun hk=>by
    have hu:=hE
    unfold fP at hu;rw [if_pos hk,th] at hu;split at hu
    ·cases hu
    ·split at hu
     ·cases hu
     ·cases hu
   rw [qE0,if_neg hk,hf,qL4,if_neg hk,if_neg (by rw [th];decide)]
   refine qKq (qMu (by rw [List.take_append_drop];exact ri) hleft hright) ?_
   refine (List.perm_append_singleton _ _).trans ?_;refine List.Perm.trans ?_ List.perm_middle.symm;rw [List.take_append_drop]
 ·rw [if_neg hE,if_neg hE]
end Go.Tr
end
section
namespace Go.Tr
open Go
end Go.Tr
end
section
namespace Go.Tr
open Go Go.Lib
set_option maxRecDepth 20000
structure Tree (t:List Ent):Prop where
 ri:rise t
 len:t.length≤200
 each:∀ e ∈ t,pOk e.1 5=true∧fY e.2=true∧e.2.1≠0∧(par e.1={ data:=#[] }∨(aN t (par e.1)).1=1)
theorem qS (t:List Ent):dD t=0↔Tree t:=by
 constructor
 ·intro h;obtain ⟨hl,ok⟩:=xF h;refine ⟨qFl ok,hl,fun e he=>?_⟩
  obtain ⟨i,hi,rfl⟩:=List.getElem_of_mem he
  have:=kN.1 ok i hi
  simp only [qAo,qAz,qE2,Bool.and_eq_true,Bool.not_eq_true',decide_eq_false_iff_not,Bool.or_eq_true,decide_eq_true_eq] at this;rw [kW hi] at this;exact ⟨this.1.1,this.1.2.1,this.1.2.2.1,this.2⟩
 ·intro h;unfold dD;rw [if_neg (by have:=h.len;omega)]
  have:okR t=true:=kN.2 fun i hi=>by
   obtain ⟨h1,h2,h3,h4⟩:=h.each _ (List.getElem_mem hi);simp only [qAo,qAz,qE2,Bool.and_eq_true,Bool.not_eq_true',decide_eq_false_iff_not,Bool.or_eq_true,decide_eq_true_eq];rw [kW hi];refine ⟨⟨h1,h2,h3,?_⟩,h4⟩
   rcases Nat.eq_zero_or_pos i with h|h0
   ·exact .inl h
   ·refine .inr ?_;rw [kW (by omega)]
    exact mX h.ri (by omega) hi
  rw [this];rfl
theorem Tree.knd {t:List Ent} (h:Tree t):kinds t:=fun e he e0=>(h.each e he).2.2.1 (by rw [e0];rfl)
theorem Tree.okT {t:List Ent} (h:Tree t):okR t=true:=(xF ((qS t).2 h)).2
theorem Tree.ext {a b:List Ent} (ha:Tree a) (hb:Tree b) (h:∀ q,aN a q=aN b q):a=b:=by
 refine zCq a b (List.eq_nil_iff_forall_not_mem.2 fun p hp=>?_)
 exact (zJc p a b ha.ri hb.ri ha.knd hb.knd).1 hp (h p)
theorem qBs {t:List Ent} {q:ByteArray} (h:aN t q≠mF):(q,aN t q) ∈ t:=by
 unfold aN at h ⊢
 cases e:t.find? fun e=>decide (e.1=q) with
|none=>rw [e] at h;exact absurd rfl h
|some x =>
  have h1:=List.mem_of_find?_eq_some e
  have h2:=List.find?_some e
  simp only [decide_eq_true_eq] at h2;show (q,x.2) ∈ t
  rw [← h2];exact h1
theorem qCr {t:List Ent} (h:rise t) {e:Ent} (he:e ∈ t):aN t e.1=e.2:=by
 obtain ⟨i,hi,rfl⟩:=List.getElem_of_mem he;exact qKx h hi
theorem qDp {n:Int × ByteArray} (h:fY n=true) (h0:n.1=0):n=mF:=by
 obtain ⟨k,d⟩:=n;simp only at h0;subst h0;simp [fY] at h;rw [mF,h]
theorem Tree.whole {t:List Ent} (h:Tree t) (q:ByteArray):fY (aN t q)=true:=by
 by_cases e:aN t q=mF
 ·rw [e];decide
 ·exact (h.each _ (qBs e)).2.1
theorem Tree.kind0 {t:List Ent} (h:Tree t) {q:ByteArray}:(aN t q).1=0↔aN t q=mF:=⟨fun e=>qDp (h.whole q) e,fun e=>by rw [e];rfl⟩
theorem Tree.thr {t:List Ent} (h:Tree t) (q:ByteArray):aU t q=true↔(aN t q).1≠0:=by
 rw [qDs h.okT q];simp
theorem Tree.up {t:List Ent} (h:Tree t) {q:ByteArray} (e:(aN t q).1≠0):par q={ data:=#[] }∨(aN t (par q)).1=1:=by
 have:aN t q≠mF:=fun e'=>e (by rw [e'];rfl)
 exact (h.each _ (qBs this)).2.2.2
theorem Tree.nil:Tree []:=⟨.nil,by simp,fun e he=>by simp at he⟩
def below (q p:ByteArray):Bool:=(p ++ stroke).data.toList.isPrefixOf q.data.toList
theorem qK6 {q p:ByteArray} (hp:p≠{ data:=#[] }):dY q p=true↔q=p∨below q p=true:=by
 unfold dY below;simp only [Bool.or_eq_true,decide_eq_true_eq];constructor
 ·rintro ((h|h)|h)
  ·exact absurd h hp
  ·exact .inl h
  ·exact .inr h
 ·rintro (h|h)
  ·exact .inl (.inr h)
  ·exact .inr h
theorem qYc:∀ {s:List UInt8} {n:Nat},s[n]?=some 47→∃ i,iR s=some i∧n≤i
|[],n,h=>by simp at h
|c :: r,0,h=>by
  simp only [List.getElem?_cons_zero,Option.some.injEq] at h;rw [iR]
  cases e:iR r with
 |none=>exact ⟨0,by simp [h],Nat.le_refl _⟩
 |some i=>exact ⟨i + 1,rfl,Nat.zero_le _⟩
|c :: r,n + 1,h=>by
  obtain ⟨i,hi,hle⟩:=qYc (s:=r) (n:=n) (by simpa using h)
  rw [iR,hi];exact ⟨i + 1,rfl,by omega⟩
theorem zNs (p:ByteArray):(p ++ stroke).data.toList=p.data.toList ++ [47]:=by
 rw [ByteArray.data_append,Array.toList_append];rfl
theorem xG {q p:ByteArray}:below q p=true↔∃ r,q.data.toList=p.data.toList ++ 47 :: r:=by
 unfold below;rw [zNs,List.isPrefixOf_iff_prefix];constructor
 ·rintro ⟨r,h⟩;exact ⟨r,by rw [← h];simp⟩
 ·rintro ⟨r,h⟩;exact ⟨r,by rw [h];simp⟩
theorem qMf (q:ByteArray):(par q).data.toList=q.data.toList.take (qD2 q):=by rw [par,extract_from_zero]
theorem tFt {a b:ByteArray} (h:a.data.toList=b.data.toList):a=b:=by
 cases a;cases b;simp only [ByteArray.mk.injEq];exact Array.toList_inj.1 h
theorem qHa {q:ByteArray} (h:par q≠{ data:=#[] }):below q (par q)=true:=by
 rw [xG,qMf];unfold qD2
 cases e:iR q.data.toList with
|none =>
  exfalso;apply h;apply tFt
  rw [qMf,qD2,e];rfl
|some i =>
  obtain ⟨h1,h2⟩:=rV e;refine ⟨q.data.toList.drop (i + 1),?_⟩;simp only [Option.getD_some]
  have h3:q.data.toList[i]=47:=by rw [List.getElem?_eq_getElem h1] at h2;exact Option.some.inj h2
  conv=>lhs;rw [← List.take_append_drop i q.data.toList,List.drop_eq_getElem_cons h1,h3]
theorem qHp {q p:ByteArray} (h:below q p=true):blt p q=true:=by
 obtain ⟨r,hr⟩:=xG.1 h;rw [blt,toList_data,toList_data,hr];exact qBi _ _ (by simp)
theorem zNr {q p:ByteArray} (h:below q p=true):q≠p:=fun e=>by
 have:=qHp h
 rw [e,fD] at this;cases this
theorem qEh {q p:ByteArray} (h:below q p=true):p.size < q.size:=by
 obtain ⟨r,hr⟩:=xG.1 h;rw [Lib.size_eq,Lib.size_eq,hr];simp
theorem qVc {q p:ByteArray} (h:below q p=true):par q=p∨below (par q) p=true:=by
 obtain ⟨r,hr⟩:=xG.1 h
 have hn:q.data.toList[p.data.toList.length]?=some 47:=by rw [hr];simp
 obtain ⟨i,hi,hle⟩:=qYc hn
 have hp:qD2 q=i:=by unfold qD2;rw [hi];rfl
 have hl:=qMf q
 rw [hp,hr] at hl
 rcases Nat.lt_or_ge p.data.toList.length i with h'|h'
 ·right
  rw [xG,hl,List.take_append];refine ⟨r.take (i - p.data.toList.length - 1),?_⟩;rw [List.take_of_length_le (by omega)]
  congr 1
  obtain ⟨d,hd⟩:∃ d,i - p.data.toList.length=d + 1:=⟨i - p.data.toList.length - 1,by omega⟩
  rw [hd,List.take_succ_cons];simp
 ·left
  have:i=p.data.toList.length:=by omega
  subst this
  apply tFt
  rw [hl,List.take_left'];rfl
theorem qFi {q p:ByteArray} (h:below q p=true) (hp:p≠{ data:=#[] }):par q≠{ data:=#[] }:=by
 rcases qVc h with e|e
 ·rw [e];exact hp
 ·intro h0
  have:=qEh e
  rw [h0] at this;exact absurd this (Nat.not_lt_zero _)
theorem Tree.closed {t:List Ent} (h:Tree t) {p:ByteArray} (hp:p≠{ data:=#[] }):∀ {q:ByteArray},below q p=true→(aN t q).1≠0→(aN t p).1=1:=by
 have:∀ n (q:ByteArray),q.size≤n→below q p=true→(aN t q).1≠0→(aN t p).1=1:=by
  intro n
  induction n with
 |zero=>intro q hs hb _;have:=qEh hb;omega
 |succ n ih =>
   intro q hs hb hq
   have hu:=(h.up hq).resolve_left (qFi hb hp)
   rcases qVc hb with e|e
   ·rw [← e];exact hu
   ·refine ih (par q) ?_ e (by rw [hu];decide)
    have:=qEh (qHa (qFi hb hp))
    omega
 intro q hb hq;exact this _ q (Nat.le_refl _) hb hq
theorem Tree.under {t:List Ent} (h:Tree t) {p:ByteArray} (hp:p≠{ data:=#[] }):1 < (t.filter fun e=>dY e.1 p).length↔∃ q,below q p=true∧(aN t q).1≠0:=by
 constructor
 ·intro hl
  apply Classical.byContradiction
  intro hn
  have hall:∀ e ∈ t.filter fun e=>dY e.1 p,e.1=p:=fun e he=>by
   rw [List.mem_filter] at he
   rcases (qK6 hp).1 he.2 with e1|e1
   ·exact e1
   ·exact absurd ⟨e.1,e1,by rw [qCr h.ri he.1];exact (h.each e he.1).2.2.1⟩ hn
  have hr:rise (t.filter fun e=>dY e.1 p):=List.Pairwise.filter _ h.ri
  have h01:=mX hr (i:=0) (j:=1) (by omega) hl
  rw [hall _ (List.getElem_mem _),hall _ (List.getElem_mem _),fD] at h01
  cases h01
 ·rintro ⟨q,hb,hq⟩
  have hp1:=h.closed hp hb hq
  have m1:(p,aN t p) ∈ t.filter fun e=>dY e.1 p:=List.mem_filter.2 ⟨qBs (fun e=>by rw [e] at hp1;cases hp1),(qK6 hp).2 (.inl rfl)⟩
  have m2:(q,aN t q) ∈ t.filter fun e=>dY e.1 p:=List.mem_filter.2 ⟨qBs (fun e=>hq (by rw [e];rfl)),(qK6 hp).2 (.inr hb)⟩
  rcases hc:t.filter (fun e=>dY e.1 p) with _|⟨x,_|⟨y,r⟩⟩
  ·rw [hc] at m1;simp at m1
  ·rw [hc] at m1 m2;simp only [List.mem_cons,List.not_mem_nil,or_false] at m1 m2;rw [← m2] at m1;exact absurd (congrArg Prod.fst m1).symm (zNr hb)
  ·rw [hc];simp
theorem Tree.putI {t:List Ent} (h:Tree t) (p:ByteArray) (n:Int × ByteArray):fP t p n=0↔pOk p 5=true∧fY n=true∧(n.1=0→(aN t p).1≠0)∧(n.1≠0→par p={ data:=#[] }∨(aN t (par p)).1=1)∧(n.1≠1→∀ q,below q p=true→(aN t q).1=0)∧(n.1≠0→(aN t p).1=0→t.length < 200):=by
 unfold fP
 cases ok:pOk p 5 with
|false=>simp
|true =>
 have hp:p≠{ data:=#[] }:=qHb ok
 cases wh:fY n with
|false=>simp
|true =>
 rw [if_neg (by decide),if_neg (by decide)]
 have hu:=h.under hp
 have hth:=h.thr p
 have hup:qK4 t p=true↔par p={ data:=#[] }∨(aN t (par p)).1=1:=by simp [qK4]
 by_cases hk:n.1=0
 ·rw [if_pos hk];simp only [hk,true_implies,ne_eq,not_true_eq_false,false_implies,true_and,false_and,if_false]
  cases th:aU t p with
 |false =>
   rw [th] at hth;simp only [if_true];constructor
   ·intro h;cases h
   ·rintro ⟨h1,-⟩;exact absurd (hth.2 h1) (by decide)
 |true =>
   rw [th] at hth;simp only [Bool.true_eq_false,if_false]
   by_cases hl:1 < (t.filter fun e=>dY e.1 p).length
   ·rw [if_pos ⟨by decide,hl⟩]
    obtain ⟨q,hb,hq⟩:=hu.1 hl;constructor
    ·intro h;cases h
    ·rintro ⟨-,h2,-⟩;exact absurd (h2 (by decide) q hb) hq
   ·rw [if_neg fun hh=>hl hh.2]
    refine ⟨fun _=>⟨hth.1 rfl,fun _ q hb=>?_,trivial⟩,fun _=>rfl⟩
    apply Classical.byContradiction
    intro hq;exact hl (hu.2 ⟨q,hb,hq⟩)
 ·rw [if_neg hk];simp only [hk,false_implies,ne_eq,not_false_eq_true,true_implies,true_and]
  cases hup':qK4 t p with
 |false =>
   rw [hup'] at hup;simp only [if_true];constructor
   ·intro h;cases h
   ·rintro ⟨h1,-⟩;exact absurd (hup.2 h1) (by decide)
 |true =>
   rw [hup'] at hup;simp only [Bool.true_eq_false,if_false]
   have key:(¬ n.1=1∧1 < (t.filter fun e=>dY e.1 p).length)↔¬ (¬ n.1=1→∀ q,below q p=true→(aN t q).1=0):=by
    rw [hu];constructor
    ·rintro ⟨h1,q,hb,hq⟩ h2;exact hq (h2 h1 q hb)
    ·intro h2;refine ⟨fun e=>h2 fun h=>absurd e h,?_⟩
     apply Classical.byContradiction
     intro hn;exact h2 fun _ q hb=>Classical.byContradiction fun hq=>hn ⟨q,hb,hq⟩
   by_cases h12:¬ n.1=1∧1 < (t.filter fun e=>dY e.1 p).length
   ·rw [if_pos h12];constructor
    ·intro h;cases h
    ·rintro ⟨-,h2,-⟩;exact absurd h2 (key.1 h12)
   ·rw [if_neg h12]
    have h12':=Classical.byContradiction fun hn=>h12 (key.2 hn)
    by_cases h4:aU t p=false∧200≤t.length
    ·rw [if_pos h4];constructor
     ·intro h;cases h
     ·rintro ⟨-,-,h3⟩
      have:(aN t p).1=0:=Classical.byContradiction fun e=>by rw [hth.2 e] at h4;cases h4.1
      have:=h3 this
      omega
    ·rw [if_neg h4];refine ⟨fun _=>⟨hup.1 rfl,h12',fun h0=>?_⟩,fun _=>rfl⟩
     apply Classical.byContradiction
     intro hl;refine h4 ⟨?_,by omega⟩
     cases th:aU t p with
    |false=>rfl
    |true=>exact absurd h0 (hth.1 th)
theorem qKy {t:List Ent} (ri:rise t) (p:ByteArray) (n:Int × ByteArray):∃ A B,(∀ x ∈ A,blt x.1 p=true)∧(∀ y ∈ B,blt p y.1=true)∧t=A ++ ((if aU t p=true then [(p,aN t p)] else []) ++ B)∧((n.1=0→aU t p=true)→qL4 t p n=A ++ ((if n.1=0 then [] else [(p,n)]) ++ B)):=by
 have tp:=gN ri p
 obtain ⟨s1,s2⟩:=rR ri p
 have pl:=qFg t p
 have hleft:∀ x ∈ t.take (aQ t p),blt x.1 p=true:=fun x hx=>by
  obtain ⟨k,hk,rfl⟩:=List.getElem_of_mem hx;rw [List.length_take] at hk;rw [List.getElem_take];exact s1 k (by omega) (by omega)
 cases th:aU t p with
|true =>
  rw [th] at tp;obtain ⟨hlt,hat⟩:=of_decide_eq_true tp.symm
  have hg:=qKx ri hlt
  rw [hat] at hg;refine ⟨t.take (aQ t p),t.drop (aQ t p + 1),hleft,fun y hy=>?_,?_,fun _=>?_⟩
  ·obtain ⟨k,hk,rfl⟩:=List.getElem_of_mem hy;rw [List.length_drop] at hk;rw [List.getElem_drop]
   have:=mX ri (i:=aQ t p) (j:=aQ t p + 1 + k) (by omega) (by omega)
   rwa [hat] at this
  ·rw [if_pos rfl]
   have e:(p,aN t p)=t[aQ t p]:=by rw [hg];exact Prod.ext hat.symm rfl
   rw [e,List.singleton_append,← List.drop_eq_getElem_cons hlt,List.take_append_drop]
  ·unfold qL4
   by_cases hk:n.1=0
   ·rw [if_pos hk,if_pos hk,List.nil_append,List.eraseIdx_eq_take_drop_succ]
   ·rw [if_neg hk,if_neg hk,if_pos th,List.set_eq_take_append_cons_drop,if_pos hlt,List.singleton_append]
|false =>
  refine ⟨t.take (aQ t p),t.drop (aQ t p),hleft,fun y hy=>?_,?_,fun h0=>?_⟩
  ·have hne:¬ y.1=p:=fun e=>by
    have:=List.any_eq_false.1 th y (List.mem_of_mem_drop hy)
    exact this (by simp [e])
   obtain ⟨k,hk,rfl⟩:=List.getElem_of_mem hy;rw [List.length_drop] at hk;rw [List.getElem_drop] at hne ⊢
   have:=s2 (aQ t p + k) (by omega) (by omega)
   rcases uS t[aQ t p + k].1 p with h|h|h
   ·rw [h] at this;cases this
   ·exact absurd h hne
   ·exact h
  ·rw [if_neg (by decide),List.nil_append,List.take_append_drop]
  ·have hk:¬ n.1=0:=fun e=>by cases h0 e
   unfold qL4;rw [if_neg hk,if_neg hk,if_neg (by rw [th];decide),List.singleton_append]
theorem qF6 (a b:List Ent) (q:ByteArray):aN (a ++ b) q=if aU a q=true then aN a q else aN b q:=by
 cases th:aU a q with
|true =>
  obtain ⟨e,he,hq⟩:=List.any_eq_true.1 th;rw [if_pos rfl];unfold aN
  cases e1:a.find? fun e=>decide (e.1=q) with
 |none=>exact absurd hq (List.find?_eq_none.1 e1 e he)
 |some x=>rw [List.find?_append,e1];rfl
|false =>
  rw [if_neg (by decide)]
  unfold aN
  have e1:(a.find? fun e=>decide (e.1=q))=none:=by
   rw [List.find?_eq_none];intro e he;exact List.any_eq_false.1 th e he
  rw [List.find?_append,e1];rfl
theorem qZy {A B:List Ent} {p:ByteArray} {n:Int × ByteArray} (hA:∀ x ∈ A,blt x.1 p=true) (q:ByteArray):aN (A ++ ([(p,n)] ++ B)) q=if q=p then n else aN (A ++ B) q:=by
 have hn:aU A p=false:=List.any_eq_false.2 fun e he=>by
  have:=yZ (hA e he);simpa using this
 by_cases e:q=p
 ·subst e;rw [if_pos rfl,qF6,hn,if_neg (by decide),List.singleton_append,mP,if_pos rfl]
 ·rw [if_neg e,qF6 A,qF6 A,List.singleton_append,mP,if_neg (c:=(p,n).1=q) fun h=>e h.symm]
theorem zMa {A B:List Ent} {p:ByteArray} (hA:∀ x ∈ A,blt x.1 p=true) (hB:∀ y ∈ B,blt p y.1=true):aN (A ++ B) p=mF:=by
 refine qCs (List.any_eq_false.2 fun e he=>?_)
 rcases List.mem_append.1 he with he|he
 ·have:=yZ (hA e he);simpa using this
 ·have:=yZ (hB e he);simpa using fun e=>this e.symm
theorem Tree.put_len {t:List Ent} (h:Tree t) {p:ByteArray} {n:Int × ByteArray} (hE:fP t p n=0):(iL t p n).length + (if (aN t p).1=0 then 0 else 1)=t.length + (if n.1=0 then 0 else 1):=by
 obtain ⟨A,B,hA,hB,ht,hv⟩:=qKy h.ri p n
 have hE':=(h.putI p n).1 hE
 rw [iL,if_pos hE,hv fun e=>(h.thr p).2 (hE'.2.2.1 e)]
 have hth:=h.thr p
 conv=>rhs;rw [ht]
 by_cases h1:(aN t p).1=0
 ·rw [if_pos h1,if_neg (fun e=>hth.1 e h1)]
  by_cases h2:n.1=0
  ·exact absurd h1 (hE'.2.2.1 h2)
  ·rw [if_neg h2,if_neg h2];simp;omega
 ·rw [if_neg h1,if_pos (hth.2 h1)]
  by_cases h2:n.1=0
  ·rw [if_pos h2,if_pos h2];simp;omega
  ·rw [if_neg h2,if_neg h2];simp
theorem Tree.put_get {t:List Ent} (h:Tree t) {p:ByteArray} {n:Int × ByteArray} (hE:fP t p n=0) (q:ByteArray):aN (iL t p n) q=if q=p then n else aN t q:=by
 obtain ⟨A,B,hA,hB,ht,hv⟩:=qKy h.ri p n
 have hE':=(h.putI p n).1 hE
 rw [iL,if_pos hE,hv fun e=>(h.thr p).2 (hE'.2.2.1 e)]
 have hg:q≠p→aN t q=aN (A ++ B) q:=fun e=>by
  conv=>lhs;rw [ht]
  split
  ·rw [qZy hA,if_neg e]
  ·rfl
 by_cases h2:n.1=0
 ·rw [if_pos h2,List.nil_append]
  by_cases e:q=p
  ·rw [if_pos e,e,zMa hA hB,qDp hE'.2.1 h2]
  ·rw [if_neg e,hg e]
 ·rw [if_neg h2,qZy hA]
  by_cases e:q=p
  ·rw [if_pos e,if_pos e]
  ·rw [if_neg e,if_neg e,hg e]
theorem Tree.put {t:List Ent} (h:Tree t) {p:ByteArray} {n:Int × ByteArray} (hE:fP t p n=0):Tree (iL t p n):=by
 have hg:=h.put_get hE
 have hl:=h.put_len hE
 obtain ⟨A,B,hA,hB,ht,hv⟩:=qKy h.ri p n;obtain ⟨h1,h2,h3,h4,h5,h6⟩:=(h.putI p n).1 hE
 have hT:iL t p n=A ++ ((if n.1=0 then [] else [(p,n)]) ++ B):=by rw [iL,if_pos hE,hv fun e=>(h.thr p).2 (h3 e)]
 have hAB:rise (A ++ B):=by
  have:=h.ri
  rw [ht] at this;refine List.Pairwise.sublist ?_ this;exact List.Sublist.append (List.Sublist.refl A) (List.sublist_append_right _ B)
 have hAt:∀ x ∈ A ++ B,x ∈ t:=fun x hx=>by
  rw [ht]
  rcases List.mem_append.1 hx with hx|hx
  ·exact List.mem_append_left _ hx
  ·exact List.mem_append_right _ (List.mem_append_right _ hx)
 have hne:∀ x ∈ A ++ B,x.1≠p:=fun x hx=>by
  rcases List.mem_append.1 hx with hx|hx
  ·exact yZ (hA x hx)
  ·exact fun e=>yZ (hB x hx) e.symm
 refine ⟨?_,?_,fun e he=>?_⟩
 ·rw [hT];split
  ·exact hAB
  ·exact qMu hAB hA hB
 ·by_cases a:n.1=0
  ·rw [if_pos a] at hl;have:=h.len;omega
  ·rw [if_neg a] at hl
   by_cases b:(aN t p).1=0
   ·rw [if_pos b] at hl;have:=h6 a b;omega
   ·rw [if_neg b] at hl;have:=h.len;omega
 ·have hpar:∀ x ∈ A ++ B,par x.1={ data:=#[] }∨(aN (iL t p n) (par x.1)).1=1:=fun x hx=>by
   obtain ⟨-,-,k3,k4⟩:=h.each x (hAt x hx)
   rcases k4 with k4|k4
   ·exact .inl k4
   ·by_cases z:par x.1={ data:=#[] }
    ·exact .inl z
    ·refine .inr ?_;rw [hg]
     by_cases e:par x.1=p
     ·rw [if_pos e]
      apply Classical.byContradiction
      intro hn
      have:=h5 hn x.1 (by rw [← e];exact qHa z)
      rw [qCr h.ri (hAt x hx)] at this;exact k3 this
     ·rw [if_neg e];exact k4
  have hrest:∀ x ∈ A ++ B,pOk x.1 5=true∧fY x.2=true∧x.2.1≠0∧(par x.1={ data:=#[] }∨(aN (iL t p n) (par x.1)).1=1):=fun x hx=>by
   obtain ⟨k1,k2,k3,-⟩:=h.each x (hAt x hx);exact ⟨k1,k2,k3,hpar x hx⟩
  rw [hT] at he
  rcases List.mem_append.1 he with he|he
  ·exact hrest e (List.mem_append_left _ he)
  ·rcases List.mem_append.1 he with he|he
   ·split at he
    ·simp at he
    ·rename_i hk;simp only [List.mem_singleton] at he;subst he;refine ⟨h1,h2,hk,?_⟩
     rcases h4 hk with z|z
     ·exact .inl z
     ·refine .inr ?_;rw [hg]
      by_cases e:par p=p
      ·exfalso
       have:=zEb (qHb h1)
       rw [e,fD] at this;cases this
      ·show (if par p=p then n else aN t (par p)).1=1
       rw [if_neg e];exact z
   ·exact hrest e (List.mem_append_right _ he)
end Go.Tr
end
