/-
  Plain: trees ay what stands where; what a put leaves.
-/
import Derived.Test.YtbdomkfdkfdfgaaGreatDoorTpF
import Derived.Test.YtbdomkfdkfdfgaaGreatDoorTpB
set_option linter.unusedSimpArgs false
set_option linter.unusedVariables false
namespace Go.Tr
open Go Go.Lib
set_option maxRecDepth 20000
structure Tree (t:List Ent):Prop where
 ri:rise t
 len:t.length≤200
 each:∀ e ∈ t,pOk e.1 5=true∧gX e.2=true∧e.2.1≠0∧(par e.1={ data:=#[] }∨(aF t (par e.1)).1=1)
theorem qH3 (t:List Ent):cQ t=0↔Tree t:=by
 constructor
 ·intro h;obtain ⟨hl,ok⟩:=sW h;refine ⟨lY ok,hl,fun e he=>?_⟩
  obtain ⟨i,hi,rfl⟩:=List.getElem_of_mem he
  have:=gW.1 ok i hi
  simp only [tN,uV,qCl,Bool.and_eq_true,Bool.not_eq_true',decide_eq_false_iff_not,Bool.or_eq_true,decide_eq_true_eq] at this;rw [iF hi] at this;exact ⟨this.1.1,this.1.2.1,this.1.2.2.1,this.2⟩
 ·intro h;unfold cQ;rw [if_neg (by have:=h.len;omega)]
  have:okR t=true:=gW.2 fun i hi=>by
   obtain ⟨h1,h2,h3,h4⟩:=h.each _ (List.getElem_mem hi);simp only [tN,uV,qCl,Bool.and_eq_true,Bool.not_eq_true',decide_eq_false_iff_not,Bool.or_eq_true,decide_eq_true_eq];rw [iF hi];refine ⟨⟨h1,h2,h3,?_⟩,h4⟩
   rcases Nat.eq_zero_or_pos i with h|h0
   ·exact .inl h
   ·refine .inr ?_;rw [iF (by omega)]
    exact kC h.ri (by omega) hi
  rw [this];rfl
theorem Tree.knd {t:List Ent} (h:Tree t):kinds t:=fun e he e0=>(h.each e he).2.2.1 (by rw [e0];rfl)
theorem Tree.okT {t:List Ent} (h:Tree t):okR t=true:=(sW ((qH3 t).2 h)).2
theorem Tree.ext {a b:List Ent} (ha:Tree a) (hb:Tree b) (h:∀ q,aF a q=aF b q):a=b:=by
 refine zAm a b (List.eq_nil_iff_forall_not_mem.2 fun p hp=>?_)
 exact (qFd p a b ha.ri hb.ri ha.knd hb.knd).1 hp (h p)
theorem qDb {t:List Ent} {q:ByteArray} (h:aF t q≠kD):(q,aF t q) ∈ t:=by
 unfold aF at h ⊢
 cases e:t.find? fun e=>decide (e.1=q) with
|none=>rw [e] at h;exact absurd rfl h
|some x =>
  have h1:=List.mem_of_find?_eq_some e
  have h2:=List.find?_some e
  simp only [decide_eq_true_eq] at h2;show (q,x.2) ∈ t
  rw [← h2];exact h1
theorem zC9 {t:List Ent} (h:rise t) {e:Ent} (he:e ∈ t):aF t e.1=e.2:=by
 obtain ⟨i,hi,rfl⟩:=List.getElem_of_mem he;exact qHs h hi
theorem qY0 {n:Int × ByteArray} (h:gX n=true) (h0:n.1=0):n=kD:=by
 obtain ⟨k,d⟩:=n;simp only at h0;subst h0;simp [gX] at h;rw [kD,h]
theorem Tree.whole {t:List Ent} (h:Tree t) (q:ByteArray):gX (aF t q)=true:=by
 by_cases e:aF t q=kD
 ·rw [e];decide
 ·exact (h.each _ (qDb e)).2.1
theorem Tree.thr {t:List Ent} (h:Tree t) (q:ByteArray):eF t q=true↔(aF t q).1≠0:=by
 rw [qY7 h.okT q];simp
theorem Tree.up {t:List Ent} (h:Tree t) {q:ByteArray} (e:(aF t q).1≠0):par q={ data:=#[] }∨(aF t (par q)).1=1:=by
 have:aF t q≠kD:=fun e'=>e (by rw [e'];rfl)
 exact (h.each _ (qDb this)).2.2.2
theorem Tree.nil:Tree []:=⟨.nil,by simp,fun e he=>by simp at he⟩
def below (q p:ByteArray):Bool:=(p ++ stroke).data.toList.isPrefixOf q.data.toList
theorem qH1 {q p:ByteArray} (hp:p≠{ data:=#[] }):eK q p=true↔q=p∨below q p=true:=by
 unfold eK below;simp only [Bool.or_eq_true,decide_eq_true_eq];constructor
 ·rintro ((h|h)|h)
  ·exact absurd h hp
  ·exact .inl h
  ·exact .inr h
 ·rintro (h|h)
  ·exact .inl (.inr h)
  ·exact .inr h
theorem qWb:∀ {s:List UInt8} {n:Nat},s[n]?=some 47→∃ i,gG s=some i∧n≤i
|[],n,h=>by simp at h
|c :: r,0,h=>by
  simp only [List.getElem?_cons_zero,Option.some.injEq] at h;rw [gG]
  cases e:gG r with
 |none=>exact ⟨0,by simp [h],Nat.le_refl _⟩
 |some i=>exact ⟨i + 1,rfl,Nat.zero_le _⟩
|c :: r,n + 1,h=>by
  obtain ⟨i,hi,hle⟩:=qWb (s:=r) (n:=n) (by simpa using h)
  rw [gG,hi];exact ⟨i + 1,rfl,by omega⟩
theorem zLn (p:ByteArray):(p ++ stroke).data.toList=p.data.toList ++ [47]:=by
 rw [ByteArray.data_append,Array.toList_append];rfl
theorem sY {q p:ByteArray}:below q p=true↔∃ r,q.data.toList=p.data.toList ++ 47 :: r:=by
 unfold below;rw [zLn,List.isPrefixOf_iff_prefix];constructor
 ·rintro ⟨r,h⟩;exact ⟨r,by rw [← h];simp⟩
 ·rintro ⟨r,h⟩;exact ⟨r,by rw [h];simp⟩
theorem qKi (q:ByteArray):(par q).data.toList=q.data.toList.take (qA5 q):=by rw [par,extract_from_zero]
theorem oVt {a b:ByteArray} (h:a.data.toList=b.data.toList):a=b:=by
 cases a;cases b;simp only [ByteArray.mk.injEq];exact Array.toList_inj.1 h
theorem qQn {q:ByteArray} (h:par q≠{ data:=#[] }):below q (par q)=true:=by
 rw [sY,qKi];unfold qA5
 cases e:gG q.data.toList with
|none =>
  exfalso;apply h;apply oVt
  rw [qKi,qA5,e];rfl
|some i =>
  obtain ⟨h1,h2⟩:=oH e;refine ⟨q.data.toList.drop (i + 1),?_⟩;simp only [Option.getD_some]
  have h3:q.data.toList[i]=47:=by rw [List.getElem?_eq_getElem h1] at h2;exact Option.some.inj h2
  conv=>lhs;rw [← List.take_append_drop i q.data.toList,List.drop_eq_getElem_cons h1,h3]
theorem zGc {q p:ByteArray} (h:below q p=true):blt p q=true:=by
 obtain ⟨r,hr⟩:=sY.1 h;rw [blt,toList_data,toList_data,hr];exact vR _ _ (by simp)
theorem zLm {q p:ByteArray} (h:below q p=true):q≠p:=fun e=>by
 have:=zGc h
 rw [e,fP] at this;cases this
theorem qB0 {q p:ByteArray} (h:below q p=true):p.size < q.size:=by
 obtain ⟨r,hr⟩:=sY.1 h;rw [Lib.size_eq,Lib.size_eq,hr];simp
theorem qS5 {q p:ByteArray} (h:below q p=true):par q=p∨below (par q) p=true:=by
 obtain ⟨r,hr⟩:=sY.1 h
 have hn:q.data.toList[p.data.toList.length]?=some 47:=by rw [hr];simp
 obtain ⟨i,hi,hle⟩:=qWb hn
 have hp:qA5 q=i:=by unfold qA5;rw [hi];rfl
 have hl:=qKi q
 rw [hp,hr] at hl
 rcases Nat.lt_or_ge p.data.toList.length i with h'|h'
 ·right
  rw [sY,hl,List.take_append];refine ⟨r.take (i - p.data.toList.length - 1),?_⟩;rw [List.take_of_length_le (by omega)]
  congr 1
  obtain ⟨d,hd⟩:∃ d,i - p.data.toList.length=d + 1:=⟨i - p.data.toList.length - 1,by omega⟩
  rw [hd,List.take_succ_cons];simp
 ·left
  have:i=p.data.toList.length:=by omega
  subst this
  apply oVt
  rw [hl,List.take_left'];rfl
theorem qCu {q p:ByteArray} (h:below q p=true) (hp:p≠{ data:=#[] }):par q≠{ data:=#[] }:=by
 rcases qS5 h with e|e
 ·rw [e];exact hp
 ·intro h0
  have:=qB0 e
  rw [h0] at this;exact absurd this (Nat.not_lt_zero _)
theorem Tree.closed {t:List Ent} (h:Tree t) {p:ByteArray} (hp:p≠{ data:=#[] }):∀ {q:ByteArray},below q p=true→(aF t q).1≠0→(aF t p).1=1:=by
 have:∀ n (q:ByteArray),q.size≤n→below q p=true→(aF t q).1≠0→(aF t p).1=1:=by
  intro n
  induction n with
 |zero=>intro q hs hb _;have:=qB0 hb;omega
 |succ n ih =>
   intro q hs hb hq
   have hu:=(h.up hq).resolve_left (qCu hb hp)
   rcases qS5 hb with e|e
   ·rw [← e];exact hu
   ·refine ih (par q) ?_ e (by rw [hu];decide)
    have:=qB0 (qQn (qCu hb hp))
    omega
 intro q hb hq;exact this _ q (Nat.le_refl _) hb hq
theorem Tree.under {t:List Ent} (h:Tree t) {p:ByteArray} (hp:p≠{ data:=#[] }):1 < (t.filter fun e=>eK e.1 p).length↔∃ q,below q p=true∧(aF t q).1≠0:=by
 constructor
 ·intro hl
  apply Classical.byContradiction
  intro hn
  have hall:∀ e ∈ t.filter fun e=>eK e.1 p,e.1=p:=fun e he=>by
   rw [List.mem_filter] at he
   rcases (qH1 hp).1 he.2 with e1|e1
   ·exact e1
   ·exact absurd ⟨e.1,e1,by rw [zC9 h.ri he.1];exact (h.each e he.1).2.2.1⟩ hn
  have hr:rise (t.filter fun e=>eK e.1 p):=List.Pairwise.filter _ h.ri
  have h01:=kC hr (i:=0) (j:=1) (by omega) hl
  rw [hall _ (List.getElem_mem _),hall _ (List.getElem_mem _),fP] at h01
  cases h01
 ·rintro ⟨q,hb,hq⟩
  have hp1:=h.closed hp hb hq
  have m1:(p,aF t p) ∈ t.filter fun e=>eK e.1 p:=List.mem_filter.2 ⟨qDb (fun e=>by rw [e] at hp1;cases hp1),(qH1 hp).2 (.inl rfl)⟩
  have m2:(q,aF t q) ∈ t.filter fun e=>eK e.1 p:=List.mem_filter.2 ⟨qDb (fun e=>hq (by rw [e];rfl)),(qH1 hp).2 (.inr hb)⟩
  rcases hc:t.filter (fun e=>eK e.1 p) with _|⟨x,_|⟨y,r⟩⟩
  ·rw [hc] at m1;simp at m1
  ·rw [hc] at m1 m2;simp only [List.mem_cons,List.not_mem_nil,or_false] at m1 m2;rw [← m2] at m1;exact absurd (congrArg Prod.fst m1).symm (zLm hb)
  ·rw [hc];simp
theorem Tree.putI {t:List Ent} (h:Tree t) (p:ByteArray) (n:Int × ByteArray):qPi t p n=0↔pOk p 5=true∧gX n=true∧(n.1=0→(aF t p).1≠0)∧(n.1≠0→par p={ data:=#[] }∨(aF t (par p)).1=1)∧(n.1≠1→∀ q,below q p=true→(aF t q).1=0)∧(n.1≠0→(aF t p).1=0→t.length < 200):=by
 unfold qPi
 cases ok:pOk p 5 with
|false=>simp
|true =>
 have hp:p≠{ data:=#[] }:=qTv ok
 cases wh:gX n with
|false=>simp
|true =>
 rw [if_neg (by decide),if_neg (by decide)]
 have hu:=h.under hp
 have hth:=h.thr p
 have hup:zL5 t p=true↔par p={ data:=#[] }∨(aF t (par p)).1=1:=by simp [zL5]
 by_cases hk:n.1=0
 ·rw [if_pos hk];simp only [hk,true_implies,ne_eq,not_true_eq_false,false_implies,true_and,false_and,if_false]
  cases th:eF t p with
 |false =>
   rw [th] at hth;simp only [if_true];constructor
   ·intro h;cases h
   ·rintro ⟨h1,-⟩;exact absurd (hth.2 h1) (by decide)
 |true =>
   rw [th] at hth;simp only [Bool.true_eq_false,if_false]
   by_cases hl:1 < (t.filter fun e=>eK e.1 p).length
   ·rw [if_pos ⟨by decide,hl⟩]
    obtain ⟨q,hb,hq⟩:=hu.1 hl;constructor
    ·intro h;cases h
    ·rintro ⟨-,h2,-⟩;exact absurd (h2 (by decide) q hb) hq
   ·rw [if_neg fun hh=>hl hh.2]
    refine ⟨fun _=>⟨hth.1 rfl,fun _ q hb=>?_,trivial⟩,fun _=>rfl⟩
    apply Classical.byContradiction
    intro hq;exact hl (hu.2 ⟨q,hb,hq⟩)
 ·rw [if_neg hk];simp only [hk,false_implies,ne_eq,not_false_eq_true,true_implies,true_and]
  cases hup':zL5 t p with
 |false =>
   rw [hup'] at hup;simp only [if_true];constructor
   ·intro h;cases h
   ·rintro ⟨h1,-⟩;exact absurd (hup.2 h1) (by decide)
 |true =>
   rw [hup'] at hup;simp only [Bool.true_eq_false,if_false]
   have key:(¬ n.1=1∧1 < (t.filter fun e=>eK e.1 p).length)↔¬ (¬ n.1=1→∀ q,below q p=true→(aF t q).1=0):=by
    rw [hu];constructor
    ·rintro ⟨h1,q,hb,hq⟩ h2;exact hq (h2 h1 q hb)
    ·intro h2;refine ⟨fun e=>h2 fun h=>absurd e h,?_⟩
     apply Classical.byContradiction
     intro hn;exact h2 fun _ q hb=>Classical.byContradiction fun hq=>hn ⟨q,hb,hq⟩
   by_cases h12:¬ n.1=1∧1 < (t.filter fun e=>eK e.1 p).length
   ·rw [if_pos h12];constructor
    ·intro h;cases h
    ·rintro ⟨-,h2,-⟩;exact absurd h2 (key.1 h12)
   ·rw [if_neg h12]
    have h12':=Classical.byContradiction fun hn=>h12 (key.2 hn)
    by_cases h4:eF t p=false∧200≤t.length
    ·rw [if_pos h4];constructor
     ·intro h;cases h
     ·rintro ⟨-,-,h3⟩
      have:(aF t p).1=0:=Classical.byContradiction fun e=>by rw [hth.2 e] at h4;cases h4.1
      have:=h3 this
      omega
    ·rw [if_neg h4];refine ⟨fun _=>⟨hup.1 rfl,h12',fun h0=>?_⟩,fun _=>rfl⟩
     apply Classical.byContradiction
     intro hl;refine h4 ⟨?_,by omega⟩
     cases th:eF t p with
    |false=>rfl
    |true=>exact absurd h0 (hth.1 th)
theorem qUm {t:List Ent} (ri:rise t) (p:ByteArray) (n:Int × ByteArray):∃ A B,(∀ x ∈ A,blt x.1 p=true)∧(∀ y ∈ B,blt p y.1=true)∧t=A ++ ((if eF t p=true then [(p,aF t p)] else []) ++ B)∧((n.1=0→eF t p=true)→zMl t p n=A ++ ((if n.1=0 then [] else [(p,n)]) ++ B)):=by
 have tp:=iA ri p
 obtain ⟨s1,s2⟩:=tU ri p
 have pl:=qVk t p
 have hleft:∀ x ∈ t.take (bG t p),blt x.1 p=true:=fun x hx=>by
  obtain ⟨k,hk,rfl⟩:=List.getElem_of_mem hx;rw [List.length_take] at hk;rw [List.getElem_take];exact s1 k (by omega) (by omega)
 cases th:eF t p with
|true =>
  rw [th] at tp;obtain ⟨hlt,hat⟩:=of_decide_eq_true tp.symm
  have hg:=qHs ri hlt
  rw [hat] at hg;refine ⟨t.take (bG t p),t.drop (bG t p + 1),hleft,fun y hy=>?_,?_,fun _=>?_⟩
  ·obtain ⟨k,hk,rfl⟩:=List.getElem_of_mem hy;rw [List.length_drop] at hk;rw [List.getElem_drop]
   have:=kC ri (i:=bG t p) (j:=bG t p + 1 + k) (by omega) (by omega)
   rwa [hat] at this
  ·rw [if_pos rfl]
   have e:(p,aF t p)=t[bG t p]:=by rw [hg];exact Prod.ext hat.symm rfl
   rw [e,List.singleton_append,← List.drop_eq_getElem_cons hlt,List.take_append_drop]
  ·unfold zMl
   by_cases hk:n.1=0
   ·rw [if_pos hk,if_pos hk,List.nil_append,List.eraseIdx_eq_take_drop_succ]
   ·rw [if_neg hk,if_neg hk,if_pos th,List.set_eq_take_append_cons_drop,if_pos hlt,List.singleton_append]
|false =>
  refine ⟨t.take (bG t p),t.drop (bG t p),hleft,fun y hy=>?_,?_,fun h0=>?_⟩
  ·have hne:¬ y.1=p:=fun e=>by
    have:=List.any_eq_false.1 th y (List.mem_of_mem_drop hy)
    exact this (by simp [e])
   obtain ⟨k,hk,rfl⟩:=List.getElem_of_mem hy;rw [List.length_drop] at hk;rw [List.getElem_drop] at hne ⊢
   have:=s2 (bG t p + k) (by omega) (by omega)
   rcases jJ t[bG t p + k].1 p with h|h|h
   ·rw [h] at this;cases this
   ·exact absurd h hne
   ·exact h
  ·rw [if_neg (by decide),List.nil_append,List.take_append_drop]
  ·have hk:¬ n.1=0:=fun e=>by cases h0 e
   unfold zMl;rw [if_neg hk,if_neg hk,if_neg (by rw [th];decide),List.singleton_append]
theorem qNa (a b:List Ent) (q:ByteArray):aF (a ++ b) q=if eF a q=true then aF a q else aF b q:=by
 cases th:eF a q with
|true =>
  obtain ⟨e,he,hq⟩:=List.any_eq_true.1 th;rw [if_pos rfl];unfold aF
  cases e1:a.find? fun e=>decide (e.1=q) with
 |none=>exact absurd hq (List.find?_eq_none.1 e1 e he)
 |some x=>rw [List.find?_append,e1];rfl
|false =>
  rw [if_neg (by decide)]
  unfold aF
  have e1:(a.find? fun e=>decide (e.1=q))=none:=by
   rw [List.find?_eq_none];intro e he;exact List.any_eq_false.1 th e he
  rw [List.find?_append,e1];rfl
theorem qXu {A B:List Ent} {p:ByteArray} {n:Int × ByteArray} (hA:∀ x ∈ A,blt x.1 p=true) (q:ByteArray):aF (A ++ ([(p,n)] ++ B)) q=if q=p then n else aF (A ++ B) q:=by
 have hn:eF A p=false:=List.any_eq_false.2 fun e he=>by
  have:=uH (hA e he);simpa using this
 by_cases e:q=p
 ·subst e;rw [if_pos rfl,qNa,hn,if_neg (by decide),List.singleton_append,jT,if_pos rfl]
 ·rw [if_neg e,qNa A,qNa A,List.singleton_append,jT,if_neg (c:=(p,n).1=q) fun h=>e h.symm]
theorem zJ2 {A B:List Ent} {p:ByteArray} (hA:∀ x ∈ A,blt x.1 p=true) (hB:∀ y ∈ B,blt p y.1=true):aF (A ++ B) p=kD:=by
 refine sQ (List.any_eq_false.2 fun e he=>?_)
 rcases List.mem_append.1 he with he|he
 ·have:=uH (hA e he);simpa using this
 ·have:=uH (hB e he);simpa using fun e=>this e.symm
theorem Tree.put_len {t:List Ent} (h:Tree t) {p:ByteArray} {n:Int × ByteArray} (hE:qPi t p n=0):(qHd t p n).length + (if (aF t p).1=0 then 0 else 1)=t.length + (if n.1=0 then 0 else 1):=by
 obtain ⟨A,B,hA,hB,ht,hv⟩:=qUm h.ri p n
 have hE':=(h.putI p n).1 hE
 rw [qHd,if_pos hE,hv fun e=>(h.thr p).2 (hE'.2.2.1 e)]
 have hth:=h.thr p
 conv=>rhs;rw [ht]
 by_cases h1:(aF t p).1=0
 ·rw [if_pos h1,if_neg (fun e=>hth.1 e h1)]
  by_cases h2:n.1=0
  ·exact absurd h1 (hE'.2.2.1 h2)
  ·rw [if_neg h2,if_neg h2];simp;omega
 ·rw [if_neg h1,if_pos (hth.2 h1)]
  by_cases h2:n.1=0
  ·rw [if_pos h2,if_pos h2];simp;omega
  ·rw [if_neg h2,if_neg h2];simp
theorem Tree.put_get {t:List Ent} (h:Tree t) {p:ByteArray} {n:Int × ByteArray} (hE:qPi t p n=0) (q:ByteArray):aF (qHd t p n) q=if q=p then n else aF t q:=by
 obtain ⟨A,B,hA,hB,ht,hv⟩:=qUm h.ri p n
 have hE':=(h.putI p n).1 hE
 rw [qHd,if_pos hE,hv fun e=>(h.thr p).2 (hE'.2.2.1 e)]
 have hg:q≠p→aF t q=aF (A ++ B) q:=fun e=>by
  conv=>lhs;rw [ht]
  split
  ·rw [qXu hA,if_neg e]
  ·rfl
 by_cases h2:n.1=0
 ·rw [if_pos h2,List.nil_append]
  by_cases e:q=p
  ·rw [if_pos e,e,zJ2 hA hB,qY0 hE'.2.1 h2]
  ·rw [if_neg e,hg e]
 ·rw [if_neg h2,qXu hA]
  by_cases e:q=p
  ·rw [if_pos e,if_pos e]
  ·rw [if_neg e,if_neg e,hg e]
theorem Tree.put {t:List Ent} (h:Tree t) {p:ByteArray} {n:Int × ByteArray} (hE:qPi t p n=0):Tree (qHd t p n):=by
 have hg:=h.put_get hE
 have hl:=h.put_len hE
 obtain ⟨A,B,hA,hB,ht,hv⟩:=qUm h.ri p n;obtain ⟨h1,h2,h3,h4,h5,h6⟩:=(h.putI p n).1 hE
 have hT:qHd t p n=A ++ ((if n.1=0 then [] else [(p,n)]) ++ B):=by rw [qHd,if_pos hE,hv fun e=>(h.thr p).2 (h3 e)]
 have hAB:rise (A ++ B):=by
  have:=h.ri
  rw [ht] at this;refine List.Pairwise.sublist ?_ this;exact List.Sublist.append (List.Sublist.refl A) (List.sublist_append_right _ B)
 have hAt:∀ x ∈ A ++ B,x ∈ t:=fun x hx=>by
  rw [ht]
  rcases List.mem_append.1 hx with hx|hx
  ·exact List.mem_append_left _ hx
  ·exact List.mem_append_right _ (List.mem_append_right _ hx)
 have hne:∀ x ∈ A ++ B,x.1≠p:=fun x hx=>by
  rcases List.mem_append.1 hx with hx|hx
  ·exact uH (hA x hx)
  ·exact fun e=>uH (hB x hx) e.symm
 refine ⟨?_,?_,fun e he=>?_⟩
 ·rw [hT];split
  ·exact hAB
  ·exact zJa hAB hA hB
 ·by_cases a:n.1=0
  ·rw [if_pos a] at hl;have:=h.len;omega
  ·rw [if_neg a] at hl
   by_cases b:(aF t p).1=0
   ·rw [if_pos b] at hl;have:=h6 a b;omega
   ·rw [if_neg b] at hl;have:=h.len;omega
 ·have hpar:∀ x ∈ A ++ B,par x.1={ data:=#[] }∨(aF (qHd t p n) (par x.1)).1=1:=fun x hx=>by
   obtain ⟨-,-,k3,k4⟩:=h.each x (hAt x hx)
   rcases k4 with k4|k4
   ·exact .inl k4
   ·by_cases z:par x.1={ data:=#[] }
    ·exact .inl z
    ·refine .inr ?_;rw [hg]
     by_cases e:par x.1=p
     ·rw [if_pos e]
      apply Classical.byContradiction
      intro hn
      have:=h5 hn x.1 (by rw [← e];exact qQn z)
      rw [zC9 h.ri (hAt x hx)] at this;exact k3 this
     ·rw [if_neg e];exact k4
  have hrest:∀ x ∈ A ++ B,pOk x.1 5=true∧gX x.2=true∧x.2.1≠0∧(par x.1={ data:=#[] }∨(aF (qHd t p n) (par x.1)).1=1):=fun x hx=>by
   obtain ⟨k1,k2,k3,-⟩:=h.each x (hAt x hx);exact ⟨k1,k2,k3,hpar x hx⟩
  rw [hT] at he
  rcases List.mem_append.1 he with he|he
  ·exact hrest e (List.mem_append_left _ he)
  ·rcases List.mem_append.1 he with he|he
   ·split at he
    ·simp at he
    ·rename_i hk;simp only [List.mem_singleton] at he;subst he;refine ⟨h1,h2,hk,?_⟩
     rcases h4 hk with z|z
     ·exact .inl z
     ·refine .inr ?_;rw [hg]
      by_cases e:par p=p
      ·exfalso
       have:=zB0 (qTv h1)
       rw [e,fP] at this;cases this
      ·show (if par p=p then n else aF t (par p)).1=1
       rw [if_neg e];exact z
   ·exact hrest e (List.mem_append_right _ he)
end Go.Tr
