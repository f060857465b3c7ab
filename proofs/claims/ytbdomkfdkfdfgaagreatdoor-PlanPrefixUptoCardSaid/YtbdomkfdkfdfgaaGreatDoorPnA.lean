/-
  Plan: what steps make of a tree; the steps between two trees, every beginning of them: plain.
-/
import Derived.Test.YtbdomkfdkfdfgaaGreatDoorTka
set_option linter.unusedSimpArgs false
set_option linter.unusedVariables false
namespace Go.Tr
open Go Go.Lib
abbrev Act:=Int × ByteArray × (Int × ByteArray)
def doG:List Act→List Ent→List Ent × Int
|[],t=>(t,0)
|x :: r,t=>if fP t x.2.1 x.2.2=0 then doG r (iL t x.2.1 x.2.2) else ([],fP t x.2.1 x.2.2)
theorem xE {x:Act} {r:List Act} {t:List Ent} (h:fP t x.2.1 x.2.2=0):doG (x :: r) t=doG r (iL t x.2.1 x.2.2):=by rw [doG,if_pos h]
theorem qGj {x:Act} {r:List Act} {t:List Ent} (h:fP t x.2.1 x.2.2≠0):doG (x :: r) t=([],fP t x.2.1 x.2.2):=by rw [doG,if_neg h]
def qGk (now:List Ent) (e:Ent):Bool:=!decide ((aN now e.1).1=e.2.1)
def qKj (old:List Ent) (e:Ent):Bool:=!decide (aN old e.1=e.2)
def lQ (root:Int) (now l:List Ent):List Act:=(l.filter (qGk now)).map fun e=>(root,e.1,mF)
def mD (root:Int) (old l:List Ent):List Act:=(l.filter (qKj old)).map fun e=>(root,e.1,e.2)
def qB4 (root:Int) (old now:List Ent):List Act:=lQ root now old.reverse ++ mD root old now
def AllG (R:List Ent→Prop) (N:List Ent):List Act→List Ent→Prop
|[],t=>R t∧t=N
|x :: r,t=>R t∧fP t x.2.1 x.2.2=0∧AllG R N r (iL t x.2.1 x.2.2)
theorem AllG.take {R:List Ent→Prop} {N:List Ent}:∀ {l:List Act} {t:List Ent},AllG R N l t→∀ n,(doG (l.take n) t).2=0∧R (doG (l.take n) t).1
|[],t,h,n=>by rw [List.take_nil];exact ⟨rfl,h.1⟩
|x :: r,t,h,0=>⟨rfl,h.1⟩
|x :: r,t,h,n + 1=>by
  rw [List.take_succ_cons,xE h.2.1];exact h.2.2.take n
theorem AllG.last {R:List Ent→Prop} {N:List Ent}:∀ {l:List Act} {t:List Ent},AllG R N l t→doG l t=(N,0)
|[],t,h=>by rw [doG,h.2]
|x :: r,t,h=>by rw [xE h.2.1];exact h.2.2.last
theorem kE {t:List Ent} {q:ByteArray}:aU t q=true↔∃ e ∈ t,e.1=q:=by
 unfold aU;rw [List.any_eq_true];exact ⟨fun ⟨e,he,h⟩=>⟨e,he,of_decide_eq_true h⟩,fun ⟨e,he,h⟩=>⟨e,he,decide_eq_true h⟩⟩
theorem vM {t:List Ent} {q:ByteArray} (hq:aN t q≠mF):aU t q=true:=kE.2 ⟨_,qBs hq,rfl⟩
theorem qDt (e:Ent) (t:List Ent) (q:ByteArray):aU (e :: t) q=(decide (e.1=q) || aU t q):=rfl
theorem zA7 (e:Ent) (t:List Ent) (q:ByteArray):aU (t ++ [e]) q=(aU t q || decide (e.1=q)):=by unfold aU;rw [List.any_append];simp
theorem qXk {t:List Ent} (h:rise t):(t.map (·.1)).Nodup:=List.pairwise_map.2 (h.imp fun {a b} hab e=>by rw [e,fD] at hab;cases hab)
theorem zDc:∀ {l m:List ByteArray},l.Nodup→(∀ x ∈ l,x ∈ m)→l.length≤m.length
|[],_,_,_=>Nat.zero_le _
|a :: r,m,hn,h=>by
  obtain ⟨h1,h2⟩:=List.nodup_cons.1 hn
  have h3:=zDc (l:=r) (m:=m.filter fun x=>!decide (x=a)) h2 fun x hx=>List.mem_filter.2 ⟨h x (by simp [hx]),by
   rw [decide_eq_false fun e=>h1 (by rw [← e];exact hx)];rfl⟩
  have h4:(m.filter fun x=>!decide (x=a)).length < m.length:=List.length_filter_lt_length_iff_exists.2 ⟨a,h a (by simp),by rw [decide_eq_true rfl];decide⟩
  simp only [List.length_cons];omega
section
variable {old now:List Ent}
structure S1 (old now Q T:List Ent):Prop where
 tree:Tree T
 get:∀ q,aN T q=if aU Q q=true∧(aN now q).1≠(aN old q).1 then mF else aN old q
structure S2 (old now P T:List Ent):Prop where
 tree:Tree T
 get:∀ q,aN T q=if aU P q=true then aN now q else if (aN now q).1≠(aN old q).1 then mF else aN old q
structure Bt (old now T:List Ent):Prop where
 tree:Tree T
 get:∀ q,aN T q=aN old q∨aN T q=aN now q∨(aN T q=mF∧(aN old q).1≠(aN now q).1)
theorem S1.bt {Q T:List Ent} (h:S1 old now Q T):Bt old now T:=⟨h.tree,fun q=>by
 rw [h.get];split
 ·rename_i hq;exact .inr (.inr ⟨rfl,Ne.symm hq.2⟩)
 ·exact .inl rfl⟩
theorem S2.bt {P T:List Ent} (h:S2 old now P T):Bt old now T:=⟨h.tree,fun q=>by
 rw [h.get];split
 ·exact .inr (.inl rfl)
 ·split
  ·rename_i hq;exact .inr (.inr ⟨rfl,Ne.symm hq⟩)
  ·exact .inl rfl⟩
theorem zBt (ho:Tree old) (hn:Tree now) (root:Int) (rest:List Act) (hr:∀ T,S1 old now old T→AllG (Bt old now) now rest T) :
  ∀ (P Q T:List Ent),old=P.reverse ++ Q→S1 old now Q T→AllG (Bt old now) now (lQ root now P ++ rest) T
|[],Q,T,hs,h=>by
  rw [List.reverse_nil,List.nil_append] at hs;subst hs;exact hr T h
|e :: P,Q,T,hs,h=>by
  have hs2:old=P.reverse ++ (e :: Q):=by rw [hs,List.reverse_cons,List.append_assoc];rfl
  have he:e ∈ old:=by rw [hs2];simp
  have hge:=qCr ho.ri he
  have hri:=ho.ri
  rw [hs2] at hri;obtain ⟨-,r2,r3⟩:=List.pairwise_append.1 hri
  have heQ:¬ aU Q e.1=true:=fun hm=>by
   obtain ⟨x,hx,hxe⟩:=kE.1 hm
   have:=(List.pairwise_cons.1 r2).1 x hx
   rw [hxe,fD] at this;cases this
  have hTe:aN T e.1=e.2:=by rw [h.get,if_neg (fun hh=>heQ hh.1),hge]
  cases hf:qGk now e with
 |false =>
   have hd:lQ root now (e :: P)=lQ root now P:=by unfold lQ;rw [List.filter_cons_of_neg (by rw [hf];decide)]
   rw [hd];refine zBt ho hn root rest hr P (e :: Q) T hs2 ⟨h.tree,fun q=>?_⟩
   rw [h.get]
   have hk:(aN now e.1).1=e.2.1:=by simpa [qGk] using hf
   by_cases hq:q=e.1
   ·subst hq;rw [if_neg (fun hh=>heQ hh.1),if_neg (fun hh=>hh.2 (by rw [hk,hge]))]
   ·have:aU (e :: Q) q=aU Q q:=by rw [qDt,decide_eq_false (Ne.symm hq),Bool.false_or]
    rw [this]
 |true =>
   have hk:(aN now e.1).1≠e.2.1:=by simpa [qGk] using hf
   have hd:lQ root now (e :: P)=(root,e.1,mF) :: lQ root now P:=by unfold lQ;rw [List.filter_cons_of_pos hf];rfl
   rw [hd];obtain ⟨k1,k2,k3,k4⟩:=ho.each e he
   have hp:e.1≠{ data:=#[] }:=qHb k1
   have hE:fP T e.1 mF=0:=by
    refine (h.tree.putI e.1 mF).2 ⟨k1,by decide,fun _=>by rw [hTe];exact k3,fun z=>absurd rfl z,fun _ q hb=>?_,fun z=>absurd rfl z⟩
    rw [h.get]
    by_cases hq0:(aN old q).1=0
    ·split
     ·rfl
     ·exact hq0
    ·have hqo:aU old q=true:=vM fun z=>hq0 (by rw [z];rfl)
     have hbl:=qHp hb
     have hqQ:aU Q q=true:=by
      obtain ⟨x,hx,hxq⟩:=kE.1 hqo;rw [hs2] at hx
      rcases List.mem_append.1 hx with hx|hx
      ·have:=r3 x hx e (by simp)
       rw [hxq] at this;rw [kL this] at hbl;cases hbl
      ·rcases List.mem_cons.1 hx with rfl|hx
       ·rw [hxq,fD] at hbl;cases hbl
       ·exact kE.2 ⟨x,hx,hxq⟩
     have hdir:e.2.1=1:=by have:=ho.closed hp hb hq0;rwa [hge] at this
     have hnq:(aN now q).1=0:=Decidable.byContradiction fun z=>by
      have:=hn.closed hp hb z
      exact hk (by rw [this,hdir])
     rw [if_pos ⟨hqQ,by rw [hnq];exact Ne.symm hq0⟩]
     rfl
   refine ⟨h.bt,hE,?_⟩;refine zBt ho hn root rest hr P (e :: Q) _ hs2 ⟨h.tree.put hE,fun q=>?_⟩
   rw [h.tree.put_get hE]
   by_cases hq:q=e.1
   ·subst hq;rw [if_pos rfl,if_pos ⟨by rw [qDt,decide_eq_true rfl];rfl,by rw [hge];exact hk⟩]
   ·rw [if_neg hq,h.get]
    have:aU (e :: Q) q=aU Q q:=by rw [qDt,decide_eq_false (Ne.symm hq),Bool.false_or]
    rw [this]
theorem zBs (ho:Tree old) (hn:Tree now) (root:Int) :
  ∀ (Q P T:List Ent),now=P ++ Q→S2 old now P T→AllG (Bt old now) now (mD root old Q) T
|[],P,T,hs,h=>⟨h.bt,h.tree.ext hn fun q=>by
  rw [List.append_nil] at hs;subst hs;rw [h.get]
  by_cases hq:aU now q=true
  ·rw [if_pos hq]
  ·have h0:aN now q=mF:=Decidable.byContradiction fun z=>hq (vM z)
   rw [if_neg hq,h0]
   by_cases hk:mF.1≠(aN old q).1
   ·rw [if_pos hk]
   ·rw [if_neg hk];exact ho.kind0.1 (Decidable.not_not.1 hk).symm⟩
|e :: Q,P,T,hs,h=>by
  have hs2:now=(P ++ [e]) ++ Q:=by rw [hs];simp
  have he:e ∈ now:=by rw [hs];simp
  have hge:=qCr hn.ri he
  have hri:=hn.ri
  rw [hs] at hri;obtain ⟨r1,r2,r3⟩:=List.pairwise_append.1 hri
  have heP:¬ aU P e.1=true:=fun hm=>by
   obtain ⟨x,hx,hxe⟩:=kE.1 hm
   have:=r3 x hx e (by simp)
   rw [hxe,fD] at this;cases this
  have mem:∀ q,(aU (P ++ [e]) q=true)↔(aU P q=true∨q=e.1):=fun q=>by
   rw [zA7,Bool.or_eq_true,decide_eq_true_eq];exact ⟨fun z=>z.imp id Eq.symm,fun z=>z.imp id Eq.symm⟩
  cases hf:qKj old e with
 |false =>
   have hd:mD root old (e :: Q)=mD root old Q:=by unfold mD;rw [List.filter_cons_of_neg (by rw [hf];decide)]
   rw [hd]
   have hk:aN old e.1=e.2:=by simpa [qKj] using hf
   refine zBs ho hn root Q (P ++ [e]) T hs2 ⟨h.tree,fun q=>?_⟩
   rw [h.get]
   by_cases hq:q=e.1
   ·subst hq;rw [if_neg heP,if_neg (fun z=>z (by rw [hge,hk])),if_pos ((mem _).2 (.inr rfl)),hge,hk]
   ·by_cases hqP:aU P q=true
    ·rw [if_pos hqP,if_pos ((mem q).2 (.inl hqP))]
    ·rw [if_neg hqP,if_neg (fun z=>((mem q).1 z).elim hqP hq)]
 |true =>
   have hd:mD root old (e :: Q)=(root,e.1,e.2) :: mD root old Q:=by unfold mD;rw [List.filter_cons_of_pos hf];rfl
   rw [hd];obtain ⟨k1,k2,k3,k4⟩:=hn.each e he
   have hp:e.1≠{ data:=#[] }:=qHb k1
   -- what stands in T stands in the new tree
   have hin:∀ q,(aN T q).1≠0→(aN now q).1≠0:=fun q hq=>by
    rw [h.get] at hq;split at hq
    ·exact hq
    ·split at hq
     ·exact absurd rfl hq
     ·rename_i hk;rw [Decidable.not_not.1 hk];exact hq
   have hE:fP T e.1 e.2=0:=by
    refine (h.tree.putI e.1 e.2).2 ⟨k1,k2,fun z=>absurd z k3,fun _=>?_,fun hd q hb=>?_,fun _ h0=>?_⟩
    ·rcases k4 with z|z
     ·exact .inl z
     ·by_cases hz:par e.1={ data:=#[] }
      ·exact .inl hz
      ·refine .inr ?_
       have hpm:aU now (par e.1)=true:=vM fun y=>by rw [y] at z;cases z
       have hpb:=qHp (qHa hz)
       have hpP:aU P (par e.1)=true:=by
        obtain ⟨x,hx,hxq⟩:=kE.1 hpm;rw [hs] at hx
        rcases List.mem_append.1 hx with hx|hx
        ·exact kE.2 ⟨x,hx,hxq⟩
        ·rcases List.mem_cons.1 hx with rfl|hx
         ·rw [← hxq,fD] at hpb;cases hpb
         ·have:=(List.pairwise_cons.1 r2).1 x hx
          rw [hxq] at this;rw [kL this] at hpb;cases hpb
       rw [h.get,if_pos hpP,z]
    ·refine Decidable.byContradiction fun hq=>?_
     have:=hn.closed hp hb (hin q hq)
     rw [hge] at this;exact hd this
    ·have hlt:((e.1 :: T.map (·.1)):List ByteArray).length≤(now.map (·.1)).length:=by
      refine zDc (List.nodup_cons.2 ⟨fun hm=>?_,qXk h.tree.ri⟩) fun x hx=>?_
      ·obtain ⟨x,hx,hxe⟩:=List.mem_map.1 hm
       have:=qCr h.tree.ri hx
       rw [hxe] at this;rw [this] at h0;exact (h.tree.each x hx).2.2.1 h0
      ·rcases List.mem_cons.1 hx with rfl|hx
       ·exact List.mem_map.2 ⟨e,he,rfl⟩
       ·obtain ⟨y,hy,rfl⟩:=List.mem_map.1 hx
        have h1:=qCr h.tree.ri hy
        have h2:=hin y.1 (by rw [h1];exact (h.tree.each y hy).2.2.1)
        obtain ⟨x,hx,hxe⟩:=kE.1 (vM (t:=now) fun z=>h2 (by rw [z];rfl))
        exact List.mem_map.2 ⟨x,hx,hxe⟩
     rw [List.length_cons,List.length_map,List.length_map] at hlt
     have:=hn.len
     omega
   refine ⟨h.bt,hE,?_⟩;refine zBs ho hn root Q (P ++ [e]) _ hs2 ⟨h.tree.put hE,fun q=>?_⟩
   rw [h.tree.put_get hE]
   by_cases hq:q=e.1
   ·subst hq;rw [if_pos rfl,if_pos ((mem _).2 (.inr rfl)),hge]
   ·rw [if_neg hq,h.get]
    by_cases hqP:aU P q=true
    ·rw [if_pos hqP,if_pos ((mem q).2 (.inl hqP))]
    ·rw [if_neg hqP,if_neg (fun z=>((mem q).1 z).elim hqP hq)]
theorem zAs (ho:Tree old) (hn:Tree now) (root:Int):AllG (Bt old now) now (qB4 root old now) old:=by
 refine zBt ho hn root _ (fun T h=>?_) old.reverse [] old (by simp) ⟨ho,fun q=>by rw [if_neg (fun z=>by cases z.1)]⟩
 refine zBs ho hn root now [] T rfl ⟨h.tree,fun q=>?_⟩
 rw [if_neg (show ¬ aU [] q=true from fun z=>by cases z),h.get]
 by_cases hk:(aN now q).1≠(aN old q).1
 ·rw [if_pos hk]
  by_cases hq:aU old q=true
  ·rw [if_pos ⟨hq,hk⟩]
  ·rw [if_neg (fun z=>hq z.1)]
   exact Decidable.byContradiction fun z=>hq (vM z)
 ·rw [if_neg hk,if_neg (fun z=>hk z.2)]
end
end Go.Tr
