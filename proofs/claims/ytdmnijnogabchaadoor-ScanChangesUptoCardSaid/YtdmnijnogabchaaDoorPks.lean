/-
  Plain: how long a path of names is.
-/
import Derived.Test.YtdmnijnogabchaaDoorTrL
import Derived.Test.YtdmnijnogabchaaDoorOne
import Derived.Test.YtdmnijnogabchaaDoorScA
import Derived.Test.YtdmnijnogabchaaDoorTrM
import Derived.Test.YtdmnijnogabchaaDoorTrC
set_option linter.unusedSimpArgs false
set_option linter.unusedVariables false
section
set_option maxRecDepth 20000
namespace Go.Proofs.YtdmnijnogabchaaDoor
open Go Go.Eng Go.RowKit Go.Tr
end Go.Proofs.YtdmnijnogabchaaDoor
end
section
set_option maxRecDepth 20000
namespace Go.Proofs.YtdmnijnogabchaaDoor
open Go Go.Eng Go.RowKit Go.Tr
set_option maxHeartbeats 2000000 in
theorem zFz (a b:List ByteArray) (ha:a.length≤140737488355328):HFun Tryd.prog 9 [.lst false (bZ a),.lst false (bZ b)] (fun h st=>h=.v (.bool (decide (a=b)))):=by
 refine kG (N:=26) Tryd.func9 rfl Tryd.ntmps9 Tryd.results9 (by simp) ?_
 refine zE ?_;refine zJ (fun K hK=>?_);simp (disch:=omega) only [push_cast,↓iC9,simprocAttr];refine hK _ ?_;clear hK K
 by_cases hl:a.length=b.length
 ·refine zE ?_;refine zE ?_;refine zJ (fun K hK=>?_);simp (disch:=omega) only [push_cast,↓iC9,simprocAttr,aM];refine hK _ ?_;clear hK K
  refine zA ?_;refine yC rfl ?_;refine zC ?_;refine zE ?_;refine zE ?_;refine zJ (fun K hK=>?_);simp (disch:=omega) only [push_cast,↓iC9,simprocAttr];refine hK _ ?_;clear hK K
  refine zA ?_;refine zD ?_;refine gC (fun i:Nat=>⟨[(0,.lst false (bZ a)),(1,.lst false (bZ b)),(5,.v (.int .i64 i))],[]⟩) (fun i=>i≤a.length∧a.take i=b.take i) (fun i=>a.length - i) [0,1,5] [] 0 rfl ⟨Nat.zero_le _,rfl⟩ ?_
  rintro i ⟨hi,hp⟩
  by_cases hia:i < a.length
  ·have hib:i < b.length:=by omega
   refine zE ?_;refine zE ?_;refine zJ (fun K hK=>?_);simp (disch:=omega) only [push_cast,↓iC9,simprocAttr,aM];refine hK _ ?_;clear hK K
   refine zA ?_;refine yD rfl ?_;refine zC ?_;refine zE ?_
   by_cases he:a[i]=b[i]
   ·have he':decide (a[i]=b[i])=true:=decide_eq_true he
    refine zD ?_;refine zE ?_;refine HW_drw 9 mixed (by kernel_rfl) (fun K hK=>?_);simp (disch:=omega) only [push_cast,↓iC9,simprocAttr,aM,dD,jY,he']
    with_reducible refine aP ?_;simp (disch:=omega) only [push_cast,↓iC9,simprocAttr]
    refine hK _ ?_;clear hK K;refine yC rfl ?_;refine zC ?_;refine zB ?_;refine zA ?_;refine zJ (fun K hK=>?_);simp (disch:=omega) only [push_cast,↓iC9,simprocAttr];refine hK _ ?_;clear hK K
    refine zA ?_;exact ⟨i + 1,rfl,⟨hia,qLf hp hia hib he⟩,by omega⟩
   ·have he':decide (a[i]=b[i])=false:=decide_eq_false he
    refine zD ?_;refine zE ?_;refine HW_drw 9 mixed (by kernel_rfl) (fun K hK=>?_);simp (disch:=omega) only [push_cast,↓iC9,simprocAttr,aM,dD,jY,he']
    with_reducible refine aP ?_;simp (disch:=omega) only [push_cast,↓iC9,simprocAttr]
    refine hK _ ?_;clear hK K;refine yD rfl ?_;refine zE ?_;refine zJ (fun K hK=>?_);simp (disch:=omega) only [push_cast,↓iC9,simprocAttr];refine hK _ ?_;clear hK K
    refine zA ?_;refine zW ?_;refine zL ?_;refine zK ?_;refine zK ?_;refine zL ?_;refine zK ?_;simp only [yA,yM,yH,yE,aH,aT,yK,yJ,zS,zM,Nat.reduceEqDiff,reduceIte,reduceCtorEq];refine bD ?_;rw [decide_eq_false (fun e=>he (by subst e;rfl))]
  ·refine zE ?_;refine zE ?_;refine zJ (fun K hK=>?_);simp (disch:=omega) only [push_cast,↓iC9,simprocAttr,aM];refine hK _ ?_;clear hK K
   refine zA ?_;refine yC rfl ?_;refine zT ?_;refine zG ?_;refine zG ?_;refine zH ?_;refine zE ?_;refine zJ (fun K hK=>?_);simp (disch:=omega) only [push_cast,↓iC9,simprocAttr];refine hK _ ?_;clear hK K
   refine zA ?_;refine zW ?_;simp only [yA,yM,yH,yE,aH,aT,yK,yJ,zS,zM,Nat.reduceEqDiff,reduceIte,reduceCtorEq];refine bD ?_;rw [List.take_of_length_le (by omega),List.take_of_length_le (by omega)] at hp
   rw [decide_eq_true hp]
 ·refine zE ?_;refine zE ?_;refine zJ (fun K hK=>?_);simp (disch:=omega) only [push_cast,↓iC9,simprocAttr,aM];refine hK _ ?_;clear hK K
  refine zA ?_;refine yD rfl ?_;refine zE ?_;refine zJ (fun K hK=>?_);simp (disch:=omega) only [push_cast,↓iC9,simprocAttr];refine hK _ ?_;clear hK K
  refine zA ?_;refine zW ?_;refine zK ?_;simp only [yA,yM,yH,yE,aH,aT,yK,yJ,zS,zM,Nat.reduceEqDiff,reduceIte,reduceCtorEq];refine bD ?_;rw [decide_eq_false (fun e=>hl (by rw [e]))]
end Go.Proofs.YtdmnijnogabchaaDoor
end
section
namespace Go.Tr
open Go Go.Lib
set_option maxRecDepth 20000
structure Tree (t:List Ent):Prop where
 ri:rise t
 len:t.length≤200
 each:∀ e ∈ t,pOk e.1 5=true∧uH e.2=true∧e.2.1≠0∧(par e.1={ data:=#[] }∨(eR t (par e.1)).1=1)
theorem qEf (t:List Ent):sK t=0↔Tree t:=by
 constructor
 ·intro h;obtain ⟨hl,ok⟩:=qPp h;refine ⟨mC ok,hl,fun e he=>?_⟩
  obtain ⟨i,hi,rfl⟩:=List.getElem_of_mem he
  have:=jP.1 ok i hi
  simp only [tL,qK1,zAt,Bool.and_eq_true,Bool.not_eq_true',decide_eq_false_iff_not,Bool.or_eq_true,decide_eq_true_eq] at this;rw [mU hi] at this;exact ⟨this.1.1,this.1.2.1,this.1.2.2.1,this.2⟩
 ·intro h;unfold sK;rw [if_neg (by have:=h.len;omega)]
  have:okR t=true:=jP.2 fun i hi=>by
   obtain ⟨h1,h2,h3,h4⟩:=h.each _ (List.getElem_mem hi);simp only [tL,qK1,zAt,Bool.and_eq_true,Bool.not_eq_true',decide_eq_false_iff_not,Bool.or_eq_true,decide_eq_true_eq];rw [mU hi];refine ⟨⟨h1,h2,h3,?_⟩,h4⟩
   rcases Nat.eq_zero_or_pos i with h|h0
   ·exact .inl h
   ·refine .inr ?_;rw [mU (by omega)]
    exact zCf h.ri (by omega) hi
  rw [this];rfl
theorem Tree.knd {t:List Ent} (h:Tree t):kinds t:=fun e he e0=>(h.each e he).2.2.1 (by rw [e0];rfl)
theorem Tree.okT {t:List Ent} (h:Tree t):okR t=true:=(qPp ((qEf t).2 h)).2
theorem Tree.ext {a b:List Ent} (ha:Tree a) (hb:Tree b) (h:∀ q,eR a q=eR b q):a=b:=by
 refine qKk a b (List.eq_nil_iff_forall_not_mem.2 fun p hp=>?_)
 exact (lR p a b ha.ri hb.ri ha.knd hb.knd).1 hp (h p)
theorem qUq {t:List Ent} {q:ByteArray} (h:eR t q≠xS):(q,eR t q) ∈ t:=by
 unfold eR at h ⊢
 cases e:t.find? fun e=>decide (e.1=q) with
|none=>rw [e] at h;exact absurd rfl h
|some x =>
  have h1:=List.mem_of_find?_eq_some e
  have h2:=List.find?_some e
  simp only [decide_eq_true_eq] at h2;show (q,x.2) ∈ t
  rw [← h2];exact h1
theorem Tree.whole {t:List Ent} (h:Tree t) (q:ByteArray):uH (eR t q)=true:=by
 by_cases e:eR t q=xS
 ·rw [e];decide
 ·exact (h.each _ (qUq e)).2.1
theorem Tree.up {t:List Ent} (h:Tree t) {q:ByteArray} (e:(eR t q).1≠0):par q={ data:=#[] }∨(eR t (par q)).1=1:=by
 have:eR t q≠xS:=fun e'=>e (by rw [e'];rfl)
 exact (h.each _ (qUq this)).2.2.2
theorem Tree.nil:Tree []:=⟨.nil,by simp,fun e he=>by simp at he⟩
end Go.Tr
end
section
namespace Go.Tr
open Go
theorem zFd:∀ (l:List UInt8),l.length + 1=((iE l).map fun x=>x.length + 1).sum
|[]=>by decide
|c :: r=>by
  have ih:=zFd r
  by_cases e:c=47
  ·subst e;rw [kK,List.map_cons,List.sum_cons,← ih];simp;omega
  ·cases hc:iE r with
  |nil=>exact absurd hc (tF r)
  |cons x t =>
    rw [jM e hc];rw [hc] at ih;simp only [List.map_cons,List.sum_cons,List.length_cons] at ih ⊢;omega
theorem qXv {m:Nat}:∀ {l:List Nat},(∀ x ∈ l,x≤m)→l.sum≤l.length * m
|[],_=>by simp
|a :: l,h=>by
  have h1:=h a (by simp)
  have h2:=qXv (m:=m) (l:=l) fun x hx=>h x (by simp [hx])
  rw [List.sum_cons,List.length_cons,Nat.add_mul];omega
theorem zGe {p:ByteArray} {d:Nat} (h:pOk p d=true):p.size≤d * 13:=by
 simp only [pOk,Bool.and_eq_true,decide_eq_true_eq] at h;obtain ⟨h1,h2⟩:=h
 have hs:=zFd p.data.toList
 have hle:=qXv (l:=(iE p.data.toList).map fun x=>x.length + 1) (m:=13) fun x hx=>by
  obtain ⟨y,hy,rfl⟩:=List.mem_map.1 hx
  have:=List.all_eq_true.1 h2 (mkB y) (List.mem_map.2 ⟨y,hy,rfl⟩)
  simp only [dG,Bool.and_eq_true,decide_eq_true_eq] at this
  have hz:(mkB y).size=y.length:=by simp [mkB,ByteArray.size]
  omega
 rw [← hs,List.length_map] at hle
 have hl:(parts p).length=(iE p.data.toList).length:=by simp [parts]
 rw [Lib.size_eq]
 have:(iE p.data.toList).length * 13≤d * 13:=Nat.mul_le_mul_right _ (by omega)
 omega
end Go.Tr
end
