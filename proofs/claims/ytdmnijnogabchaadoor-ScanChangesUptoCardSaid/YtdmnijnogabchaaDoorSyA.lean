/-
  The law ScanChanges: the walk.
-/
import Derived.Test.YtdmnijnogabchaaDoorSyZ
import Derived.Test.YtdmnijnogabchaaDoorScA
import Derived.Test.YtdmnijnogabchaaDoorTrV
import Derived.Test.YtdmnijnogabchaaDoorTrM
import Derived.Test.YtdmnijnogabchaaDoorPks
set_option linter.unusedSimpArgs false
set_option linter.unusedVariables false
set_option maxRecDepth 20000
namespace Go.Proofs.YtdmnijnogabchaaDoor
open Go Go.Eng Go.RowKit Go.Maps Go.Tr Go.Dk Go.Sw
theorem qPq (a b:List Ent) (hl:a.length + b.length≤2097152):HFun Tryd.prog 6 [.lst false (cX a),.lst false (cX b)] (fun h st=>h=.own 0∧st=[(0,.sl true 9 1 (bZ (cF a b)))]):=by
 refine kG (N:=8) Tryd.func6 rfl Tryd.ntmps6 Tryd.results6 (by simp) ?_
 refine zE ?_;refine zJ (fun K hK=>?_);simp (disch:=omega) only [push_cast,↓iC9,simprocAttr];refine hK _ ?_;clear hK K
 refine zE ?_;refine zJ (fun K hK=>?_);simp (disch:=omega) only [push_cast,↓iC9,simprocAttr]
 refine hat 56 zMs (zJi a b hl) (.cons (cZ (yT _)) (.cons (cZ (yT _)) .nil)) ?_;rintro _ _ ⟨rfl,rfl⟩;with_reducible refine aP ?_;simp (disch:=omega) only [push_cast,↓iC9,simprocAttr]
 refine hK _ ?_;clear hK K;refine zA ?_;refine zW ?_;simp only [yA,yM,yH,yE,aH,aT,yK,yJ,zS,zM,Nat.reduceEqDiff,reduceIte,reduceCtorEq];exact qW0 rfl (lU _) ⟨rfl,rfl⟩
set_option maxHeartbeats 32000000 in
theorem qK0 (a b:List Ent) (p:ByteArray) (hal:a.length≤1048576) (hbl:b.length≤1048576) (has:∀ e ∈ a,e.1.size≤1048576) (hbs:∀ e ∈ b,e.1.size≤1048576):HFun Tryd.prog 3 [.lst false (cX a),.lst false (cX b),.v (.string p)] (fun h st=>h=.v (.bool true)):=by
 refine kG (N:=88) Tryd.func3 rfl Tryd.ntmps3 Tryd.results3 (by simp) ?_
 have ca:=qSc a (by omega) has
 have cb:=qSc b (by omega) hbs
 refine zE ?_;refine zJ (fun K hK=>?_);simp (disch:=omega) only [push_cast,↓iC9,simprocAttr];refine hK _ ?_;clear hK K
 cases hA:decide (sK a=0) with
|false =>
  refine zE ?_;refine zE ?_;refine zJ (fun K hK=>?_);simp (disch:=omega) only [push_cast,↓iC9,simprocAttr]
  refine cU cl4 qZ .nil ?_;with_reducible refine aP ?_;simp (disch:=omega) only [push_cast,↓iC9,simprocAttr,hA]
  refine cU cl5 ca (.cons (cZ (yT _)) .nil) ?_;with_reducible refine aP ?_;simp (disch:=omega) only [push_cast,↓iC9,simprocAttr,hA]
  refine hK _ ?_;clear hK K;refine zA ?_;refine yD rfl ?_;refine zE ?_;refine zJ (fun K hK=>?_);simp (disch:=omega) only [push_cast,↓iC9,simprocAttr]
  refine cU cl4 qZ .nil ?_;with_reducible refine aP ?_;simp (disch:=omega) only [push_cast,↓iC9,simprocAttr]
  refine hK _ ?_;clear hK K;refine zA ?_;refine zW ?_;refine zK ?_;simp only [yA,yM,yH,yE,aH,aT,yK,yJ,zS,zM,Nat.reduceEqDiff,reduceIte,reduceCtorEq];exact bD rfl
|true =>
 cases hB:decide (sK b=0) with
|false =>
  refine zE ?_;refine zE ?_;refine zJ (fun K hK=>?_);simp (disch:=omega) only [push_cast,↓iC9,simprocAttr]
  refine cU cl4 qZ .nil ?_;with_reducible refine aP ?_;simp (disch:=omega) only [push_cast,↓iC9,simprocAttr,hA]
  refine cU cl5 ca (.cons (cZ (yT _)) .nil) ?_;with_reducible refine aP ?_;simp (disch:=omega) only [push_cast,↓iC9,simprocAttr,hA,hB]
  refine cU cl5 cb (.cons (cZ (yT _)) .nil) ?_;with_reducible refine aP ?_;simp (disch:=omega) only [push_cast,↓iC9,simprocAttr,hA,hB]
  refine hK _ ?_;clear hK K;refine zA ?_;refine yD rfl ?_;refine zE ?_;refine zJ (fun K hK=>?_);simp (disch:=omega) only [push_cast,↓iC9,simprocAttr]
  refine cU cl4 qZ .nil ?_;with_reducible refine aP ?_;simp (disch:=omega) only [push_cast,↓iC9,simprocAttr]
  refine hK _ ?_;clear hK K;refine zA ?_;refine zW ?_;refine zK ?_;simp only [yA,yM,yH,yE,aH,aT,yK,yJ,zS,zM,Nat.reduceEqDiff,reduceIte,reduceCtorEq];exact bD rfl
|true =>
 refine zE ?_;refine zE ?_;refine zJ (fun K hK=>?_);simp (disch:=omega) only [push_cast,↓iC9,simprocAttr]
 refine cU cl4 qZ .nil ?_;with_reducible refine aP ?_;simp (disch:=omega) only [push_cast,↓iC9,simprocAttr,hA]
 refine cU cl5 ca (.cons (cZ (yT _)) .nil) ?_;with_reducible refine aP ?_;simp (disch:=omega) only [push_cast,↓iC9,simprocAttr,hA,hB]
 refine cU cl5 cb (.cons (cZ (yT _)) .nil) ?_;with_reducible refine aP ?_;simp (disch:=omega) only [push_cast,↓iC9,simprocAttr,hA,hB]
 refine hK _ ?_;clear hK K;refine zA ?_;refine yC rfl ?_;refine zC ?_;refine zE ?_
 have ha:Tree a:=(qEf a).1 (of_decide_eq_true hA)
 have hb:Tree b:=(qEf b).1 (of_decide_eq_true hB)
 clear hA hB ca cb has hbs
 have hla:=ha.len
 have hlb:=hb.len
 refine yB [0,1,2] [] (by simp only [zZ,zR,zP,zQ,zN,zS,zM,zX,zU,Nat.reduceEqDiff,reduceIte];exact rfl) ?_
 have cd:=qPq a b (by omega)
 have cd2:=qPq b a (by omega)
 rw [zE6 hb.ri ha.ri hb.knd ha.knd] at cd2
 have hpk:=zE7 ha.okT hb.okT
 have hri:=wE a b ha.ri hb.ri
 have hin:=zGt ha.okT hb.okT p
 have hnil:=zE8 ha.okT hb.okT
 have hlen:(cF a b).length≤1048576:=by have:=zBn a b;omega
 have hsz:∀ q ∈ cF a b,q.size≤1048576:=fun q hq=>Nat.le_trans (zGe (hpk q hq)) (by decide)
 obtain ⟨l,hl⟩:∃ l,cF a b=l:=⟨_,rfl⟩;rw [hl] at cd cd2 hpk hri hin hnil hlen hsz;refine zJ (fun K hK=>?_);simp (disch:=omega) only [push_cast,↓iC9,simprocAttr]
 refine hat 200 cl6 cd (.cons (cZ (yT _)) (.cons (cZ (yT _)) .nil)) ?_;rintro _ _ ⟨rfl,rfl⟩;with_reducible refine aP ?_;simp (disch:=omega) only [push_cast,↓iC9,simprocAttr]
 refine hK _ ?_;clear hK K;refine yB [0,1,2,7] [200] (by simp only [zZ,zR,zP,zQ,zN,zS,zM,zX,zU,Nat.reduceEqDiff,reduceIte];exact rfl) ?_
 refine zE ?_;refine zJ (fun K hK=>?_);simp (disch:=omega) only [push_cast,↓iC9,simprocAttr];refine hK _ ?_;clear hK K
 refine zE ?_;refine zE ?_;refine zJ (fun K hK=>?_);simp (disch:=omega) only [push_cast,↓iC9,simprocAttr];refine hK _ ?_;clear hK K
 refine zA ?_;refine zD ?_;refine gC (fun i:Nat=>⟨[(0,.lst false (cX a)),(1,.lst false (cX b)),(2,.v (.string p)),(7,.own 200),(8,.v (.bool ((l.take i).any fun q=>decide (q=p)))),(9,.v (.int .i64 i))],[(200,.sl true 9 1 (bZ l))]⟩) (fun i=>i≤l.length) (fun i=>l.length - i) [0,1,2,7,8,9] [200] 0 rfl (Nat.zero_le _) ?_
 intro i hi
 by_cases hil:i < l.length
 ·have hta:(l.take (i + 1)).any (fun q=>decide (q=p))=((l.take i).any (fun q=>decide (q=p)) || decide (l[i]=p)):=by
   rw [List.take_succ_eq_append_getElem hil,List.any_append];simp
  have hpi:=hpk _ (List.getElem_mem hil)
  have hzi:=hsz _ (List.getElem_mem hil)
  have cpk:HFun Tryd.prog 7 [.v (.string l[i]),.v (.int .i64 5)] (fun h st=>h=.v (.int .i64 (okN (pOk l[i] 5)))):=qLs l[i] 5 hzi (by omega)
  rw [hpi,zHg] at cpk
  have hge:∀ x,(bZ l).getD i x=[.v (.string l[i])]:=fun x=>jY hil
  generalize (l.take i).any (fun q=>decide (q=p))=c at *
  refine zE ?_;refine zE ?_;refine zJ (fun K hK=>?_);simp (disch:=omega) only [push_cast,↓iC9,simprocAttr,aM];refine hK _ ?_;clear hK K
  refine zA ?_;refine yD rfl ?_;refine zC ?_;refine zE ?_
  cases c with
 |true =>
   rw [Bool.true_or] at hta;refine zD ?_;refine zE ?_;refine zJ (fun K hK=>?_);simp (disch:=omega) only [push_cast,↓iC9,simprocAttr,aM,dD,hge];refine hK _ ?_;clear hK K
   rcases Nat.eq_zero_or_pos i with h0|h0
   ·subst h0;refine zE ?_;refine qAq 22 mixed (by kernel_rfl) (fun K hK K1 hK1=>?_);simp (disch:=omega) only [push_cast,↓iC9,simprocAttr,aM,dD,hge]
    refine qDe cl7 cpk (.cons (.v _) (.cons (.v _) .nil)) ?_;with_reducible refine aP ?_;simp (disch:=omega) only [push_cast,↓iC9,simprocAttr,aM,dD,hge]
    refine hK1 _ ?_;(try clear hK1 K1);with_reducible refine aP ?_;simp (disch:=omega) only [push_cast,↓iC9,simprocAttr]
    refine hK _ ?_;clear hK K;refine zA ?_;refine yC rfl ?_;refine zC ?_;refine zB ?_;refine zA ?_;refine zJ (fun K hK=>?_);simp (disch:=omega) only [push_cast,↓iC9,simprocAttr];refine hK _ ?_;clear hK K
    refine zA ?_;exact ⟨_,by simp only [zZ,zR,zP,zQ,zN,zS,zM,zX,zU,Nat.reduceEqDiff,reduceIte];rw [hta];rfl,hil,by omega⟩
   ·obtain ⟨k,rfl⟩:∃ k,i=k + 1:=⟨i - 1,by omega⟩
    have wm:((k:Int) + 1 - 1).toNat=k:=by omega
    have hp0:decide ((0:Int) < ((k + 1:Nat):Int))=true:=decide_eq_true (by omega)
    have hgk:∀ x,(bZ l).getD k x=[.v (.string l[k])]:=fun x=>jY (by omega)
    have hlt:Op.bytesLess l[k].toList l[k+1].toList=true:=List.pairwise_iff_getElem.1 hri k (k + 1) (by omega) hil (by omega)
    refine zE ?_;refine qAq 22 mixed (by kernel_rfl) (fun K hK K1 hK1=>?_);simp (disch:=omega) only [push_cast,↓iC9,simprocAttr,aM,dD,hge,wm,hp0,hgk]
    refine qDe cl7 cpk (.cons (.v _) (.cons (.v _) .nil)) ?_;with_reducible refine aP ?_;simp (disch:=omega) only [push_cast,↓iC9,simprocAttr,aM,dD,hge,wm,hp0,hgk]
    refine hK1 _ ?_;(try clear hK1 K1);with_reducible refine aP ?_;simp (disch:=omega) only [push_cast,↓iC9,simprocAttr,hlt]
    refine hK _ ?_;clear hK K;refine zA ?_;refine yC rfl ?_;refine zC ?_;refine zB ?_;refine zA ?_;refine zJ (fun K hK=>?_);simp (disch:=omega) only [push_cast,↓iC9,simprocAttr];refine hK _ ?_;clear hK K
    refine zA ?_;exact ⟨k + 1 + 1,by simp only [zZ,zR,zP,zQ,zN,zS,zM,zX,zU,Nat.reduceEqDiff,reduceIte];rw [hta];rfl,hil,by omega⟩
 |false =>
   rw [Bool.false_or] at hta;refine zD ?_;refine zE ?_;refine zJ (fun K hK=>?_);simp (disch:=omega) only [push_cast,↓iC9,simprocAttr,aM,dD,hge];refine hK _ ?_;clear hK K
   rcases Nat.eq_zero_or_pos i with h0|h0
   ·subst h0;refine zE ?_;refine qAq 22 mixed (by kernel_rfl) (fun K hK K1 hK1=>?_);simp (disch:=omega) only [push_cast,↓iC9,simprocAttr,aM,dD,hge]
    refine qDe cl7 cpk (.cons (.v _) (.cons (.v _) .nil)) ?_;with_reducible refine aP ?_;simp (disch:=omega) only [push_cast,↓iC9,simprocAttr,aM,dD,hge]
    refine hK1 _ ?_;(try clear hK1 K1);with_reducible refine aP ?_;simp (disch:=omega) only [push_cast,↓iC9,simprocAttr]
    refine hK _ ?_;clear hK K;refine zA ?_;refine yC rfl ?_;refine zC ?_;refine zB ?_;refine zA ?_;refine zJ (fun K hK=>?_);simp (disch:=omega) only [push_cast,↓iC9,simprocAttr];refine hK _ ?_;clear hK K
    refine zA ?_;exact ⟨_,by simp only [zZ,zR,zP,zQ,zN,zS,zM,zX,zU,Nat.reduceEqDiff,reduceIte];rw [hta];rfl,hil,by omega⟩
   ·obtain ⟨k,rfl⟩:∃ k,i=k + 1:=⟨i - 1,by omega⟩
    have wm:((k:Int) + 1 - 1).toNat=k:=by omega
    have hp0:decide ((0:Int) < ((k + 1:Nat):Int))=true:=decide_eq_true (by omega)
    have hgk:∀ x,(bZ l).getD k x=[.v (.string l[k])]:=fun x=>jY (by omega)
    have hlt:Op.bytesLess l[k].toList l[k+1].toList=true:=List.pairwise_iff_getElem.1 hri k (k + 1) (by omega) hil (by omega)
    refine zE ?_;refine qAq 22 mixed (by kernel_rfl) (fun K hK K1 hK1=>?_);simp (disch:=omega) only [push_cast,↓iC9,simprocAttr,aM,dD,hge,wm,hp0,hgk]
    refine qDe cl7 cpk (.cons (.v _) (.cons (.v _) .nil)) ?_;with_reducible refine aP ?_;simp (disch:=omega) only [push_cast,↓iC9,simprocAttr,aM,dD,hge,wm,hp0,hgk]
    refine hK1 _ ?_;(try clear hK1 K1);with_reducible refine aP ?_;simp (disch:=omega) only [push_cast,↓iC9,simprocAttr,hlt]
    refine hK _ ?_;clear hK K;refine zA ?_;refine yC rfl ?_;refine zC ?_;refine zB ?_;refine zA ?_;refine zJ (fun K hK=>?_);simp (disch:=omega) only [push_cast,↓iC9,simprocAttr];refine hK _ ?_;clear hK K
    refine zA ?_;exact ⟨k + 1 + 1,by simp only [zZ,zR,zP,zQ,zN,zS,zM,zX,zU,Nat.reduceEqDiff,reduceIte];rw [hta];rfl,hil,by omega⟩
 ·have hie:i=l.length:=by omega
  rw [hie,List.take_length,hin]
  have cga:=qV7 a p (by omega)
  have cgb:=qV7 b p (by omega)
  have css:=zFz l l (by omega)
  rw [decide_eq_true (rfl:l=l)] at css
  have csm:=zF5 a b (by omega)
  refine zE ?_;refine zE ?_;refine zJ (fun K hK=>?_);simp (disch:=omega) only [push_cast,↓iC9,simprocAttr,aM];refine hK _ ?_;clear hK K
  refine zA ?_;refine yC rfl ?_;refine zT ?_;refine zG ?_;refine zG ?_;refine zH ?_;refine zE ?_;obtain ⟨m,hm⟩:∃ m,eR a p=m:=⟨_,rfl⟩;obtain ⟨n,hn⟩:∃ n,eR b p=n:=⟨_,rfl⟩;rw [hm] at cga ⊢;rw [hn] at cgb ⊢;obtain ⟨km,dm⟩:=m;obtain ⟨kn,dn⟩:=n
  have hnn:decide ((km,dm)=(kn,dn))=decide (km=kn∧dm=dn):=by rw [decide_eq_decide];simp
  rw [hnn]
  cases hc0:decide (km=kn∧dm=dn) with
 |true =>
   cases hab:decide (a=b) with
  |true =>
    rw [hab] at csm hnil
    have hz:decide ((l.length:Int)=0)=true:=by rw [← hnil,decide_eq_decide];omega
    refine zJ (fun K hK=>?_);simp (disch:=omega) only [push_cast,↓iC9,simprocAttr,aM,hc0]
    refine hat 528 cl8 cga (.cons (cZ (yT _)) (.cons (.v _) .nil)) ?_;rintro _ _ ⟨rfl,rfl⟩;with_reducible refine aP ?_;simp (disch:=omega) only [push_cast,↓iC9,simprocAttr,aM,hc0]
    refine hat 552 cl8 cgb (.cons (cZ (yT _)) (.cons (.v _) .nil)) ?_;rintro _ _ ⟨rfl,rfl⟩;with_reducible refine aP ?_;simp (disch:=omega) only [push_cast,↓iC9,simprocAttr,aM,hc0]
    refine ⟨_,eqN _ _ _ _,?_⟩;with_reducible refine aP ?_;simp (disch:=omega) only [push_cast,↓iC9,simprocAttr,aM,hc0]
    refine hat 608 cl6 cd2 (.cons (cZ (yT _)) (.cons (cZ (yT _)) .nil)) ?_;rintro _ _ ⟨rfl,rfl⟩;with_reducible refine aP ?_;simp (disch:=omega) only [push_cast,↓iC9,simprocAttr,aM,hc0]
    refine cU cl9 css (.cons (qC7 (jX _) rfl) (.cons (qC7 (jX _) rfl) .nil)) ?_;with_reducible refine aP ?_;simp (disch:=omega) only [push_cast,↓iC9,simprocAttr,aM,hz]
    refine cU zGw csm (.cons (cZ (yT _)) (.cons (cZ (yT _)) .nil)) ?_;with_reducible refine aP ?_;simp (disch:=omega) only [push_cast,↓iC9,simprocAttr,aM,hz]
    refine hK _ ?_;clear hK K;refine zA ?_;refine zW ?_;simp only [yA,yM,yH,yE,aH,aT,yK,yJ,zS,zM,Nat.reduceEqDiff,reduceIte,reduceCtorEq];exact bD rfl
  |false =>
    rw [hab] at csm hnil
    have hz:decide ((l.length:Int)=0)=false:=by rw [← hnil,decide_eq_decide];omega
    refine zJ (fun K hK=>?_);simp (disch:=omega) only [push_cast,↓iC9,simprocAttr,aM,hc0]
    refine hat 528 cl8 cga (.cons (cZ (yT _)) (.cons (.v _) .nil)) ?_;rintro _ _ ⟨rfl,rfl⟩;with_reducible refine aP ?_;simp (disch:=omega) only [push_cast,↓iC9,simprocAttr,aM,hc0]
    refine hat 552 cl8 cgb (.cons (cZ (yT _)) (.cons (.v _) .nil)) ?_;rintro _ _ ⟨rfl,rfl⟩;with_reducible refine aP ?_;simp (disch:=omega) only [push_cast,↓iC9,simprocAttr,aM,hc0]
    refine ⟨_,eqN _ _ _ _,?_⟩;with_reducible refine aP ?_;simp (disch:=omega) only [push_cast,↓iC9,simprocAttr,aM,hc0]
    refine hat 608 cl6 cd2 (.cons (cZ (yT _)) (.cons (cZ (yT _)) .nil)) ?_;rintro _ _ ⟨rfl,rfl⟩;with_reducible refine aP ?_;simp (disch:=omega) only [push_cast,↓iC9,simprocAttr,aM,hc0]
    refine cU cl9 css (.cons (qC7 (jX _) rfl) (.cons (qC7 (jX _) rfl) .nil)) ?_;with_reducible refine aP ?_;simp (disch:=omega) only [push_cast,↓iC9,simprocAttr,aM,hz]
    refine cU zGw csm (.cons (cZ (yT _)) (.cons (cZ (yT _)) .nil)) ?_;with_reducible refine aP ?_;simp (disch:=omega) only [push_cast,↓iC9,simprocAttr,aM,hz]
    refine hK _ ?_;clear hK K;refine zA ?_;refine zW ?_;simp only [yA,yM,yH,yE,aH,aT,yK,yJ,zS,zM,Nat.reduceEqDiff,reduceIte,reduceCtorEq];exact bD rfl
 |false =>
   cases hab:decide (a=b) with
  |true =>
    rw [hab] at csm hnil
    have hz:decide ((l.length:Int)=0)=true:=by rw [← hnil,decide_eq_decide];omega
    refine zJ (fun K hK=>?_);simp (disch:=omega) only [push_cast,↓iC9,simprocAttr,aM,hc0]
    refine hat 528 cl8 cga (.cons (cZ (yT _)) (.cons (.v _) .nil)) ?_;rintro _ _ ⟨rfl,rfl⟩;with_reducible refine aP ?_;simp (disch:=omega) only [push_cast,↓iC9,simprocAttr,aM,hc0]
    refine hat 552 cl8 cgb (.cons (cZ (yT _)) (.cons (.v _) .nil)) ?_;rintro _ _ ⟨rfl,rfl⟩;with_reducible refine aP ?_;simp (disch:=omega) only [push_cast,↓iC9,simprocAttr,aM,hc0]
    refine ⟨_,eqN _ _ _ _,?_⟩;with_reducible refine aP ?_;simp (disch:=omega) only [push_cast,↓iC9,simprocAttr,aM,hc0]
    refine hat 608 cl6 cd2 (.cons (cZ (yT _)) (.cons (cZ (yT _)) .nil)) ?_;rintro _ _ ⟨rfl,rfl⟩;with_reducible refine aP ?_;simp (disch:=omega) only [push_cast,↓iC9,simprocAttr,aM,hc0]
    refine cU cl9 css (.cons (qC7 (jX _) rfl) (.cons (qC7 (jX _) rfl) .nil)) ?_;with_reducible refine aP ?_;simp (disch:=omega) only [push_cast,↓iC9,simprocAttr,aM,hz]
    refine cU zGw csm (.cons (cZ (yT _)) (.cons (cZ (yT _)) .nil)) ?_;with_reducible refine aP ?_;simp (disch:=omega) only [push_cast,↓iC9,simprocAttr,aM,hz]
    refine hK _ ?_;clear hK K;refine zA ?_;refine zW ?_;simp only [yA,yM,yH,yE,aH,aT,yK,yJ,zS,zM,Nat.reduceEqDiff,reduceIte,reduceCtorEq];exact bD rfl
  |false =>
    rw [hab] at csm hnil
    have hz:decide ((l.length:Int)=0)=false:=by rw [← hnil,decide_eq_decide];omega
    refine zJ (fun K hK=>?_);simp (disch:=omega) only [push_cast,↓iC9,simprocAttr,aM,hc0]
    refine hat 528 cl8 cga (.cons (cZ (yT _)) (.cons (.v _) .nil)) ?_;rintro _ _ ⟨rfl,rfl⟩;with_reducible refine aP ?_;simp (disch:=omega) only [push_cast,↓iC9,simprocAttr,aM,hc0]
    refine hat 552 cl8 cgb (.cons (cZ (yT _)) (.cons (.v _) .nil)) ?_;rintro _ _ ⟨rfl,rfl⟩;with_reducible refine aP ?_;simp (disch:=omega) only [push_cast,↓iC9,simprocAttr,aM,hc0]
    refine ⟨_,eqN _ _ _ _,?_⟩;with_reducible refine aP ?_;simp (disch:=omega) only [push_cast,↓iC9,simprocAttr,aM,hc0]
    refine hat 608 cl6 cd2 (.cons (cZ (yT _)) (.cons (cZ (yT _)) .nil)) ?_;rintro _ _ ⟨rfl,rfl⟩;with_reducible refine aP ?_;simp (disch:=omega) only [push_cast,↓iC9,simprocAttr,aM,hc0]
    refine cU cl9 css (.cons (qC7 (jX _) rfl) (.cons (qC7 (jX _) rfl) .nil)) ?_;with_reducible refine aP ?_;simp (disch:=omega) only [push_cast,↓iC9,simprocAttr,aM,hz]
    refine cU zGw csm (.cons (cZ (yT _)) (.cons (cZ (yT _)) .nil)) ?_;with_reducible refine aP ?_;simp (disch:=omega) only [push_cast,↓iC9,simprocAttr,aM,hz]
    refine hK _ ?_;clear hK K;refine zA ?_;refine zW ?_;simp only [yA,yM,yH,yE,aH,aT,yK,yJ,zS,zM,Nat.reduceEqDiff,reduceIte,reduceCtorEq];exact bD rfl
end Go.Proofs.YtdmnijnogabchaaDoor
