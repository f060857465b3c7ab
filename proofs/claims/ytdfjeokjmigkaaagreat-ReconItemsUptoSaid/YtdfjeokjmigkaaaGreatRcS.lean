/-
  Recon: every difference is settled once: plain.
-/
import Derived.Test.YtdfjeokjmigkaaaGreatDiffD
import Derived.Test.YtdfjeokjmigkaaaGreatTsR
import Derived.Test.YtdfjeokjmigkaaaGreatApd
set_option linter.unusedSimpArgs false
set_option linter.unusedVariables false
section
set_option maxRecDepth 20000
namespace Go.Rc
open Go Go.Eng Go.RowKit Go.Tr Go.Dk
theorem qGv:∀ (l:List UInt8),∃ r,nE l=l.take (oX l) :: r:=by
 intro l
 induction l with
|nil=>exact ⟨[],rfl⟩
|cons c r ih =>
  obtain ⟨q,hq⟩:=ih
  by_cases hc:c=47
  ·subst hc;exact ⟨nE r,by simp [nE,oX]⟩
  ·exact ⟨q,by simp [nE,oX,hc,hq]⟩
theorem qKk {p:ByteArray} {d:Int} (h:pOk p d=true):jZ (vol p)=true:=by
 obtain ⟨r,hr⟩:=qGv p.data.toList
 have hp:parts p=vol p :: r.map mkB:=by
  rw [parts,hr,List.map_cons]
  congr 1
  exact jF (by rw [qFi];rfl)
 unfold pOk at h;rw [hp,List.all_cons] at h;simp only [Bool.and_eq_true] at h;exact h.2.1
theorem qDp {p:ByteArray} {d:Int} (h:pOk p d=true):∀ r,p.data.toList≠47 :: r:=by
 intro r hr
 have h1:=qKk h
 have h2:(vol p).size=0:=by rw [Lib.size_eq,qFi,hr];simp [oX]
 unfold jZ at h1;rw [h2] at h1;simp at h1
theorem TB.sub {t:List Ent} (h:TB t) (p:ByteArray):TB (eV t p) :=
 ⟨List.Pairwise.filter _ h.rise,Nat.le_trans (List.length_filter_le ..) h.len,fun e he=>h.sz e (List.mem_filter.1 he).1,fun e he=>h.dat e (List.mem_filter.1 he).1⟩
end Go.Rc
namespace Go.Proofs.YtdfjeokjmigkaaaGreat
open Go Go.Eng Go.RowKit Go.Tr Go.Dk Go.Rc
set_option maxHeartbeats 1000000 in
theorem zHn (L:LN) (hl:L.length≤1000000):HFun Tryz.prog 14 [.lst false (itl L),.lst false (itl L)] (fun h st=>h=.v (.bool true)):=by
 refine eF (N:=26) Tryz.func14 rfl Tryz.ntmps14 Tryz.results14 (by simp) ?_
 refine zE ?_;refine zJ (fun K hK=>?_);simp (disch:=omega) only [push_cast,↓Int.cast_ofNat_Int,simprocAttr];refine hK _ ?_
 refine zE ?_;refine zE ?_;refine zJ (fun K hK=>?_);simp (disch:=omega) only [push_cast,↓Int.cast_ofNat_Int,simprocAttr,qC];refine hK _ ?_
 refine zA ?_;refine eQ rfl (fun ht=>by simp at ht) (fun _=>?_)
 refine zC ?_;refine zE ?_;refine zE ?_;refine zJ (fun K hK=>?_);simp (disch:=omega) only [push_cast,↓Int.cast_ofNat_Int,simprocAttr];refine hK _ ?_
 refine zA ?_;refine zD ?_;refine bR (fun i:Nat=>⟨[(0,.lst false (itl L)),(1,.lst false (itl L)),(5,.v (.int .i64 (i:Int)))],[]⟩) (fun i=>i≤L.length) (fun i=>L.length - i) [0,1,5] [] 0 (by simp only [zZ,zR,zP,zQ,zN,zS,zM,zX,zU,Nat.reduceEqDiff,reduceIte];try rfl) (Nat.zero_le _) ?_
 intro i hi
 by_cases h1:i < L.length
 ·have hg:(itl L).getD i []=[FV.v (.string L[i].1),.v (.int .i64 L[i].2)]:=zB2 h1
  refine zE ?_;refine zE ?_;refine zJ (fun K hK=>?_);simp (disch:=omega) only [push_cast,↓Int.cast_ofNat_Int,simprocAttr,qC];refine hK _ ?_
  refine zA ?_;refine yD rfl ?_;refine zC ?_;refine zE ?_;refine zD ?_;refine zE ?_;refine HW_drw 9 mixed (by kernel_rfl) (fun K hK=>?_);simp (disch:=omega) only [push_cast,↓Int.cast_ofNat_Int,simprocAttr,qC,qDt,hg]
  refine ⟨_,zLz _ _ _ _,?_⟩;with_reducible refine aB ?_;simp (disch:=omega) only [push_cast,↓Int.cast_ofNat_Int,simprocAttr,qC,qDt,hg]
  refine hK _ ?_;refine eQ rfl (fun ht=>by simp at ht) (fun _=>?_)
  refine zC ?_;refine zB ?_;refine zA ?_;refine zJ (fun K hK=>?_);simp (disch:=omega) only [push_cast,↓Int.cast_ofNat_Int,simprocAttr];refine hK _ ?_
  refine zA ?_;exact ⟨i + 1,by simp only [zZ,zR,zP,zQ,zN,zS,zM,zX,zU,Nat.reduceEqDiff,reduceIte];rfl,h1,by omega⟩
 ·have hi2:i=L.length:=by omega
  subst hi2;refine zE ?_;refine zE ?_;refine zJ (fun K hK=>?_);simp (disch:=omega) only [push_cast,↓Int.cast_ofNat_Int,simprocAttr,qC];refine hK _ ?_
  refine zA ?_;refine yC rfl ?_;refine zT ?_;refine zG ?_;refine zG ?_;refine zH ?_;refine zE ?_;refine zJ (fun K hK=>?_);simp (disch:=omega) only [push_cast,↓Int.cast_ofNat_Int,simprocAttr];refine hK _ ?_
  refine zA ?_;refine zW ?_;simp only [yA,yM,yH,yE,aA,aC,yK,yJ,zS,zM,Nat.reduceEqDiff,reduceIte,reduceCtorEq];exact aL rfl
end Go.Proofs.YtdfjeokjmigkaaaGreat
end
section
namespace Go.Rc
open Go Go.Tr Go.Eng Go.Dk
variable {mg:(Int × ByteArray)→(Int × ByteArray)→(Int × ByteArray)→Bool}
theorem qMu (l r:List UInt8):nE (l ++ 47 :: r)=nE l ++ nE r:=by
 induction l with
|nil=>rw [List.nil_append,kZ];rfl
|cons c l ih =>
  by_cases hc:c=47
  ·subst hc;rw [List.cons_append,kZ,kZ,ih];rfl
  ·obtain ⟨q,hq⟩:=qGv l;rw [hq] at ih;rw [List.cons_append,nD hc hq,nD hc ih];rfl
theorem qXw {p q:ByteArray} (h:gF p q=true) (hq:q≠{ data:=#[] }):∃ t,parts p=parts q ++ t:=by
 obtain ⟨t,ht,hs⟩:=jA h hq
 rcases hs with rfl|⟨r,rfl⟩
 ·rw [List.append_nil] at ht;exact ⟨[],by rw [parts,parts,ht,List.append_nil]⟩
 ·exact ⟨(nE r).map mkB,by rw [parts,parts,ht,qMu,List.map_append]⟩
theorem zH6 {p q:ByteArray} {d:Int} (h:gF p q=true) (hq:q≠{ data:=#[] }) (hp:pOk p d=true):pOk q d=true:=by
 obtain ⟨t,ht⟩:=qXw h hq;unfold pOk at hp ⊢;rw [ht,List.length_append,List.all_append] at hp;simp only [Bool.and_eq_true,decide_eq_true_eq] at hp ⊢;exact ⟨by omega,hp.2.1⟩
theorem zSm {c:UInt8} (h:okC c=true):47 < c:=by
 unfold okC at h;simp only [Bool.or_eq_true,Bool.and_eq_true,decide_eq_true_eq,UInt8.le_iff_toNat_le] at h;rw [UInt8.lt_iff_toNat_lt]
 have h0:(47:UInt8).toNat=47:=rfl
 have h1:(97:UInt8).toNat=97:=rfl
 have h2:(48:UInt8).toNat=48:=rfl
 rw [h1,h2] at h;rw [h0]
 rcases h with (h|h)|h
 ·omega
 ·omega
 ·subst h;decide
theorem qSd:∀ (l:List UInt8),(∀ s ∈ nE l,∀ c ∈ s,47 < c)→∀ c ∈ l,c≠47→47 < c
|[],_,c,hc,_=>by cases hc
|x :: r,h,c,hc,hn=>by
  by_cases hx:x=47
  ·subst hx;rw [kZ] at h
   rcases List.mem_cons.1 hc with rfl|hc
   ·exact absurd rfl hn
   ·exact qSd r (fun s hs=>h s (by simp [hs])) c hc hn
  ·obtain ⟨q,hq⟩:=qGv r;rw [nD hx hq] at h
   rcases List.mem_cons.1 hc with rfl|hc
   ·exact h _ (List.mem_cons.2 (.inl rfl)) c (List.mem_cons.2 (.inl rfl))
   ·refine qSd r (fun s hs=>?_) c hc hn
    rw [hq] at hs
    rcases List.mem_cons.1 hs with rfl|hs
    ·exact fun y hy=>h _ (List.mem_cons.2 (.inl rfl)) y (List.mem_cons.2 (.inr hy))
    ·exact h s (by simp [hs])
theorem zSl {p:ByteArray} {d:Int} (h:pOk p d=true):∀ c ∈ p.data.toList,c≠47→47 < c:=by
 refine qSd _ fun s hs c hc=>?_
 unfold pOk at h;simp only [Bool.and_eq_true,List.all_eq_true] at h
 have h1:=h.2 (mkB s) (List.mem_map.2 ⟨s,hs,rfl⟩)
 unfold jZ at h1;simp only [Bool.and_eq_true,List.all_eq_true] at h1;exact zSm (h1.2 c (by simpa [mkB] using hc))
theorem zNb {p q:ByteArray} {d:Int} {r:List UInt8} (hp:pOk p d=true) (h:p.data.toList=q.data.toList ++ 47 :: r):r.take (oX r)≠[]:=by
 obtain ⟨t,ht⟩:=qGv r;unfold pOk at hp;simp only [Bool.and_eq_true,List.all_eq_true] at hp
 have h1:=hp.2 (mkB (r.take (oX r))) (by rw [parts,h,qMu,ht];simp)
 intro h0;rw [h0] at h1;simp [jZ,mkB,ByteArray.size] at h1
theorem zEd {p q:ByteArray} {d:Int} {e:Ent} (he:e.1=p) (hp:pOk p d=true) (hu:gF p q=true) (hn:p≠q):∃ x,cN q e=some x:=by
 have hf:kB p q≠{ data:=#[] }:=fun x=>by
  have hl:=uW p q
  rw [x] at hl
  by_cases hq:q={ data:=#[] }
  ·have h0:=qKk hp
   have h1:p.data.toList.drop q.data.toList.length=p.data.toList:=by rw [hq];rfl
   have h2:oW p.data.toList=p.data.toList:=by
    cases hx:p.data.toList with
   |nil=>rfl
   |cons c r =>
     have:c≠47:=fun y=>qDp hp r (by rw [hx,y])
     simp [oW,this]
   rw [h1,h2,← qFi] at hl
   have h3:vol p={ data:=#[] }:=jF hl.symm
   rw [h3] at h0;simp [jZ,ByteArray.size] at h0
  ·obtain ⟨t,ht,hs⟩:=jA hu hq
   rcases hs with rfl|⟨r,rfl⟩
   ·exact hn (jF (by rw [ht,List.append_nil]))
   ·have h1:p.data.toList.drop q.data.toList.length=47 :: r:=by rw [ht,List.drop_append_of_le_length (Nat.le_refl _),List.drop_of_length_le (Nat.le_refl _)];rfl
    rw [h1] at hl;simp only [oW,if_pos] at hl;exact zNb hp ht hl.symm
 unfold cN;rw [if_neg (by rw [he,hu];simp only [not_or];exact ⟨hn,by decide,hf⟩)]
 exact ⟨_,rfl⟩
theorem zEh (l:List UInt8) {a b:List UInt8} (h:Op.bytesLess a b=true):Op.bytesLess (l ++ a) (l ++ b)=true:=by
 induction l with
|nil=>exact h
|cons c l ih=>simp [Op.bytesLess,ih]
theorem qRw (l:List UInt8) {a b:List UInt8} (h:Op.bytesLess (l ++ a) (l ++ b)=true):Op.bytesLess a b=true:=by
 induction l with
|nil=>exact h
|cons c l ih=>exact ih (by simpa [Op.bytesLess] using h)
theorem qUi:∀ {a b t:List UInt8} (u:List UInt8),Op.bytesLess a b=true→(∀ c ∈ b,47 < c)→(t=[]∨∃ r,t=47 :: r)→Op.bytesLess (a ++ t) (b ++ u)=true
|[],[],_,_,h,_,_=>by cases h
|[],c :: b,t,u,_,hb,ht=>by
  rcases ht with rfl|⟨r,rfl⟩
  ·rfl
  ·have:=hb c (by simp)
   simp [Op.bytesLess,this]
|_ :: _,[],_,_,h,_,_=>by cases h
|x :: a,c :: b,t,u,h,hb,ht=>by
  simp only [Op.bytesLess,Bool.or_eq_true,decide_eq_true_eq,Bool.and_eq_true,beq_iff_eq,List.cons_append] at h ⊢
  rcases h with h|⟨h1,h⟩
  ·exact .inl h
  ·exact .inr ⟨h1,qUi u h (fun y hy=>hb y (by simp [hy])) ht⟩
theorem qHn {top q:ByteArray} {e:Ent} (h:cN top e=some q):∃ f:List UInt8,q.data.toList=(if top={ data:=#[] } then [] else top.data.toList ++ [47]) ++ f∧∀ c ∈ f,c≠47:=by
 unfold cN at h;split at h
 ·cases h
 ·rename_i hn;simp only [not_or,Option.some.injEq] at hn h;obtain ⟨h1,h2,h3⟩:=hn;refine ⟨(kB e.1 top).data.toList,?_,by rw [uW];exact qG6 _⟩
  have hql:=qDs top (kB e.1 top) h3
  rw [h] at hql;rw [hql]
  by_cases ht:top={ data:=#[] }
  ·rw [if_pos ht,if_pos ht,List.nil_append]
  ·rw [if_neg ht,if_neg ht,List.append_assoc];rfl
theorem qM4 {a b:ByteArray}:blt a b=Op.bytesLess a.data.toList b.data.toList:=by rw [blt,Lib.toList_data,Lib.toList_data]
theorem qYa {top q1 q2 x y:ByteArray} {e1 e2:Ent} {d:Int} (h1:cN top e1=some q1) (h2:cN top e2=some q2) (hk:pOk q2 d=true) (hq:blt q1 q2=true) (hx:gF x q1=true) (hy:gF y q2=true):blt x y=true:=by
 obtain ⟨f1,k1,n1⟩:=qHn h1;obtain ⟨f2,k2,n2⟩:=qHn h2
 have s1:=(jX h1).1
 have s2:=(jX h2).1
 obtain ⟨t1,u1,v1⟩:=jA hx (fun z=>by rw [z] at s1;exact absurd s1 (by show ¬ _ < 0;omega))
 obtain ⟨t2,u2,v2⟩:=jA hy (fun z=>by rw [z] at s2;exact absurd s2 (by show ¬ _ < 0;omega))
 have lo:=zSl hk
 rw [k2] at lo;rw [qM4,k1,k2] at hq;rw [qM4,u1,u2,k1,k2,List.append_assoc,List.append_assoc];exact zEh _ (qUi t2 (qRw _ hq) (fun c hc=>lo c (by simp [hc]) (n2 c hc)) v1)
theorem qV5 {E A H S:List Ent} (hE:A ++ H ++ S=E):∀ (k:Nat) (top:ByteArray),∀ x ∈ bN mg A H S k top,top.size < x.1.size∧gF x.1 top=true
|0,_,x,hx=>by simp [bN] at hx
|k + 1,top,x,hx=>by
  refine ⟨?_,qFe _ _ x hx⟩;rw [bN,hE] at hx;obtain ⟨q,hq,hx⟩:=List.mem_flatMap.1 hx;obtain ⟨y,hy,rfl⟩:=List.mem_map.1 hq
  rcases nL E [] hy with h0|⟨e,he,hn⟩
  ·cases h0
  ·have:=(jX hn).1
   rcases qG5 hx with h|h
   ·rw [h];exact this
   ·have:=(qV5 hE k _ x h).1
    omega
theorem qFf {E A H S:List Ent} (hE:A ++ H ++ S=E) (hk:∀ e ∈ E,pOk e.1 5=true):∀ (k:Nat) (top:ByteArray),(bN mg A H S k top).Pairwise fun a b=>blt a.1 b.1=true
|0,_=>by rw [bN];exact List.Pairwise.nil
|k + 1,top=>by
  rw [bN,hE]
  have hr:(lV top E).Pairwise fun a b=>blt a.1 b.1=true:=qBg E [] List.Pairwise.nil
  have hm:∀ y ∈ lV top E,∃ e ∈ E,cN top e=some y.1:=fun y hy=>by
   rcases nL E [] hy with h0|h
   ·cases h0
   ·exact h
  have one:∀ q:ByteArray,(iT mg (bN mg A H S k) A H S q).Pairwise fun a b=>blt a.1 b.1=true:=fun q=>by
   unfold iT
   (repeat' split) <;> first
   |exact List.pairwise_singleton _ _
   |exact List.Pairwise.nil
   |(rw [List.nil_append];exact qFf hE hk k q)
   |skip
   rw [List.singleton_append,List.pairwise_cons];refine ⟨fun x hx=>?_,qFf hE hk k q⟩
   obtain ⟨s,u⟩:=qV5 hE k q x hx;dsimp only;rw [qM4]
   by_cases hq:q={ data:=#[] }
   ·have:x.1.data.toList≠[]:=fun z=>by
     have:x.1.size=0:=by rw [Lib.size_eq,z];rfl
     omega
    rw [hq];show Op.bytesLess [] _=true
    exact qCm [] _ this
   ·obtain ⟨t,ht,-⟩:=jA u hq;rw [ht];refine qCm _ _ fun z=>?_
    rw [z,List.append_nil] at ht
    have:x.1.size=q.size:=by rw [Lib.size_eq,ht,← Lib.size_eq]
    omega
  clear hE;generalize hN:lV top E=N at hr hm;clear hN
  induction N with
 |nil=>exact List.Pairwise.nil
 |cons a r ih =>
   obtain ⟨h1,h2⟩:=List.pairwise_cons.1 hr;rw [List.map_cons,List.flatMap_cons];refine List.pairwise_append.2 ⟨one _,ih h2 (fun y hy=>hm y (by simp [hy])),fun x hx y hy=>?_⟩
   obtain ⟨q,hq,hy⟩:=List.mem_flatMap.1 hy;obtain ⟨z,hz,rfl⟩:=List.mem_map.1 hq;obtain ⟨e1,-,n1⟩:=hm a (by simp)
   obtain ⟨e2,m2,n2⟩:=hm z (by simp [hz])
   have s2:=(jX n2).1
   have o2:=zH6 (qHm n2 (qDp (hk e2 m2))).2.1 (fun z=>by rw [z] at s2;exact absurd s2 (by show ¬ _ < 0;omega)) (hk e2 m2)
   exact qYa n1 n2 o2 (h1 z hz) (qKh hx) (qKh hy)
theorem zLn {t:List Ent} {p:ByteArray} (h:eH t p≠qX5):∃ e ∈ t,e.1=p:=by
 unfold eH at h
 cases hf:t.find? (fun e=>decide (e.1=p)) with
|none=>rw [hf] at h;exact absurd rfl h
|some e=>exact ⟨e,List.mem_of_find?_eq_some hf,by simpa using List.find?_some hf⟩
end Go.Rc
end
