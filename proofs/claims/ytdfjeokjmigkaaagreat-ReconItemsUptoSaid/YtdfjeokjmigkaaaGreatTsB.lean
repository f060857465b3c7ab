/-
  Plain: sorted rows; the document's difference of two trees is the merge's.
-/
import Derived.Test.YtdfjeokjmigkaaaGreatTrU
import Derived.Test.YtdfjeokjmigkaaaGreatChn
set_option linter.unusedSimpArgs false
set_option linter.unusedVariables false
section
set_option maxRecDepth 20000
namespace Go.Tr
open Go Go.Eng
def qEi (out:List Ent) (e:Ent):List Ent:=out.takeWhile (fun x=>blt x.1 e.1) ++ e :: out.dropWhile (fun x=>blt x.1 e.1)
def qKy (t:List Ent):List Ent:=t.foldl qEi []
theorem zSt {out:List Ent} {e:Ent} {i:Nat} (hi:i≤out.length) (h1:∀ j (h:j < out.length),j < i→blt out[j].1 e.1=true) (h2:i=out.length∨∃ h:i < out.length,blt out[i].1 e.1=false):qEi out e=out.take i ++ [e] ++ out.drop i:=by
 have key:∀ (out:List Ent) (i:Nat),i≤out.length→(∀ j (h:j < out.length),j < i→blt out[j].1 e.1=true)→(i=out.length∨∃ h:i < out.length,blt out[i].1 e.1=false) →
   out.takeWhile (fun x=>blt x.1 e.1)=out.take i∧out.dropWhile (fun x=>blt x.1 e.1)=out.drop i:=by
  intro out
  induction out with
 |nil=>intro i hi _ _;simp
 |cons x r ih =>
   intro i hi h1 h2
   cases i with
  |zero =>
    rcases h2 with h2|⟨h,h2⟩
    ·simp at h2
    ·simp only [List.getElem_cons_zero] at h2;simp [List.takeWhile_cons,List.dropWhile_cons,h2]
  |succ i =>
    have hx:=h1 0 (by simp) (by omega)
    simp only [List.getElem_cons_zero] at hx;obtain ⟨a,b⟩:=ih i (by simpa using hi) (fun j hj hji=>by have:=h1 (j + 1) (by simpa using hj) (by omega);simpa using this) (by
     rcases h2 with h2|⟨h,h2⟩
     ·left;simpa using h2
     ·right;exact ⟨by simpa using h,by simpa using h2⟩)
    simp [List.takeWhile_cons,List.dropWhile_cons,hx,a,b]
 obtain ⟨a,b⟩:=key out i hi h1 h2;rw [qEi,a,b];simp
theorem zKa (out:List Ent) (e:Ent):(qEi out e).length=out.length + 1:=by
 have:=congrArg List.length (List.takeWhile_append_dropWhile (p:=fun x:Ent=>blt x.1 e.1) (l:=out))
 rw [List.length_append] at this;rw [qEi,List.length_append,List.length_cons];omega
theorem qS5:∀ (t out:List Ent),(t.foldl qEi out).length=out.length + t.length
|[],out=>rfl
|e :: t,out=>by rw [List.foldl_cons,qS5 t,zKa,List.length_cons];omega
end Go.Tr
namespace Go.Proofs.YtdfjeokjmigkaaaGreat
open Go Go.Eng Go.RowKit Go.Tr
set_option maxHeartbeats 8000000 in
theorem zRo (t:List Ent) (hl:t.length≤2097152):HFun Tryz.prog 29 [.lst false (aQ t)] (fun h st=>h=.own 0∧st=[(0,rowE (qKy t))]):=by
 refine eF (N:=51) Tryz.func29 rfl Tryz.ntmps29 Tryz.results29 (by simp) ?_
 refine zE ?_;refine zJ (fun K hK=>?_);simp (disch:=omega) only [push_cast,↓Int.cast_ofNat_Int,simprocAttr];refine hK _ ?_
 refine zE ?_;refine zJ (fun K hK=>?_);simp (disch:=omega) only [push_cast,↓Int.cast_ofNat_Int,simprocAttr];refine hK _ ?_
 refine zE ?_;refine zE ?_;refine zJ (fun K hK=>?_);simp (disch:=omega) only [push_cast,↓Int.cast_ofNat_Int,simprocAttr];refine hK _ ?_
 refine zA ?_;refine zD ?_;refine qE 3 296 50 3 rfl (by simp only [oK,tJ,tK,gQ,fN,gG,fF,kG,gN,jD,gM,gK,iQ,gP,gJ,fM,iL,iN,iM,kF,kP,jC,Nat.reduceBEq,Nat.reduceEqDiff,reduceIte,cond_true,cond_false,List.map_cons,List.map_nil];exact rfl) ?_
 refine bR (fun x:Nat × List Ent=>⟨[(0,.lst false (aQ t)),(3,.own 296),(4,.v (.int .i64 x.1))],[(296,rowE x.2)]⟩) (fun x=>x.1≤t.length∧x.2=(t.take x.1).foldl qEi []) (fun x=>t.length - x.1) [0,3,4] [296] (0,[]) (by simp only [zZ,zR,zP,zQ,zN,zS,zM,zX,zU,Nat.reduceEqDiff,reduceIte];rfl) ⟨Nat.zero_le _,rfl⟩ ?_
 rintro ⟨i,out⟩ ⟨hi,ho⟩;simp only at hi ho
 have hol:out.length=i:=by rw [ho,qS5,List.length_take];simp;omega
 by_cases hlt:i < t.length
 ·refine zE ?_;refine zE ?_;refine zJ (fun K hK=>?_);simp (disch:=omega) only [push_cast,↓Int.cast_ofNat_Int,simprocAttr,yV];refine hK _ ?_
  refine zA ?_;refine yD rfl ?_;refine zC ?_;refine zE ?_;refine zD ?_;refine zE ?_;refine zJ (fun K hK=>?_);simp (disch:=omega) only [push_cast,↓Int.cast_ofNat_Int,simprocAttr];refine hK _ ?_
  refine zE ?_;refine zD ?_;refine bR (fun x:Nat=>⟨[(0,.lst false (aQ t)),(3,.own 296),(4,.v (.int .i64 i)),(5,.v (.int .i64 x))],[(296,rowE out)]⟩) (fun x=>x≤out.length∧∀ j (h:j < out.length),j < x→blt out[j].1 t[i].1=true) (fun x=>out.length - x) [0,3,4,5] [296] 0 (by simp only [zZ,zR,zP,zQ,zN,zS,zM,zX,zU,Nat.reduceEqDiff,reduceIte];try rfl) ⟨Nat.zero_le _,fun j _ h=>absurd h (Nat.not_lt_zero _)⟩ ?_
  rintro k ⟨hk,hb⟩
  have fin:(k=out.length∨∃ h:k < out.length,blt out[k].1 t[i].1=false)→qEi out t[i]=out.take k ++ [t[i]] ++ out.drop k:=zSt hk hb
  by_cases hkl:k < out.length
  ·cases hb2:blt out[k].1 t[i].1 with
  |true =>
    have hb3:Op.bytesLess out[k].1.toList t[i].1.toList=true:=hb2
    refine zE ?_;refine zE ?_;refine qG2 17 mixed (by kernel_rfl) (fun K hK K1 hK1=>?_);simp (disch:=omega) only [push_cast,↓Int.cast_ofNat_Int,simprocAttr,yV,yU,yW hkl,yW hlt,hb3]
    refine hK1 _ ?_;(try clear hK1 K1);with_reducible refine aB ?_;simp (disch:=omega) only [push_cast,↓Int.cast_ofNat_Int,simprocAttr,yV,yU,yW hkl,yW hlt,hb3]
    refine hK _ ?_;refine yD rfl ?_;refine zC ?_;refine zA ?_;refine zD ?_;refine zJ (fun K hK=>?_);simp (disch:=omega) only [push_cast,↓Int.cast_ofNat_Int,simprocAttr];refine hK _ ?_
    refine zB ?_;refine zA ?_;refine ⟨k + 1,by simp only [zZ,zR,zP,zQ,zN,zS,zM,zX,zU,Nat.reduceEqDiff,reduceIte];try rfl,⟨hkl,fun j hj h=>?_⟩,by omega⟩
    by_cases e:j=k
    ·subst e;exact hb2
    ·exact hb j hj (by omega)
  |false =>
    have hb3:Op.bytesLess out[k].1.toList t[i].1.toList=false:=hb2
    have he:=fin (.inr ⟨hkl,hb2⟩)
    refine zE ?_;refine zE ?_;refine qG2 17 mixed (by kernel_rfl) (fun K hK K1 hK1=>?_);simp (disch:=omega) only [push_cast,↓Int.cast_ofNat_Int,simprocAttr,yV,yU,yW hkl,yW hlt,hb3]
    refine hK1 _ ?_;(try clear hK1 K1);with_reducible refine aB ?_;simp (disch:=omega) only [push_cast,↓Int.cast_ofNat_Int,simprocAttr,yV,yU,yW hkl,yW hlt,hb3]
    refine hK _ ?_;refine yC rfl ?_;refine zT ?_;refine zG ?_;refine zG ?_;refine zH ?_;refine zE ?_;refine yB [0,3,4,5] [296] (by simp only [zZ,zR,zP,zQ,zN,zS,zM,zX,zU,Nat.reduceEqDiff,reduceIte];exact rfl) ?_
    refine cU 296 rfl (by simp only [dP,cJ,bH,bZ,bF,fD,cF,cG,bG,cE,cD,dQ,cH,cC,dL,dM,dN,Nat.reduceEqDiff,reduceIte,List.map_cons,List.map_nil,List.map_append];exact rfl) ?_
    have ht:(aQ out).take out.length=aQ out:=List.take_of_length_le (by rw [yV];exact Nat.le_refl _)
    refine zJ (fun K hK=>?_);simp (disch:=omega) only [push_cast,↓Int.cast_ofNat_Int,simprocAttr,yV,yU,ht,qDz,List.length_drop];(repeat refine ⟨by first|omega|decide|((repeat' apply And.intro) <;> first|omega|decide),?_⟩);refine hK _ ?_
    refine yB [0,3,4,5,6] [256] (by simp only [zZ,zR,zP,zQ,zN,zS,zM,zX,zU,Nat.reduceEqDiff,reduceIte];exact rfl) ?_
    refine cU 256 rfl (by simp only [dP,cJ,bH,bZ,bF,fD,cF,cG,bG,cE,cD,dQ,cH,cC,dL,dM,dN,Nat.reduceEqDiff,reduceIte,List.map_cons,List.map_nil,List.map_append];exact rfl) ?_
    refine mZ 13 [(0,some 296),(4,some 296),(10,some 296),(12,some 296)] [[],[(296,rowE [])],[(296,rowE (out.take k))],[(296,rowE (out.take k ++ [t[i]]))],[(296,rowE (out.take k ++ [t[i]] ++ out.drop k))]] [] mixed (by kernel_rfl) (by kernel_rfl) rfl (fun K hK K1 hK1=>?_);simp (disch:=omega) only [push_cast,↓Int.cast_ofNat_Int,simprocAttr,dB,cM,eB,cZ,fQ,lQ,cY,cL,aT,aZ,bP,aU,aV,fR,dC,dK,eE,eD,cP,bC,bQ,fV,fU,fT,dD,dE,dJ,dG,fW,cW,dF,eC,List.tail_cons,List.take_nil,List.drop_nil,yV,yU,qHx,qDz,yW hlt,List.drop_zero]
    have l1:(out.take k).length≤2097152:=by rw [List.length_take];omega
    have l2:(out.take k).length + (out.drop k).length=out.length:=by rw [List.length_take,List.length_drop];omega
    refine ⟨rfl,by show _ * 40≤_;omega,rfl,⟨of_eq_true (yU [t[i]]),by show _ * 40≤_;omega⟩,by rw [qAs],by show _ * 40≤_;omega,by rw [qMp],?_⟩
    rw [← he];refine hK1 _ ?_;(try clear hK1 K1);with_reducible refine aB ?_;simp (disch:=omega) only [push_cast,↓Int.cast_ofNat_Int,simprocAttr]
    refine hK _ ?_;refine zB ?_;refine zA ?_;refine zJ (fun K hK=>?_);simp (disch:=omega) only [push_cast,↓Int.cast_ofNat_Int,simprocAttr];refine hK _ ?_
    refine zA ?_;refine ⟨(i + 1,qEi out t[i]),by simp only [zZ,zR,zP,zQ,zN,zS,zM,zX,zU,Nat.reduceEqDiff,reduceIte];try rfl,⟨hlt,?_⟩,by dsimp only;omega⟩
    dsimp only;rw [List.take_succ_eq_append_getElem hlt,List.foldl_append,← ho];rfl
  ·have hkk:k=out.length:=by omega
   have he:=fin (.inl hkk)
   refine zE ?_;refine zE ?_;refine qG2 17 mixed (by kernel_rfl) (fun K hK K1 hK1=>?_);simp (disch:=omega) only [push_cast,↓Int.cast_ofNat_Int,simprocAttr,yV]
   refine hK1 _ ?_;(try clear hK1 K1);with_reducible refine aB ?_;simp (disch:=omega) only [push_cast,↓Int.cast_ofNat_Int,simprocAttr,yV]
   refine hK _ ?_;refine yC rfl ?_;refine zT ?_;refine zG ?_;refine zG ?_;refine zH ?_;refine zE ?_;refine yB [0,3,4,5] [296] (by simp only [zZ,zR,zP,zQ,zN,zS,zM,zX,zU,Nat.reduceEqDiff,reduceIte];exact rfl) ?_
   refine cU 296 rfl (by simp only [dP,cJ,bH,bZ,bF,fD,cF,cG,bG,cE,cD,dQ,cH,cC,dL,dM,dN,Nat.reduceEqDiff,reduceIte,List.map_cons,List.map_nil,List.map_append];exact rfl) ?_
   have ht:(aQ out).take out.length=aQ out:=List.take_of_length_le (by rw [yV];exact Nat.le_refl _)
   refine zJ (fun K hK=>?_);simp (disch:=omega) only [push_cast,↓Int.cast_ofNat_Int,simprocAttr,yV,yU,ht,qDz,List.length_drop];(repeat refine ⟨by first|omega|decide|((repeat' apply And.intro) <;> first|omega|decide),?_⟩);refine hK _ ?_
   refine yB [0,3,4,5,6] [256] (by simp only [zZ,zR,zP,zQ,zN,zS,zM,zX,zU,Nat.reduceEqDiff,reduceIte];exact rfl) ?_
   refine cU 256 rfl (by simp only [dP,cJ,bH,bZ,bF,fD,cF,cG,bG,cE,cD,dQ,cH,cC,dL,dM,dN,Nat.reduceEqDiff,reduceIte,List.map_cons,List.map_nil,List.map_append];exact rfl) ?_
   refine mZ 13 [(0,some 296),(4,some 296),(10,some 296),(12,some 296)] [[],[(296,rowE [])],[(296,rowE (out.take k))],[(296,rowE (out.take k ++ [t[i]]))],[(296,rowE (out.take k ++ [t[i]] ++ out.drop k))]] [] mixed (by kernel_rfl) (by kernel_rfl) rfl (fun K hK K1 hK1=>?_);simp (disch:=omega) only [push_cast,↓Int.cast_ofNat_Int,simprocAttr,dB,cM,eB,cZ,fQ,lQ,cY,cL,aT,aZ,bP,aU,aV,fR,dC,dK,eE,eD,cP,bC,bQ,fV,fU,fT,dD,dE,dJ,dG,fW,cW,dF,eC,List.tail_cons,List.take_nil,List.drop_nil,yV,yU,qHx,qDz,yW hlt,List.drop_zero]
   have l1:(out.take k).length≤2097152:=by rw [List.length_take];omega
   have l2:(out.take k).length + (out.drop k).length=out.length:=by rw [List.length_take,List.length_drop];omega
   refine ⟨rfl,by show _ * 40≤_;omega,rfl,⟨of_eq_true (yU [t[i]]),by show _ * 40≤_;omega⟩,by rw [qAs],by show _ * 40≤_;omega,by rw [qMp],?_⟩
   rw [← he];refine hK1 _ ?_;(try clear hK1 K1);with_reducible refine aB ?_;simp (disch:=omega) only [push_cast,↓Int.cast_ofNat_Int,simprocAttr]
   refine hK _ ?_;refine zB ?_;refine zA ?_;refine zJ (fun K hK=>?_);simp (disch:=omega) only [push_cast,↓Int.cast_ofNat_Int,simprocAttr];refine hK _ ?_
   refine zA ?_;refine ⟨(i + 1,qEi out t[i]),by simp only [zZ,zR,zP,zQ,zN,zS,zM,zX,zU,Nat.reduceEqDiff,reduceIte];try rfl,⟨hlt,?_⟩,by dsimp only;omega⟩
   dsimp only;rw [List.take_succ_eq_append_getElem hlt,List.foldl_append,← ho];rfl
 ·have hii:i=t.length:=by omega
  subst hii;rw [List.take_length] at ho;rw [ho];refine zE ?_;refine zE ?_;refine zJ (fun K hK=>?_);simp (disch:=omega) only [push_cast,↓Int.cast_ofNat_Int,simprocAttr,yV];refine hK _ ?_
  refine zA ?_;refine yC rfl ?_;refine zT ?_;refine zG ?_;refine zG ?_;refine zH ?_;refine zE ?_;refine zJ (fun K hK=>?_);simp (disch:=omega) only [push_cast,↓Int.cast_ofNat_Int,simprocAttr];refine hK _ ?_
  refine zA ?_;refine zW ?_;simp only [yA,yM,yH,yE,aA,aC,yK,yJ,zS,zM,Nat.reduceEqDiff,reduceIte,reduceCtorEq];exact lW rfl (qBo _) ⟨rfl,rfl⟩
end Go.Proofs.YtdfjeokjmigkaaaGreat
end
section
namespace Go.Tr
open Go
def qJm (t:List Ent):Prop:=t.Pairwise fun x y=>blt y.1 x.1=false
theorem qRr {a b c:ByteArray} (h1:blt b a=false) (h2:blt c b=false):blt c a=false:=by
 cases e:blt c a with
|false=>rfl
|true =>
  rcases qEa a b with h|h|h
  ·rw [pX e h] at h2;cases h2
  ·rw [← h,e] at h2;cases h2
  ·rw [h] at h1;cases h1
theorem qYn {out:List Ent} {e:Ent} (h:qJm out):qJm (qEi out e):=by
 unfold qEi
 induction out with
|nil=>simp [qJm]
|cons x r ih =>
  obtain ⟨hx,hr⟩:=List.pairwise_cons.1 h
  cases hb:blt x.1 e.1 with
 |true =>
   simp only [List.takeWhile_cons,List.dropWhile_cons,hb,if_true,List.cons_append];refine List.pairwise_cons.2 ⟨fun y hy=>?_,ih hr⟩
   rcases List.mem_append.1 hy with hy|hy
   ·exact hx y ((List.takeWhile_sublist _).subset hy)
   ·rcases List.mem_cons.1 hy with rfl|hy
    ·exact qAz hb
    ·exact hx y ((List.dropWhile_sublist _).subset hy)
 |false =>
   simp only [List.takeWhile_cons,List.dropWhile_cons,hb,Bool.false_eq_true,if_false,List.nil_append];refine List.pairwise_cons.2 ⟨fun y hy=>?_,h⟩
   rcases List.mem_cons.1 hy with rfl|hy
   ·exact hb
   ·exact qRr hb (hx y hy)
theorem zEt (out:List Ent) (e:Ent):(qEi out e).Perm (e :: out):=by
 unfold qEi;refine List.perm_middle.trans (List.Perm.cons e ?_);rw [List.takeWhile_append_dropWhile]
theorem qKx:∀ (t out:List Ent),qJm out→qJm (t.foldl qEi out)
|[],out,h=>h
|e :: t,out,h=>by rw [List.foldl_cons];exact qKx t _ (qYn h)
theorem qPe:∀ (t out:List Ent),(t.foldl qEi out).Perm (out ++ t)
|[],out=>by simp
|e :: t,out=>by
  rw [List.foldl_cons];refine (qPe t _).trans ?_;refine (List.Perm.append_right t (zEt out e)).trans ?_;exact (List.perm_middle (l₁:=out)).symm
theorem qS8 (t:List Ent):qJm (qKy t):=qKx t [] .nil
theorem qEw (t:List Ent):(qKy t).Perm t:=qPe t []
end Go.Tr
end
section
namespace Go.Tr
open Go
def qBx (f:ByteArray→Bool):Option ByteArray→List Ent→List ByteArray
|_,[]=>[]
|prev,x :: r=>if prev≠some x.1∧f x.1=true then x.1 :: qBx f (some x.1) r else qBx f (some x.1) r
theorem qHh (f:ByteArray→Bool) (q:ByteArray):∀ (t:List Ent) (prev:Option ByteArray),qJm t→(∀ p,prev=some p→∀ x ∈ t,blt x.1 p=false)→(q ∈ qBx f prev t↔(∃ x ∈ t,x.1=q)∧f q=true∧prev≠some q)
|[],prev,_,_=>by simp [qBx]
|x :: r,prev,h,hp=>by
  obtain ⟨hx,hr⟩:=List.pairwise_cons.1 h
  have ih:=qHh f q r (some x.1) hr (fun p e y hy=>by simp only [Option.some.injEq] at e;subst e;exact hx y hy)
  have later:prev=some q→x.1≠q→¬ ∃ y ∈ r,y.1=q:=fun e hne ⟨y,hy,hyq⟩=>by
   have h1:=hp q e x (by simp)
   have h2:=hx y hy
   rw [hyq] at h2
   rcases qEa x.1 q with h|h|h
   ·rw [h] at h1;cases h1
   ·exact hne h
   ·rw [h] at h2;cases h2
  rw [qBx]
  by_cases hc:prev≠some x.1∧f x.1=true
  ·rw [if_pos hc,List.mem_cons,ih];constructor
   ·rintro (rfl|⟨⟨y,hy,hyq⟩,hf,hne⟩)
    ·exact ⟨⟨x,by simp,rfl⟩,hc.2,hc.1⟩
    ·exact ⟨⟨y,by simp [hy],hyq⟩,hf,fun e=>later e (fun e'=>hne (by rw [e'])) ⟨y,hy,hyq⟩⟩
   ·rintro ⟨⟨y,hy,hyq⟩,hf,hne⟩
    by_cases e:x.1=q
    ·exact .inl e.symm
    ·rcases List.mem_cons.1 hy with rfl|hy
     ·exact absurd hyq e
     ·exact .inr ⟨⟨y,hy,hyq⟩,hf,fun e'=>e (Option.some.inj e')⟩
  ·rw [if_neg hc,ih];constructor
   ·rintro ⟨⟨y,hy,hyq⟩,hf,hne⟩;exact ⟨⟨y,by simp [hy],hyq⟩,hf,fun e=>later e (fun e'=>hne (by rw [e'])) ⟨y,hy,hyq⟩⟩
   ·rintro ⟨⟨y,hy,hyq⟩,hf,hne⟩
    have e:x.1≠q:=fun e=>hc ⟨by rw [e];exact hne,by rw [e];exact hf⟩
    rcases List.mem_cons.1 hy with rfl|hy
    ·exact absurd hyq e
    ·exact ⟨⟨y,hy,hyq⟩,hf,fun e'=>e (Option.some.inj e')⟩
theorem qLk (f:ByteArray→Bool):∀ (t:List Ent) (prev:Option ByteArray),qJm t→(∀ p,prev=some p→∀ x ∈ t,blt x.1 p=false)→(qBx f prev t).Pairwise fun p q=>blt p q=true
|[],prev,_,_=>.nil
|x :: r,prev,h,hp=>by
  obtain ⟨hx,hr⟩:=List.pairwise_cons.1 h
  have hp':∀ p,some x.1=some p→∀ y ∈ r,blt y.1 p=false:=fun p e y hy=>by simp only [Option.some.injEq] at e;subst e;exact hx y hy
  have ih:=qLk f r (some x.1) hr hp'
  rw [qBx];split
  ·refine List.pairwise_cons.2 ⟨fun q hq=>?_,ih⟩
   obtain ⟨⟨y,hy,hyq⟩,-,hne⟩:=(qHh f q r (some x.1) hr hp').1 hq
   have h2:=hx y hy
   rw [hyq] at h2
   rcases qEa x.1 q with h|h|h
   ·exact h
   ·exact absurd (by rw [h]) hne
   ·rw [h] at h2;cases h2
  ·exact ih
theorem qTk:∀ {l m:List ByteArray},(l.Pairwise fun p q=>blt p q=true)→(m.Pairwise fun p q=>blt p q=true)→(∀ q,q ∈ l↔q ∈ m)→l=m
|[],[],_,_,_=>rfl
|[],y :: m,_,_,h=>absurd ((h y).2 (by simp)) (by simp)
|x :: l,[],_,_,h=>absurd ((h x).1 (by simp)) (by simp)
|x :: l,y :: m,hl,hm,h=>by
  obtain ⟨h1,h2⟩:=List.pairwise_cons.1 hl;obtain ⟨h3,h4⟩:=List.pairwise_cons.1 hm
  have e:x=y:=by
   rcases List.mem_cons.1 ((h x).1 (by simp)) with e|e
   ·exact e
   ·rcases List.mem_cons.1 ((h y).2 (by simp)) with e'|e'
    ·exact e'.symm
    ·have a:=h3 x e
     have b:=h1 y e'
     rw [qAz a] at b;cases b
  subst e
  congr 1
  refine qTk h2 h4 fun q=>?_
  have hq:=h q
  simp only [List.mem_cons] at hq;constructor
  ·intro hql
   rcases hq.1 (.inr hql) with e|e
   ·exact absurd e.symm (zA3 (h1 q hql))
   ·exact e
  ·intro hqm
   rcases hq.2 (.inr hqm) with e|e
   ·exact absurd e.symm (zA3 (h3 q hqm))
   ·exact e
end Go.Tr
end
