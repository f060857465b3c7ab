/-
  Plain: sorted rows.
-/
import Derived.Test.YtbdomkfdkfdfgaaGreatDoorOne
import Derived.Test.YtbdomkfdkfdfgaaGreatDoorChn
set_option linter.unusedSimpArgs false
set_option linter.unusedVariables false
section
set_option maxRecDepth 20000
namespace Go.Tr
open Go Go.Eng
def xV (out:List Ent) (e:Ent):List Ent:=out.takeWhile (fun x=>blt x.1 e.1) ++ e :: out.dropWhile (fun x=>blt x.1 e.1)
def sortS (t:List Ent):List Ent:=t.foldl xV []
theorem zQ9 {out:List Ent} {e:Ent} {i:Nat} (hi:i≤out.length) (h1:∀ j (h:j < out.length),j < i→blt out[j].1 e.1=true) (h2:i=out.length∨∃ h:i < out.length,blt out[i].1 e.1=false):xV out e=out.take i ++ [e] ++ out.drop i:=by
 have key:∀ (out:List Ent) (i:Nat),i≤out.length→(∀ j (h:j < out.length),j < i→blt out[j].1 e.1=true)→(i=out.length∨∃ h:i < out.length,blt out[i].1 e.1=false) →
   out.takeWhile (fun x=>blt x.1 e.1)=out.take i∧out.dropWhile (fun x=>blt x.1 e.1)=out.drop i:=by
  intro out
  induction out with
 |nil=>intro i hi _ _;simp
 |cons x r ih =>
   intro i hi h1 h2
   cases i with
  |zero =>
    rcases h2 with h2|⟨h,h2⟩
    ·simp at h2
    ·simp only [List.getElem_cons_zero] at h2;simp [List.takeWhile_cons,List.dropWhile_cons,h2]
  |succ i =>
    have hx:=h1 0 (by simp) (by omega)
    simp only [List.getElem_cons_zero] at hx;obtain ⟨a,b⟩:=ih i (by simpa using hi) (fun j hj hji=>by have:=h1 (j + 1) (by simpa using hj) (by omega);simpa using this) (by
     rcases h2 with h2|⟨h,h2⟩
     ·left;simpa using h2
     ·right;exact ⟨by simpa using h,by simpa using h2⟩)
    simp [List.takeWhile_cons,List.dropWhile_cons,hx,a,b]
 obtain ⟨a,b⟩:=key out i hi h1 h2;rw [xV,a,b];simp
theorem zJp (out:List Ent) (e:Ent):(xV out e).length=out.length + 1:=by
 have:=congrArg List.length (List.takeWhile_append_dropWhile (p:=fun x:Ent=>blt x.1 e.1) (l:=out))
 rw [List.length_append] at this;rw [xV,List.length_append,List.length_cons];omega
theorem qU5:∀ (t out:List Ent),(t.foldl xV out).length=out.length + t.length
|[],out=>rfl
|e :: t,out=>by rw [List.foldl_cons,qU5 t,zJp,List.length_cons];omega
end Go.Tr
namespace Go.Proofs.YtbdomkfdkfdfgaaGreatDoor
open Go Go.Eng Go.RowKit Go.Tr
set_option maxHeartbeats 8000000 in
theorem zQy (t:List Ent) (hl:t.length≤2097152):HFun Tryz.prog 44 [.lst false (aL t)] (fun h st=>h=.own 0∧st=[(0,fW (sortS t))]):=by
 refine fJ (N:=51) Tryz.func44 rfl Tryz.ntmps44 Tryz.results44 (by simp) ?_
 refine zE ?_;refine zJ (fun K hK=>?_);simp (disch:=omega) only [push_cast,↓Int.cast_ofNat_Int,simprocAttr];refine hK _ ?_;clear hK K
 refine zE ?_;refine zJ (fun K hK=>?_);simp (disch:=omega) only [push_cast,↓Int.cast_ofNat_Int,simprocAttr];refine hK _ ?_;clear hK K
 refine zE ?_;refine zE ?_;refine zJ (fun K hK=>?_);simp (disch:=omega) only [push_cast,↓Int.cast_ofNat_Int,simprocAttr];refine hK _ ?_;clear hK K
 refine zA ?_;refine zD ?_;refine qR 3 296 67 3 rfl (by simp only [lR,qS,qT,fE,eE,eW,dZ,iM,fC,gV,fB,fA,gC,fD,eZ,eD,fX,fZ,fY,iL,iZ,gU,Nat.reduceBEq,Nat.reduceEqDiff,reduceIte,cond_true,cond_false,List.map_cons,List.map_nil];exact rfl) ?_
 refine cH (fun x:Nat × List Ent=>⟨[(0,.lst false (aL t)),(3,.own 296),(4,.v (.int .i64 x.1))],[(296,fW x.2)]⟩) (fun x=>x.1≤t.length∧x.2=(t.take x.1).foldl xV []) (fun x=>t.length - x.1) [0,3,4] [296] (0,[]) (by simp only [zZ,zR,zP,zQ,zN,zS,zM,zX,zU,Nat.reduceEqDiff,reduceIte];rfl) ⟨Nat.zero_le _,rfl⟩ ?_
 rintro ⟨i,out⟩ ⟨hi,ho⟩;simp only at hi ho
 have hol:out.length=i:=by rw [ho,qU5,List.length_take];simp;omega
 by_cases hlt:i < t.length
 ·refine zE ?_;refine zE ?_;refine zJ (fun K hK=>?_);simp (disch:=omega) only [push_cast,↓Int.cast_ofNat_Int,simprocAttr,yV];refine hK _ ?_;clear hK K
  refine zA ?_;refine yD rfl ?_;refine zC ?_;refine zE ?_;refine zD ?_;refine zE ?_;refine zJ (fun K hK=>?_);simp (disch:=omega) only [push_cast,↓Int.cast_ofNat_Int,simprocAttr];refine hK _ ?_;clear hK K
  refine zE ?_;refine zD ?_;refine cH (fun x:Nat=>⟨[(0,.lst false (aL t)),(3,.own 296),(4,.v (.int .i64 i)),(5,.v (.int .i64 x))],[(296,fW out)]⟩) (fun x=>x≤out.length∧∀ j (h:j < out.length),j < x→blt out[j].1 t[i].1=true) (fun x=>out.length - x) [0,3,4,5] [296] 0 (by simp only [zZ,zR,zP,zQ,zN,zS,zM,zX,zU,Nat.reduceEqDiff,reduceIte];try rfl) ⟨Nat.zero_le _,fun j _ h=>absurd h (Nat.not_lt_zero _)⟩ ?_
  rintro k ⟨hk,hb⟩
  have fin:(k=out.length∨∃ h:k < out.length,blt out[k].1 t[i].1=false)→xV out t[i]=out.take k ++ [t[i]] ++ out.drop k:=zQ9 hk hb
  by_cases hkl:k < out.length
  ·cases hb2:blt out[k].1 t[i].1 with
  |true =>
    have hb3:Op.bytesLess out[k].1.toList t[i].1.toList=true:=hb2
    refine zE ?_;refine zE ?_;refine dY 17 mixed (by kernel_rfl) (fun K hK K1 hK1=>?_);simp (disch:=omega) only [push_cast,↓Int.cast_ofNat_Int,simprocAttr,yV,yU,yW hkl,yW hlt,hb3]
    refine hK1 _ ?_;(try clear hK1 K1);with_reducible refine aC ?_;simp (disch:=omega) only [push_cast,↓Int.cast_ofNat_Int,simprocAttr,yV,yU,yW hkl,yW hlt,hb3]
    refine hK _ ?_;clear hK K;refine yD rfl ?_;refine zC ?_;refine zA ?_;refine zD ?_;refine zJ (fun K hK=>?_);simp (disch:=omega) only [push_cast,↓Int.cast_ofNat_Int,simprocAttr];refine hK _ ?_;clear hK K
    refine zB ?_;refine zA ?_;refine ⟨k + 1,by simp only [zZ,zR,zP,zQ,zN,zS,zM,zX,zU,Nat.reduceEqDiff,reduceIte];try rfl,⟨hkl,fun j hj h=>?_⟩,by omega⟩
    by_cases e:j=k
    ·subst e;exact hb2
    ·exact hb j hj (by omega)
  |false =>
    have hb3:Op.bytesLess out[k].1.toList t[i].1.toList=false:=hb2
    have he:=fin (.inr ⟨hkl,hb2⟩)
    refine zE ?_;refine zE ?_;refine dY 17 mixed (by kernel_rfl) (fun K hK K1 hK1=>?_);simp (disch:=omega) only [push_cast,↓Int.cast_ofNat_Int,simprocAttr,yV,yU,yW hkl,yW hlt,hb3]
    refine hK1 _ ?_;(try clear hK1 K1);with_reducible refine aC ?_;simp (disch:=omega) only [push_cast,↓Int.cast_ofNat_Int,simprocAttr,yV,yU,yW hkl,yW hlt,hb3]
    refine hK _ ?_;clear hK K;refine yC rfl ?_;refine zT ?_;refine zG ?_;refine zG ?_;refine zH ?_;refine zE ?_;refine yB [0,3,4,5] [296] (by simp only [zZ,zR,zP,zQ,zN,zS,zM,zX,zU,Nat.reduceEqDiff,reduceIte];exact rfl) ?_
    refine tE 296 rfl (by simp only [pQ,mK,jU,lU,jN,vT,mG,mH,jR,mF,mE,qB,mJ,mD,pK,pM,pN,Nat.reduceEqDiff,reduceIte,List.map_cons,List.map_nil,List.map_append];exact rfl) ?_
    have ht:(aL out).take out.length=aL out:=List.take_of_length_le (by rw [yV];exact Nat.le_refl _)
    refine zJ (fun K hK=>?_);simp (disch:=omega) only [push_cast,↓Int.cast_ofNat_Int,simprocAttr,yV,yU,ht,xG,List.length_drop];(repeat refine ⟨by first|omega|decide|((repeat' apply And.intro) <;> first|omega|decide),?_⟩);refine hK _ ?_;clear hK K
    refine yB [0,3,4,5,6] [256] (by simp only [zZ,zR,zP,zQ,zN,zS,zM,zX,zU,Nat.reduceEqDiff,reduceIte];exact rfl) ?_
    refine tE 256 rfl (by simp only [pQ,mK,jU,lU,jN,vT,mG,mH,jR,mF,mE,qB,mJ,mD,pK,pM,pN,Nat.reduceEqDiff,reduceIte,List.map_cons,List.map_nil,List.map_append];exact rfl) ?_
    refine nP 13 [(0,some 296),(4,some 296),(10,some 296),(12,some 296)] [[],[(296,fW [])],[(296,fW (out.take k))],[(296,fW (out.take k ++ [t[i]]))],[(296,fW (out.take k ++ [t[i]] ++ out.drop k))]] [] mixed (by kernel_rfl) (by kernel_rfl) rfl (fun K hK K1 hK1=>?_);simp (disch:=omega) only [push_cast,↓Int.cast_ofNat_Int,simprocAttr,bZ,bP,cT,bY,dR,iS,bX,bN,aN,aU,bC,aP,aQ,dT,cA,cG,cW,cV,bQ,aV,bD,dW,dV,dU,cB,cC,cF,cE,dX,bV,cD,cU,List.tail_cons,List.take_nil,List.drop_nil,yV,yU,xE,xG,yW hlt,List.drop_zero]
    have l1:(out.take k).length≤2097152:=by rw [List.length_take];omega
    have l2:(out.take k).length + (out.drop k).length=out.length:=by rw [List.length_take,List.length_drop];omega
    refine ⟨rfl,by show _ * 40≤_;omega,rfl,⟨of_eq_true (yU [t[i]]),by show _ * 40≤_;omega⟩,by rw [xF],by show _ * 40≤_;omega,by rw [wB],?_⟩
    rw [← he];refine hK1 _ ?_;(try clear hK1 K1);with_reducible refine aC ?_;simp (disch:=omega) only [push_cast,↓Int.cast_ofNat_Int,simprocAttr]
    refine hK _ ?_;clear hK K;refine zB ?_;refine zA ?_;refine zJ (fun K hK=>?_);simp (disch:=omega) only [push_cast,↓Int.cast_ofNat_Int,simprocAttr];refine hK _ ?_;clear hK K
    refine zA ?_;refine ⟨(i + 1,xV out t[i]),by simp only [zZ,zR,zP,zQ,zN,zS,zM,zX,zU,Nat.reduceEqDiff,reduceIte];try rfl,⟨hlt,?_⟩,by dsimp only;omega⟩
    dsimp only;rw [List.take_succ_eq_append_getElem hlt,List.foldl_append,← ho];rfl
  ·have hkk:k=out.length:=by omega
   have he:=fin (.inl hkk)
   refine zE ?_;refine zE ?_;refine dY 17 mixed (by kernel_rfl) (fun K hK K1 hK1=>?_);simp (disch:=omega) only [push_cast,↓Int.cast_ofNat_Int,simprocAttr,yV]
   refine hK1 _ ?_;(try clear hK1 K1);with_reducible refine aC ?_;simp (disch:=omega) only [push_cast,↓Int.cast_ofNat_Int,simprocAttr,yV]
   refine hK _ ?_;clear hK K;refine yC rfl ?_;refine zT ?_;refine zG ?_;refine zG ?_;refine zH ?_;refine zE ?_;refine yB [0,3,4,5] [296] (by simp only [zZ,zR,zP,zQ,zN,zS,zM,zX,zU,Nat.reduceEqDiff,reduceIte];exact rfl) ?_
   refine tE 296 rfl (by simp only [pQ,mK,jU,lU,jN,vT,mG,mH,jR,mF,mE,qB,mJ,mD,pK,pM,pN,Nat.reduceEqDiff,reduceIte,List.map_cons,List.map_nil,List.map_append];exact rfl) ?_
   have ht:(aL out).take out.length=aL out:=List.take_of_length_le (by rw [yV];exact Nat.le_refl _)
   refine zJ (fun K hK=>?_);simp (disch:=omega) only [push_cast,↓Int.cast_ofNat_Int,simprocAttr,yV,yU,ht,xG,List.length_drop];(repeat refine ⟨by first|omega|decide|((repeat' apply And.intro) <;> first|omega|decide),?_⟩);refine hK _ ?_;clear hK K
   refine yB [0,3,4,5,6] [256] (by simp only [zZ,zR,zP,zQ,zN,zS,zM,zX,zU,Nat.reduceEqDiff,reduceIte];exact rfl) ?_
   refine tE 256 rfl (by simp only [pQ,mK,jU,lU,jN,vT,mG,mH,jR,mF,mE,qB,mJ,mD,pK,pM,pN,Nat.reduceEqDiff,reduceIte,List.map_cons,List.map_nil,List.map_append];exact rfl) ?_
   refine nP 13 [(0,some 296),(4,some 296),(10,some 296),(12,some 296)] [[],[(296,fW [])],[(296,fW (out.take k))],[(296,fW (out.take k ++ [t[i]]))],[(296,fW (out.take k ++ [t[i]] ++ out.drop k))]] [] mixed (by kernel_rfl) (by kernel_rfl) rfl (fun K hK K1 hK1=>?_);simp (disch:=omega) only [push_cast,↓Int.cast_ofNat_Int,simprocAttr,bZ,bP,cT,bY,dR,iS,bX,bN,aN,aU,bC,aP,aQ,dT,cA,cG,cW,cV,bQ,aV,bD,dW,dV,dU,cB,cC,cF,cE,dX,bV,cD,cU,List.tail_cons,List.take_nil,List.drop_nil,yV,yU,xE,xG,yW hlt,List.drop_zero]
   have l1:(out.take k).length≤2097152:=by rw [List.length_take];omega
   have l2:(out.take k).length + (out.drop k).length=out.length:=by rw [List.length_take,List.length_drop];omega
   refine ⟨rfl,by show _ * 40≤_;omega,rfl,⟨of_eq_true (yU [t[i]]),by show _ * 40≤_;omega⟩,by rw [xF],by show _ * 40≤_;omega,by rw [wB],?_⟩
   rw [← he];refine hK1 _ ?_;(try clear hK1 K1);with_reducible refine aC ?_;simp (disch:=omega) only [push_cast,↓Int.cast_ofNat_Int,simprocAttr]
   refine hK _ ?_;clear hK K;refine zB ?_;refine zA ?_;refine zJ (fun K hK=>?_);simp (disch:=omega) only [push_cast,↓Int.cast_ofNat_Int,simprocAttr];refine hK _ ?_;clear hK K
   refine zA ?_;refine ⟨(i + 1,xV out t[i]),by simp only [zZ,zR,zP,zQ,zN,zS,zM,zX,zU,Nat.reduceEqDiff,reduceIte];try rfl,⟨hlt,?_⟩,by dsimp only;omega⟩
   dsimp only;rw [List.take_succ_eq_append_getElem hlt,List.foldl_append,← ho];rfl
 ·have hii:i=t.length:=by omega
  subst hii;rw [List.take_length] at ho;rw [ho];refine zE ?_;refine zE ?_;refine zJ (fun K hK=>?_);simp (disch:=omega) only [push_cast,↓Int.cast_ofNat_Int,simprocAttr,yV];refine hK _ ?_;clear hK K
  refine zA ?_;refine yC rfl ?_;refine zT ?_;refine zG ?_;refine zG ?_;refine zH ?_;refine zE ?_;refine zJ (fun K hK=>?_);simp (disch:=omega) only [push_cast,↓Int.cast_ofNat_Int,simprocAttr];refine hK _ ?_;clear hK K
  refine zA ?_;refine zW ?_;simp only [yA,yM,yH,yE,aA,aD,yK,yJ,zS,zM,Nat.reduceEqDiff,reduceIte,reduceCtorEq];exact rC rfl (fG _) ⟨rfl,rfl⟩
end Go.Proofs.YtbdomkfdkfdfgaaGreatDoor
end
section
namespace Go.Tr
open Go
def rX (t:List Ent):Prop:=t.Pairwise fun x y=>blt y.1 x.1=false
theorem qCv {a b c:ByteArray} (h1:blt b a=false) (h2:blt c b=false):blt c a=false:=by
 cases e:blt c a with
|false=>rfl
|true =>
  rcases jJ a b with h|h|h
  ·rw [iP e h] at h2;cases h2
  ·rw [← h,e] at h2;cases h2
  ·rw [h] at h1;cases h1
theorem qZ7 {out:List Ent} {e:Ent} (h:rX out):rX (xV out e):=by
 unfold xV
 induction out with
|nil=>simp [rX]
|cons x r ih =>
  obtain ⟨hx,hr⟩:=List.pairwise_cons.1 h
  cases hb:blt x.1 e.1 with
 |true =>
   simp only [List.takeWhile_cons,List.dropWhile_cons,hb,if_true,List.cons_append];refine List.pairwise_cons.2 ⟨fun y hy=>?_,ih hr⟩
   rcases List.mem_append.1 hy with hy|hy
   ·exact hx y ((List.takeWhile_sublist _).subset hy)
   ·rcases List.mem_cons.1 hy with rfl|hy
    ·exact iQ hb
    ·exact hx y ((List.dropWhile_sublist _).subset hy)
 |false =>
   simp only [List.takeWhile_cons,List.dropWhile_cons,hb,Bool.false_eq_true,if_false,List.nil_append];refine List.pairwise_cons.2 ⟨fun y hy=>?_,h⟩
   rcases List.mem_cons.1 hy with rfl|hy
   ·exact hb
   ·exact qCv hb (hx y hy)
theorem zFt (out:List Ent) (e:Ent):(xV out e).Perm (e :: out):=by
 unfold xV;refine List.perm_middle.trans (List.Perm.cons e ?_);rw [List.takeWhile_append_dropWhile]
theorem qJe:∀ (t out:List Ent),rX out→rX (t.foldl xV out)
|[],out,h=>h
|e :: t,out,h=>by rw [List.foldl_cons];exact qJe t _ (qZ7 h)
theorem qP8:∀ (t out:List Ent),(t.foldl xV out).Perm (out ++ t)
|[],out=>by simp
|e :: t,out=>by
  rw [List.foldl_cons];refine (qP8 t _).trans ?_;refine (List.Perm.append_right t (zFt out e)).trans ?_;exact (List.perm_middle (l₁:=out)).symm
theorem qFz (t:List Ent):rX (sortS t):=qJe t [] .nil
theorem oC (t:List Ent):(sortS t).Perm t:=qP8 t []
theorem qVw {l X:List Ent} (hn:rX l) (h:rise X) (hp:l.Perm X):l=X:=by
 refine List.Perm.eq_of_pairwise (le:=fun x y:Ent=>blt y.1 x.1=false) (fun a b ha hb h1 h2=>?_) hn (h.imp fun hh=>iQ hh) hp
 have he:a.1=b.1:=by
  rcases jJ a.1 b.1 with h|h|h
  ·rw [h] at h2;cases h2
  ·exact h
  ·rw [h] at h1;cases h1
 have ha':a ∈ X:=hp.mem_iff.1 ha
 obtain ⟨i,hi,rfl⟩:=List.getElem_of_mem ha';obtain ⟨j,hj,rfl⟩:=List.getElem_of_mem hb
 have:=zG1 h hi hj he
 subst this;rfl
theorem zMc {l X:List Ent} (h:rise X) (hp:l.Perm X):sortS l=X:=qVw (qFz l) h ((oC l).trans hp)
end Go.Tr
end
