/-
  The plain part of diff: the longest common row behind each bV, the steps of the iF, their zHo.
-/
import Derived.Test.YtdfjeokjmigkaaaGreatRcM
set_option linter.unusedSimpArgs false
set_option linter.unusedVariables false
section
set_option maxRecDepth 20000
namespace Go.Proofs.YtdfjeokjmigkaaaGreat
open Go Go.Eng Go.RowKit Go.Tr Go.Dk Go.Rc
set_option maxHeartbeats 4000000 in
theorem qPj (a h s:Int × ByteArray) (T:ByteArray) (N E:Int)
  (cm:HFun Tryz.prog 33 [.v (.string (nV a)),.v (.string h.2),.v (.string s.2)] (fun r st=>r=.tup ([.string T,.int .i64 N,.int .i64 E].map .v))) :
  HFun Tryz.prog 20 [fE a,fE h,fE s] (fun r st=>r=.tup ([.string (iX h s T N E).1,.int .i64 (iX h s T N E).2.1,.int .i64 (iX h s T N E).2.2].map .v)):=by
 refine eF (N:=44) Tryz.func20 rfl Tryz.ntmps20 Tryz.results20 (by simp) ?_
 obtain ⟨ka,da⟩:=a;obtain ⟨kh,dh⟩:=h;obtain ⟨ks,ds⟩:=s;obtain ⟨B,hB⟩:∃ B,nV (ka,da)=B:=⟨_,rfl⟩;rw [hB] at cm;dsimp only at cm;refine zE ?_;refine zJ (fun K hK=>?_);simp (disch:=omega) only [push_cast,↓Int.cast_ofNat_Int,simprocAttr];refine hK _ ?_
 by_cases h1:kh=2
 ·subst h1
  by_cases h2:ks=2
  ·subst h2
   have hmk:iX (2,dh) (2,ds) T N E=(if E=0 then (if 4096 < T.size then ({ data:=#[] },0,4) else (T,N,0)) else ({ data:=#[] },0,E)):=by rw [iX,if_pos ⟨rfl,rfl⟩]
   rw [hmk];refine zE ?_;refine zE ?_;refine zJ (fun K hK=>?_);simp (disch:=omega) only [push_cast,↓Int.cast_ofNat_Int,simprocAttr];(repeat refine ⟨by first|omega|decide|((repeat' apply And.intro) <;> first|omega|decide),?_⟩);refine hK _ ?_
   refine zA ?_;refine yC rfl ?_;refine zC ?_;refine zE ?_;refine zJ (fun K hK=>?_);simp (disch:=omega) only [push_cast,↓Int.cast_ofNat_Int,simprocAttr];refine hK _ ?_
   refine zE ?_;refine zE ?_;refine zJ (fun K hK=>?_);simp (disch:=omega) only [push_cast,↓Int.cast_ofNat_Int,simprocAttr];(repeat refine ⟨by first|omega|decide|((repeat' apply And.intro) <;> first|omega|decide),?_⟩);refine hK _ ?_
   refine zA ?_;refine qEd (fun _:Unit=>⟨[(4,.ptr 32 2 0 0),(5,.ptr 40 2 0 0),(6,.v (.string { data:=#[] })),(7,.v (.int .i64 0)),(8,.v (.int .i64 0)),(9,.v (.string B))],[(32,.bx true 33 [.v (.int .i64 2),.v (.string dh)]),(40,.bx true 33 [.v (.int .i64 2),.v (.string ds)])]⟩) (fun _=>True) [4,5,6,7,8,9] [32,40] ?_ ?_
   ·by_cases h3:ka=2
    ·subst h3;refine eQ rfl (fun _=>?_) (fun hf=>by simp at hf)
     have hB2:da=B:=hB
     subst hB2;refine zJ (fun K hK=>?_);simp (disch:=omega) only [push_cast,↓Int.cast_ofNat_Int,simprocAttr];(repeat refine ⟨by first|omega|decide|((repeat' apply And.intro) <;> first|omega|decide),?_⟩);refine hK _ ?_
     exact ⟨(),by simp only [zZ,zR,zP,zQ,zN,zS,zM,zX,zU,Nat.reduceEqDiff,reduceIte];try rfl,trivial⟩
    ·refine eQ rfl (fun ht=>by simp [h3] at ht) (fun _=>?_)
     have hB2:B={ data:=#[] }:=by rw [← hB,nV,if_neg h3]
     subst hB2;refine zC ?_;exact ⟨(),by simp only [zZ,zR,zP,zQ,zN,zS,zM,zX,zU,Nat.reduceEqDiff,reduceIte];try rfl,trivial⟩
   intro S' _ hE _;refine zE ?_;refine yB [4,5,6,7,8,9] [32,40] hE ?_;clear hE;refine zJ (fun K hK=>?_);simp (disch:=omega) only [push_cast,↓Int.cast_ofNat_Int,simprocAttr]
   refine qJz zYi cm (.cons (.v _) (.cons (.v _) (.cons (.v _) .nil))) ?_;with_reducible refine aB ?_;simp (disch:=omega) only [push_cast,↓Int.cast_ofNat_Int,simprocAttr]
   refine hK _ ?_;refine yB [6,7,8,10,11,12] [] (by simp only [zZ,zR,zP,zQ,zN,zS,zM,zX,zU,Nat.reduceEqDiff,reduceIte];exact rfl) ?_
   by_cases h4:E=0
   ·subst h4;rw [if_pos rfl];refine zE ?_;refine zE ?_;refine zJ (fun K hK=>?_);simp (disch:=omega) only [push_cast,↓Int.cast_ofNat_Int,simprocAttr];(repeat refine ⟨by first|omega|decide|((repeat' apply And.intro) <;> first|omega|decide),?_⟩);refine hK _ ?_
    refine zA ?_;refine yC rfl ?_;refine zC ?_;refine zE ?_;refine zE ?_
    by_cases h5:4096 < T.size
    ·rw [if_pos h5];refine zJ (fun K hK=>?_);simp (disch:=omega) only [push_cast,↓Int.cast_ofNat_Int,simprocAttr];(repeat refine ⟨by first|omega|decide|((repeat' apply And.intro) <;> first|omega|decide),?_⟩);refine hK _ ?_
     refine zA ?_;refine eQ rfl (fun _=>?_) (fun hf=>by simp at hf <;> omega)
     refine zE ?_;refine zJ (fun K hK=>?_);simp (disch:=omega) only [push_cast,↓Int.cast_ofNat_Int,simprocAttr];refine hK _ ?_
     refine zA ?_;refine zW ?_;refine zK ?_;simp only [yA,yM,yH,yE,aA,aC,yK,yJ,zS,zM,Nat.reduceEqDiff,reduceIte,reduceCtorEq];exact gD rfl
    ·rw [if_neg h5];refine zJ (fun K hK=>?_);simp (disch:=omega) only [push_cast,↓Int.cast_ofNat_Int,simprocAttr];(repeat refine ⟨by first|omega|decide|((repeat' apply And.intro) <;> first|omega|decide),?_⟩);refine hK _ ?_
     refine zA ?_;refine eQ rfl (fun ht=>by simp at ht <;> omega) (fun _=>?_)
     refine zC ?_;refine zE ?_;refine zJ (fun K hK=>?_);simp (disch:=omega) only [push_cast,↓Int.cast_ofNat_Int,simprocAttr];refine hK _ ?_
     refine zA ?_;refine zW ?_;simp only [yA,yM,yH,yE,aA,aC,yK,yJ,zS,zM,Nat.reduceEqDiff,reduceIte,reduceCtorEq];exact gD rfl
   ·have d4:decide (E=0)=false:=decide_eq_false h4
    rw [if_neg h4];refine zE ?_;refine zE ?_;refine zJ (fun K hK=>?_);simp (disch:=omega) only [push_cast,↓Int.cast_ofNat_Int,simprocAttr,d4];(repeat refine ⟨by first|omega|decide|((repeat' apply And.intro) <;> first|omega|decide),?_⟩);refine hK _ ?_
    refine zA ?_;refine yD rfl ?_;refine zE ?_;refine zJ (fun K hK=>?_);simp (disch:=omega) only [push_cast,↓Int.cast_ofNat_Int,simprocAttr];refine hK _ ?_
    refine zA ?_;refine zW ?_;refine zK ?_;simp only [yA,yM,yH,yE,aA,aC,yK,yJ,zS,zM,Nat.reduceEqDiff,reduceIte,reduceCtorEq];exact gD rfl
  ·have d2:decide (ks=2)=false:=decide_eq_false h2
   have hmk:iX (2,dh) (ks,ds) T N E=({ data:=#[] },0,12):=by rw [iX,if_neg fun h=>h2 h.2]
   rw [hmk];refine zE ?_;refine zE ?_;refine zJ (fun K hK=>?_);simp (disch:=omega) only [push_cast,↓Int.cast_ofNat_Int,simprocAttr,d2];(repeat refine ⟨by first|omega|decide|((repeat' apply And.intro) <;> first|omega|decide),?_⟩);refine hK _ ?_
   refine zA ?_;refine yD rfl ?_;refine zE ?_;refine zJ (fun K hK=>?_);simp (disch:=omega) only [push_cast,↓Int.cast_ofNat_Int,simprocAttr];refine hK _ ?_
   refine zA ?_;refine zW ?_;refine zK ?_;simp only [yA,yM,yH,yE,aA,aC,yK,yJ,zS,zM,Nat.reduceEqDiff,reduceIte,reduceCtorEq];exact gD rfl
 ·have d1:decide (kh=2)=false:=decide_eq_false h1
  have hmk:iX (kh,dh) (ks,ds) T N E=({ data:=#[] },0,12):=by rw [iX,if_neg fun h=>h1 h.1]
  rw [hmk];refine zE ?_;refine zE ?_;refine zJ (fun K hK=>?_);simp (disch:=omega) only [push_cast,↓Int.cast_ofNat_Int,simprocAttr,d1];(repeat refine ⟨by first|omega|decide|((repeat' apply And.intro) <;> first|omega|decide),?_⟩);refine hK _ ?_
  refine zA ?_;refine yD rfl ?_;refine zE ?_;refine zJ (fun K hK=>?_);simp (disch:=omega) only [push_cast,↓Int.cast_ofNat_Int,simprocAttr];refine hK _ ?_
  refine zA ?_;refine zW ?_;refine zK ?_;simp only [yA,yM,yH,yE,aA,aC,yK,yJ,zS,zM,Nat.reduceEqDiff,reduceIte,reduceCtorEq];exact gD rfl
set_option maxHeartbeats 1000000 in
theorem qK8 (a h s:Int × ByteArray) (T:ByteArray) (N E:Int)
  (cm:HFun Tryz.prog 33 [.v (.string (nV a)),.v (.string h.2),.v (.string s.2)] (fun r st=>r=.tup ([.string T,.int .i64 N,.int .i64 E].map .v))) :
  HFun Tryz.prog 18 [fE a,fE h,fE s] (fun r st=>r=.tup [fE (if okM (iX h s T N E)=true then (2,(iX h s T N E).1) else (0,{ data:=#[] })),.v (.bool (okM (iX h s T N E)))]∧st=[]):=by
 refine eF (N:=28) Tryz.func18 rfl Tryz.ntmps18 Tryz.results18 (by simp) ?_
 have c:=qPj a h s T N E cm
 obtain ⟨ka,da⟩:=a;obtain ⟨kh,dh⟩:=h;obtain ⟨ks,ds⟩:=s;generalize iX (kh,dh) (ks,ds) T N E=m at c ⊢;obtain ⟨t,n,e⟩:=m;dsimp only at c ⊢;refine zE ?_;refine zJ (fun K hK=>?_);simp (disch:=omega) only [push_cast,↓Int.cast_ofNat_Int,simprocAttr];refine hK _ ?_
 refine zE ?_;refine zJ (fun K hK=>?_);simp (disch:=omega) only [push_cast,↓Int.cast_ofNat_Int,simprocAttr]
 refine qJz zV1 c (.cons (aR (ka,da)) (.cons (aR (kh,dh)) (.cons (aR (ks,ds)) .nil))) ?_;with_reducible refine aB ?_;simp (disch:=omega) only [push_cast,↓Int.cast_ofNat_Int,simprocAttr]
 refine hK _ ?_
 by_cases h1:e=0
 ·subst h1
  by_cases h2:0 < n
  ·have d2:decide (0 < n)=true:=decide_eq_true h2
   have ho:okM (t,n,0)=false:=by simp [okM,h2]
   rw [ho];refine zE ?_;refine zE ?_;refine zJ (fun K hK=>?_);simp (disch:=omega) only [push_cast,↓Int.cast_ofNat_Int,simprocAttr,d2];(repeat refine ⟨by first|omega|decide|((repeat' apply And.intro) <;> first|omega|decide),?_⟩);refine hK _ ?_
   refine zA ?_;refine yD rfl ?_;refine zE ?_;refine zJ (fun K hK=>?_);simp (disch:=omega) only [push_cast,↓Int.cast_ofNat_Int,simprocAttr];(repeat refine ⟨by first|omega|decide|((repeat' apply And.intro) <;> first|omega|decide),?_⟩);refine hK _ ?_
   refine zA ?_;refine zW ?_;refine zK ?_;simp (disch:=omega) only [yA,yM,yH,yE,aA,aC,yK,yJ,push_cast,↓Int.cast_ofNat_Int,Nat.reduceBEq,Nat.reduceAdd,Nat.reduceLT,Nat.reduceEqDiff,reduceIte,reduceCtorEq,Nat.reduceLeDiff,Nat.reduceSub,List.reduceReplicate,Nat.reduceMul,Int.reduceToNat,Int.toNat_natCast,Nat.reducePow,reduceIte];exact qDv (n:=(0,{ data:=#[] })) ⟨rfl,rfl⟩
  ·have d2:decide (0 < n)=false:=decide_eq_false h2
   have ho:okM (t,n,0)=true:=by simp [okM];omega
   rw [ho];refine zE ?_;refine zE ?_;refine zJ (fun K hK=>?_);simp (disch:=omega) only [push_cast,↓Int.cast_ofNat_Int,simprocAttr,d2];(repeat refine ⟨by first|omega|decide|((repeat' apply And.intro) <;> first|omega|decide),?_⟩);refine hK _ ?_
   refine zA ?_;refine yC rfl ?_;refine zC ?_;refine zE ?_;refine zJ (fun K hK=>?_);simp (disch:=omega) only [push_cast,↓Int.cast_ofNat_Int,simprocAttr];(repeat refine ⟨by first|omega|decide|((repeat' apply And.intro) <;> first|omega|decide),?_⟩);refine hK _ ?_
   refine zA ?_;refine zW ?_;simp (disch:=omega) only [yA,yM,yH,yE,aA,aC,yK,yJ,push_cast,↓Int.cast_ofNat_Int,Nat.reduceBEq,Nat.reduceAdd,Nat.reduceLT,Nat.reduceEqDiff,reduceIte,reduceCtorEq,Nat.reduceLeDiff,Nat.reduceSub,List.reduceReplicate,Nat.reduceMul,Int.reduceToNat,Int.toNat_natCast,Nat.reducePow,reduceIte];exact qDv (n:=(2,t)) ⟨rfl,rfl⟩
 ·have d1:decide (e=0)=false:=decide_eq_false h1
  have ho:okM (t,n,e)=false:=by simp [okM,h1]
  rw [ho];refine zE ?_;refine zE ?_;refine zJ (fun K hK=>?_);simp (disch:=omega) only [push_cast,↓Int.cast_ofNat_Int,simprocAttr,d1];(repeat refine ⟨by first|omega|decide|((repeat' apply And.intro) <;> first|omega|decide),?_⟩);refine hK _ ?_
  refine zA ?_;refine yD rfl ?_;refine zE ?_;refine zJ (fun K hK=>?_);simp (disch:=omega) only [push_cast,↓Int.cast_ofNat_Int,simprocAttr];(repeat refine ⟨by first|omega|decide|((repeat' apply And.intro) <;> first|omega|decide),?_⟩);refine hK _ ?_
  refine zA ?_;refine zW ?_;refine zK ?_;simp (disch:=omega) only [yA,yM,yH,yE,aA,aC,yK,yJ,push_cast,↓Int.cast_ofNat_Int,Nat.reduceBEq,Nat.reduceAdd,Nat.reduceLT,Nat.reduceEqDiff,reduceIte,reduceCtorEq,Nat.reduceLeDiff,Nat.reduceSub,List.reduceReplicate,Nat.reduceMul,Int.reduceToNat,Int.toNat_natCast,Nat.reducePow,reduceIte];exact qDv (n:=(0,{ data:=#[] })) ⟨rfl,rfl⟩
end Go.Proofs.YtdfjeokjmigkaaaGreat
end
section
namespace Go.DiffM
variable {α:Type} [DecidableEq α]
def lcs:List α→List α→Nat
|[],_=>0
|_ :: _,[]=>0
|x :: xs,y :: ys=>if x=y then lcs xs ys + 1 else max (lcs xs (y :: ys)) (lcs (x :: xs) ys)
termination_by a b=>a.length + b.length
theorem zBz (b:List α):lcs [] b=0:=by cases b <;> simp [lcs]
theorem qL2 (a:List α):lcs a []=0:=by cases a <;> simp [lcs]
theorem qF5 (x:α) (xs:List α) (y:α) (ys:List α):lcs (x :: xs) (y :: ys)=if x=y then lcs xs ys + 1 else max (lcs xs (y :: ys)) (lcs (x :: xs) ys):=by rw [lcs]
theorem qRx:∀ (n:Nat) (a b:List α),a.length + b.length≤n→lcs a b≤a.length∧lcs a b≤b.length
|n,[],b,_=>by simp [zBz]
|n,a,[],_=>by simp [qL2]
|0,x :: xs,y :: ys,h=>by simp at h
|n + 1,x :: xs,y :: ys,h=>by
  simp only [List.length_cons] at h
  have h1:=qRx n xs ys (by omega)
  have h2:=qRx n xs (y :: ys) (by simp only [List.length_cons];omega)
  have h3:=qRx n (x :: xs) ys (by simp only [List.length_cons];omega)
  simp only [List.length_cons] at *
  rw [qF5];split <;> omega
def at2 (a b:List α) (i j:Nat):Nat:=lcs (a.drop i) (b.drop j)
theorem qSj (a b:List α) (i j:Nat) (h:a.length≤i∨b.length≤j):at2 a b i j=0:=by
 unfold at2
 rcases h with h|h
 ·rw [List.drop_eq_nil_of_le h,zBz]
 ·rw [List.drop_eq_nil_of_le h,qL2]
theorem qV6 (a b:List α) (i j:Nat) (hi:i < a.length) (hj:j < b.length):at2 a b i j=if a[i]=b[j] then at2 a b (i + 1) (j + 1) + 1 else max (at2 a b (i + 1) j) (at2 a b i (j + 1)):=by
 unfold at2;rw [List.drop_eq_getElem_cons hi,List.drop_eq_getElem_cons hj,qF5]
theorem qH2 (a b:List α) (i j:Nat):at2 a b i j≤a.length:=by
 have:=(qRx _ (a.drop i) (b.drop j) (Nat.le_refl _)).1
 unfold at2;simp at this;omega
def steps:List α→List α→List Nat
|[],[]=>[]
|x :: xs,[]=>1 :: steps xs []
|[],y :: ys=>2 :: steps [] ys
|x :: xs,y :: ys=>if x=y then 0 :: steps xs ys else if lcs (x :: xs) ys≤lcs xs (y :: ys) then 1 :: steps xs (y :: ys) else 2 :: steps (x :: xs) ys
termination_by a b=>a.length + b.length
theorem qEu (a b:List α) (i j:Nat) (hi:i < a.length) (hj:j < b.length) (he:a[i]=b[j]):steps (a.drop i) (b.drop j)=0 :: steps (a.drop (i + 1)) (b.drop (j + 1)):=by
 rw [List.drop_eq_getElem_cons hi,List.drop_eq_getElem_cons hj,steps,if_pos he]
theorem pB (a b:List α) (i j:Nat) (hi:i < a.length) (h:b.length≤j∨∃ hj:j < b.length,a[i]≠b[j]∧at2 a b i (j + 1)≤at2 a b (i + 1) j):steps (a.drop i) (b.drop j)=1 :: steps (a.drop (i + 1)) (b.drop j):=by
 rcases h with h|⟨hj,h1,h2⟩
 ·rw [List.drop_eq_getElem_cons hi,List.drop_eq_nil_of_le h,steps]
 ·unfold at2 at h2;rw [List.drop_eq_getElem_cons hi] at h2 ⊢;rw [List.drop_eq_getElem_cons hj] at h2 ⊢;rw [steps,if_neg h1,if_pos h2]
theorem sC (a b:List α) (i j:Nat) (hj:j < b.length) (h:a.length≤i∨∃ hi:i < a.length,a[i]≠b[j]∧at2 a b (i + 1) j < at2 a b i (j + 1)):steps (a.drop i) (b.drop j)=2 :: steps (a.drop i) (b.drop (j + 1)):=by
 rcases h with h|⟨hi,h1,h2⟩
 ·rw [List.drop_eq_getElem_cons hj,List.drop_eq_nil_of_le h,steps]
 ·unfold at2 at h2;rw [List.drop_eq_getElem_cons hi] at h2 ⊢;rw [List.drop_eq_getElem_cons hj] at h2 ⊢;rw [steps,if_neg h1,if_neg (by omega)]
theorem qHa (a b:List α) (i j:Nat) (hi:a.length≤i) (hj:b.length≤j):steps (a.drop i) (b.drop j)=[]:=by
 rw [List.drop_eq_nil_of_le hi,List.drop_eq_nil_of_le hj,steps]
def gX:List (Nat × Nat)→Nat→List (Nat × Nat)
|[],op=>[(op,1)]
|[(o,n)],op=>if o=op then [(o,n + 1)] else [(o,n),(op,1)]
|r :: s :: t,op=>r :: gX (s :: t) op
def zHo (l:List Nat):List (Nat × Nat):=l.foldl gX []
def iF (a b:List α):List (Nat × Nat):=zHo (steps a b)
theorem qG0 (l:List (Nat × Nat)) (o n op:Nat):gX (l ++ [(o,n)]) op=if o=op then l ++ [(o,n + 1)] else l ++ [(o,n),(op,1)]:=by
 induction l with
|nil=>simp only [List.nil_append,gX]
|cons r t ih =>
  cases t with
 |nil=>simp only [List.cons_append,List.nil_append,gX] at ih ⊢;split <;> rfl
 |cons s u =>
   simp only [List.cons_append] at ih ⊢;rw [gX];rw [ih];split <;> rfl
end Go.DiffM
end
