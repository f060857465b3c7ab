/-
  merge.places, walked.
-/
import Derived.Test.YtmgilahhnbopmaaKept
import Derived.Test.YtmgilahhnbopmaaMgA
import Derived.Test.YtmgilahhnbopmaaMgL
set_option linter.unusedSimpArgs false
set_option linter.unusedVariables false
section
set_option maxRecDepth 20000
namespace Go.Proofs.Ytmgilahhnbopmaa
open Go Go.Eng Go.RowKit Go.DiffM
def lV:List Nat→Nat→Nat→List (Int × Int)
|[],_,_=>[]
|x :: r,i,j=>(if x=0 then [((i:Int),(j:Int))] else []) ++ lV r (if x=2 then i else i + 1) (if x=1 then j else j + 1)
theorem pR {α:Type} [DecidableEq α]:∀ (n:Nat) (a b:List α),a.length + b.length≤n→∀ x ∈ cZ a b,x≤2
|_,[],[],_=>by simp [cZ]
|0,x :: xs,_,h=>by simp at h
|0,[],y :: ys,h=>by simp at h
|n + 1,x :: xs,[],h=>by
  simp only [List.length_cons] at h
  have:=pR n xs [] (by omega)
  rw [cZ];intro z hz;rcases List.mem_cons.1 hz with rfl|hz
  ·omega
  ·exact this z hz
|n + 1,[],y :: ys,h=>by
  simp only [List.length_cons] at h
  have:=pR n [] ys (by omega)
  rw [cZ];intro z hz;rcases List.mem_cons.1 hz with rfl|hz
  ·omega
  ·exact this z hz
|n + 1,x :: xs,y :: ys,h=>by
  simp only [List.length_cons] at h
  have h1:=pR n xs ys (by omega)
  have h2:=pR n xs (y :: ys) (by simp only [List.length_cons];omega)
  have h3:=pR n (x :: xs) ys (by simp only [List.length_cons];omega)
  rw [cZ];split
  ·intro z hz;rcases List.mem_cons.1 hz with rfl|hz
   ·omega
   ·exact h1 z hz
  ·split
   ·intro z hz;rcases List.mem_cons.1 hz with rfl|hz
    ·omega
    ·exact h2 z hz
   ·intro z hz;rcases List.mem_cons.1 hz with rfl|hz
    ·omega
    ·exact h3 z hz
theorem qKc (l:List Nat):∀ (n i j:Nat),lV (List.replicate n 0 ++ l) i j=(List.range n).map (fun (k:Nat)=>(((i + k:Nat):Int),((j + k:Nat):Int))) ++ lV l (i + n) (j + n)
|0,i,j=>by simp
|n + 1,i,j=>by
  rw [List.replicate_succ,List.cons_append,lV,if_pos rfl,if_neg (by omega),if_neg (by omega),qKc l n,List.range_succ_eq_map,List.map_cons,List.map_map]
  simp only [Nat.add_zero,List.cons_append,List.nil_append,Function.comp_def]
  congr 1
  congr 1
  ·apply List.map_congr_left;intro k _;simp only [Nat.succ_eq_add_one,Prod.mk.injEq];omega
  ·congr 1 <;> omega
theorem qKb (l:List Nat):∀ (n i j:Nat),lV (List.replicate n 1 ++ l) i j=lV l (i + n) j
|0,i,j=>by simp
|n + 1,i,j=>by
  rw [List.replicate_succ,List.cons_append,lV,if_neg (by omega),if_neg (by omega),if_pos rfl,qKb l n,List.nil_append]
  congr 1;omega
theorem qKa (l:List Nat):∀ (n i j:Nat),lV (List.replicate n 2 ++ l) i j=lV l i (j + n)
|0,i,j=>by simp
|n + 1,i,j=>by
  rw [List.replicate_succ,List.cons_append,lV,if_neg (by omega),if_pos rfl,if_neg (by omega),qKa l n,List.nil_append]
  congr 1;omega
theorem qDt:∀ (l:List (Nat × Nat)) (i j:Nat),Fine l→(∀ x ∈ jY l,x≤2)→lV (jY l) i j=tA l i j
|[],_,_,_,_=>rfl
|(op,n) :: r,i,j,hf,h=>by
  rw [oT] at h ⊢
  have hn:=hf.head
  have hop:op≤2:=h op (by simp;left;simp only at hn;omega)
  have ih:=fun i j=>qDt r i j hf.tail (fun x hx=>h x (by simp [hx]))
  rw [tA]
  have:op=0∨op=1∨op=2:=by omega
  rcases this with rfl|rfl|rfl
  ·rw [qKc,ih];rfl
  ·rw [qKb,ih];rfl
  ·rw [qKa,ih];rfl
theorem qZl (a b:List ByteArray):lV (cZ a b) 0 0=qPw a b:=by
 obtain ⟨h1,h2⟩:=qFs a b;rw [← h2];exact qDt _ 0 0 h1 (by rw [h2];exact pR _ a b (Nat.le_refl _))
end Go.Proofs.Ytmgilahhnbopmaa
end
section
set_option maxRecDepth 20000
namespace Go.Proofs.Ytmgilahhnbopmaa
open Go Go.Eng Go.RowKit Go.DiffM

def qX (p:Nat × Nat):Int × Int:=((p.1:Int),(p.2:Int))
theorem qUq:∀ (s:List Nat) (i j:Nat),lV s i j=(knS s i j).map qX
|[],_,_=>rfl
|x :: r,i,j=>by
  rw [lV,knS,qUq r,List.map_append]
  congr 1
  split <;> rfl
theorem qKd (a b:List ByteArray):qPw a b=(kn a b).map qX:=by rw [← qZl,kn,qUq]
theorem zB7 (l:List Int) (i:Nat) (x:Int):(gR l).set i [.v (.int .i64 x)]=gR (l.set i x):=by simp [gR,List.map_set,qSn]
abbrev qB3 (l:List Int):Row:=.sl true 3 1 (gR l)
def eE (o a:List ByteArray):List Int:=plc o.length (kn o a)
theorem lU (o a:List ByteArray):(eE o a).length=o.length:=qSb _ _
set_option maxHeartbeats 4000000 in
theorem qDn (o a:List ByteArray) (ho:o.length≤400) (ha:a.length≤400):HFun Try.prog 11 [.lst false (aD o),.lst false (aD a)] (fun h st =>
  h=.tup [.own 0,.v (.int .i64 0)]∧st=[(0,qB3 (eE o a))]):=by
 refine rT (N:=38) Try.func11 rfl Try.ntmps11 Try.results11 (by simp) ?_
 refine zE ?_;refine zJ (fun K hK=>?_);simp (disch:=omega) only [push_cast,↓iC9,simprocAttr];refine hK _ ?_;clear hK K
 refine zE ?_;refine zJ (fun K hK=>?_);simp (disch:=omega) only [push_cast,↓iC9,simprocAttr]
 refine hat 112 zLv (zH8 o a) (.cons (dF (aQ _)) (.cons (dF (aQ _)) .nil)) ?_;rintro _ _ (⟨hlim,rfl,rfl⟩|⟨-,-,rfl,rfl⟩)
 ·omega
 rw [qKd];with_reducible refine aH ?_;simp (disch:=omega) only [push_cast,↓iC9,simprocAttr]
 refine hK _ ?_;clear hK K;refine zE ?_;refine zE ?_;refine zJ (fun K hK=>?_);simp (disch:=omega) only [push_cast,↓iC9,simprocAttr];refine hK _ ?_;clear hK K
 refine zA ?_;refine yC rfl ?_;refine zC ?_;refine zE ?_;refine yB [0,6] [112] (by simp only [zZ,zR,zP,zQ,zN,zS,zM,zX,zU,Nat.reduceEqDiff,reduceIte];exact rfl) ?_
 have e1:[[FV.v (.int .i64 (-1))]]=gR [-1]:=rfl
 refine zJ (fun K hK=>?_);simp (disch:=omega) only [push_cast,↓iC9,simprocAttr,e1,aA]
 refine hat 184 zLu (zDg (-1) o.length (by omega)) (.cons (zEf (zEr _) rfl) (.cons (.v _) .nil)) ?_
 rintro _ _ ⟨rfl,rfl⟩;with_reducible refine aH ?_;simp (disch:=omega) only [push_cast,↓iC9,simprocAttr]
 refine hK _ ?_;clear hK K;refine zE ?_;refine zE ?_;refine zJ (fun K hK=>?_);simp (disch:=omega) only [push_cast,↓iC9,simprocAttr,nN,List.length_map];refine hK _ ?_;clear hK K
 refine zA ?_;refine zD ?_
 have hmem:=(oM o a).mem
 have hLl:(kn o a).length≤400:=by have:=(oM o a).len;omega
 have hd:eE o a=((kn o a).drop 0).foldl (fun (o:List Int) (p:Nat × Nat)=>o.set p.1 (p.2:Int)) (List.replicate o.length (-1)):=rfl
 generalize eE o a=P at *
 generalize kn o a=L at *
 refine fS (fun x:Nat × List Int=>⟨[(8,.own 184),(24,.own 112),(25,.v (.int .i64 L.length)),(26,.v (.int .i64 x.1))],[(112,zBu (L.map qX)),(184,qB3 x.2)]⟩)
  (fun x=>x.1≤L.length∧x.2.length=o.length∧P=(L.drop x.1).foldl (fun (o:List Int) (p:Nat × Nat)=>o.set p.1 (p.2:Int)) x.2) (fun x=>L.length - x.1) [8,24,25,26] [112,184] (0,List.replicate o.length (-1)) rfl ⟨Nat.zero_le _,by simp,hd⟩ ?_
 rintro ⟨n,out⟩ ⟨hn,hl,hP⟩;simp only at hn hl hP
 by_cases hlt:n < L.length
 ·obtain ⟨p,q,hpq⟩:∃ p q,L[n]=(p,q):=⟨L[n].1,L[n].2,rfl⟩
  have hp:=(hmem (p,q) (hpq ▸ List.getElem_mem hlt)).2.2.1
  rw [List.drop_eq_getElem_cons hlt,hpq,List.foldl_cons] at hP
  have hlm:n < (L.map qX).length:=by rw [List.length_map];exact hlt
  have hge:(L.map qX)[n]=((p:Int),(q:Int)):=by rw [List.getElem_map,hpq];rfl
  have hll:(lW (L.map qX)).length=L.length:=by rw [nN,List.length_map]
  refine zE ?_;refine zJ (fun K hK=>?_);simp (disch:=omega) only [push_cast,↓iC9,simprocAttr,hll];refine hK _ ?_;clear hK K
  refine zE ?_;refine yD rfl ?_;refine zC ?_;refine zE ?_;refine zD ?_;refine zE ?_;refine zJ (fun K hK=>?_);simp (disch:=omega) only [push_cast,↓iC9,simprocAttr,hll,pV,qE1 hlm,hge];refine hK _ ?_;clear hK K
  have hil:(gR out).length=o.length:=by rw [dJ,hl]
  refine zA ?_;refine zJ (fun K hK=>?_);simp (disch:=omega) only [push_cast,↓iC9,simprocAttr,hil,zB7,eU,fP,hl];(repeat refine ⟨by first|omega|decide|((repeat' apply And.intro) <;> first|omega|decide),?_⟩);refine hK _ ?_;clear hK K
  refine zB ?_;refine zA ?_;refine zJ (fun K hK=>?_);simp (disch:=omega) only [push_cast,↓iC9,simprocAttr];refine hK _ ?_;clear hK K
  refine zA ?_;exact ⟨(n + 1,out.set p q),rfl,⟨hlt,by simpa using hl,hP⟩,by dsimp only;omega⟩
 ·have hne:n=L.length:=by omega
  subst hne
  have hll:(lW (L.map qX)).length=L.length:=by rw [nN,List.length_map]
  rw [List.drop_length,List.foldl_nil] at hP;refine zE ?_;refine zJ (fun K hK=>?_);simp (disch:=omega) only [push_cast,↓iC9,simprocAttr,hll];refine hK _ ?_;clear hK K
  refine zE ?_;refine yC rfl ?_;refine zT ?_;refine zG ?_;refine zG ?_;refine zH ?_;refine zE ?_;refine zJ (fun K hK=>?_);simp (disch:=omega) only [push_cast,↓iC9,simprocAttr];refine hK _ ?_;clear hK K
  refine zA ?_;refine zW ?_;simp only [yA,yM,yH,yE,aR,bT,yK,yJ,zS,zM,Nat.reduceEqDiff,reduceIte,reduceCtorEq];exact xJ rfl (xH _) ⟨rfl,by rw [hP]⟩
end Go.Proofs.Ytmgilahhnbopmaa
end
