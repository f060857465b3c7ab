/-
  The plain laws of the distance.
-/
import Derived.Test.YtmgilahhnbopmaaMgG
import Derived.Test.YtmgilahhnbopmaaDiffL
set_option linter.unusedSimpArgs false
set_option linter.unusedVariables false
section
set_option maxRecDepth 20000
namespace Go.Proofs.Ytmgilahhnbopmaa
open Go Go.Eng Go.RowKit Go.DiffM
section
variable {α:Type} [DecidableEq α] {A B C X Y:α}
theorem zH7 (h1:A≠X) (h2:B≠X) (h3:C≠X) (h4:A≠B) (h5:A≠C) (h6:B≠C):kn [A,B,C] [X,B,C]=[(1,1),(2,2)]:=by
 simp [kn,cZ,lcs,knS,h1,h2,h3,h4,h5,h6,Ne.symm h1,Ne.symm h2,Ne.symm h3,Ne.symm h4,Ne.symm h5,Ne.symm h6]
theorem zH6 (h1:C≠Y):kn [A,B,C] [A,B,Y]=[(0,0),(1,1)]:=by
 simp [kn,cZ,lcs,knS,h1]
theorem zCn [Inhabited α] (h1:A≠X) (h2:B≠X) (h3:C≠X) (h4:A≠B) (h5:A≠C) (h6:B≠C) (h7:C≠Y):gJ [A,B,C] [X,B,C] [A,B,Y]=[⟨false,[A],[X],[A]⟩,⟨true,[B],[B],[B]⟩,⟨false,[C],[C],[Y]⟩]:=by
 rw [gJ,zH7 h1 h2 h3 h4 h5 h6,zH6 h7];rfl
end
def exO:ByteArray:={ data:=#[97,10,98,10,99,10] }
def exL:ByteArray:={ data:=#[120,10,98,10,99,10] }
def exR:ByteArray:={ data:=#[97,10,98,10,121,10] }
def exM:ByteArray:={ data:=#[120,10,98,10,121,10] }
def l1 (b:UInt8):ByteArray:={ data:=#[b,10] }
theorem qSw:cH exO=0∧cH exL=0∧cH exR=0:=by decide +kernel
theorem qYh:dA exO=[l1 97,l1 98,l1 99]∧dA exL=[l1 120,l1 98,l1 99]∧dA exR=[l1 97,l1 98,l1 121]:=by decide +kernel
theorem zCd:cQ exO exL exR=[⟨false,[l1 97],[l1 120],[l1 97]⟩,⟨true,[l1 98],[l1 98],[l1 98]⟩,⟨false,[l1 99],[l1 99],[l1 121]⟩]:=by
 show gJ (dA exO) (dA exL) (dA exR)=_
 rw [qYh.1,qYh.2.1,qYh.2.2];exact zCn (by decide +kernel) (by decide +kernel) (by decide +kernel) (by decide +kernel) (by decide +kernel) (by decide +kernel) (by decide +kernel)
theorem qMk:qUf exO exL exR=exM∧qUg exO exL exR=0∧fK exO exL exR=0:=by
 have hE:=qAo qSw.1 qSw.2.1 qSw.2.2
 rw [qUf,qUg,if_neg (by simpa using hE),if_neg (by simpa using hE),zCd]
 exact ⟨by decide +kernel,by decide +kernel,hE⟩

set_option maxHeartbeats 4000000 in
theorem zEa:HFun Try.prog 6 [] (fun h st=>h=.v (.bool true)):=by
 refine rT (N:=25) Try.func6 rfl Try.ntmps6 Try.results6 (by simp) ?_
 have M:=zG0 exO exL exR (by decide) (by decide) (by decide)
 rw [qMk.1,qMk.2.1,qMk.2.2] at M;refine zE ?_;refine zJ (fun K hK=>?_);simp (disch:=omega) only [push_cast,↓iC9,simprocAttr];refine hK _ ?_;clear hK K
 refine zE ?_;refine zJ (fun K hK=>?_);simp (disch:=omega) only [push_cast,↓iC9,simprocAttr]
 refine zJb (xs:=[.string exM,.int .i64 0,.int .i64 0]) zLy M (.cons (.v _) (.cons (.v _) (.cons (.v _) .nil))) ?_;with_reducible refine aH ?_;simp (disch:=omega) only [push_cast,↓iC9,simprocAttr]
 refine hK _ ?_;clear hK K
 have e1:exM={ data:=#[120,10,98,10,121,10] }:=rfl
 refine zE ?_;refine zJ (fun K hK=>?_);simp (disch:=omega) only [push_cast,↓iC9,simprocAttr,e1];refine hK _ ?_;clear hK K
 refine zA ?_;refine zW ?_;simp only [yA,yM,yH,yE,aR,bT,yK,yJ,zS,zM,Nat.reduceEqDiff,reduceIte,reduceCtorEq];exact jK rfl
end Go.Proofs.Ytmgilahhnbopmaa
end
section
namespace Go.DiffM
variable {α:Type} [DecidableEq α]
theorem qY:∀ (n:Nat) (a b s:List α),a.length + b.length≤n→s.Sublist a→s.Sublist b→s.length≤lcs a b
|n,[],b,s,_,ha,_=>by rw [List.sublist_nil.1 ha];simp
|n,a,[],s,_,_,hb=>by rw [List.sublist_nil.1 hb];simp
|0,x :: xs,_,s,h,_,_=>by simp at h
|n + 1,x :: xs,y :: ys,s,h,ha,hb=>by
  simp only [List.length_cons] at h;rw [qDs]
  by_cases he:x=y
  ·rw [if_pos he]
   cases s with
  |nil=>simp
  |cons z t =>
    have h1:t.Sublist xs:=by
     cases ha with
    |cons _ h=>exact (List.sublist_cons_self z t).trans h
    |cons_cons _ h=>exact h
    have h2:t.Sublist ys:=by
     cases hb with
    |cons _ h=>exact (List.sublist_cons_self z t).trans h
    |cons_cons _ h=>exact h
    have:=qY n xs ys t (by omega) h1 h2
    simp;omega
  ·rw [if_neg he]
   cases ha with
  |cons _ h1 =>
    have:=qY n xs (y :: ys) s (by simp only [List.length_cons];omega) h1 hb
    omega
  |cons_cons _ h1 =>
    cases hb with
   |cons _ h2 =>
     have:=qY n (x :: xs) ys _ (by simp only [List.length_cons];omega) (h1.cons_cons x) h2
     omega
   |cons_cons _ h2=>exact absurd rfl he
theorem qJ8:∀ (n:Nat) (a b:List α),a.length + b.length≤n→∃ s:List α,s.Sublist a∧s.Sublist b∧s.length=lcs a b
|n,[],b,_=>⟨[],by simp,by simp,by simp [lcs]⟩
|n,a,[],_=>⟨[],by simp,by simp,by simp [qJ7]⟩
|0,x :: xs,_,h=>by simp at h
|n + 1,x :: xs,y :: ys,h=>by
  simp only [List.length_cons] at h;rw [qDs]
  by_cases he:x=y
  ·subst he;rw [if_pos rfl];obtain ⟨s,h1,h2,h3⟩:=qJ8 n xs ys (by omega)
   exact ⟨x :: s,h1.cons_cons x,h2.cons_cons x,by simp [h3]⟩
  ·rw [if_neg he];obtain ⟨s,h1,h2,h3⟩:=qJ8 n xs (y :: ys) (by simp only [List.length_cons];omega)
   obtain ⟨s',h1',h2',h3'⟩:=qJ8 n (x :: xs) ys (by simp only [List.length_cons];omega)
   by_cases hm:lcs (x :: xs) ys≤lcs xs (y :: ys)
   ·exact ⟨s,h1.cons x,h2,by omega⟩
   ·exact ⟨s',h1',h2'.cons y,by omega⟩
end Go.DiffM
end
