/-
  MergeChunks: what merge.Chunks answers, in one form; the document's Same; what is known of the pieces' leaves.
-/
import Derived.Test.YtmgilahhnbopmaaApt
import Derived.Test.YtmgilahhnbopmaaMhE
import Derived.Test.YtmgilahhnbopmaaDiffD
import Derived.Test.YtmgilahhnbopmaaMrC
import Derived.Test.YtmgilahhnbopmaaSmS
set_option linter.unusedSimpArgs false
set_option linter.unusedVariables false
section
set_option maxRecDepth 20000
namespace Go.Proofs.Ytmgilahhnbopmaa
open Go Go.Eng Go.RowKit
end Go.Proofs.Ytmgilahhnbopmaa
end
section
set_option maxRecDepth 20000
namespace Go.Eng
open Go Go.RowKit
theorem HFun.nilOr {P:Program} {f:FuncId} {args:List HV} {E:Value→Prop} {R:HV→aB→Prop} (ty sz:Nat) (H:HFun P f args (fun h st=>(∃ cd,E cd∧h=.tup [.v (.slice none 0 0),.v cd]∧st=[])∨R h st)) :
  HFun P f args (fun h st=>(∃ cd,E cd∧h=.tup [.own 0,.v cd]∧st=[(0,.sl true ty sz [])])∨R h st):=fun w vs hr=>Ret.mono (H w vs hr) fun v w' ⟨B,h,st,h8,q,ρ,xs,G,r⟩=>by
 rcases q with ⟨cd,hE,rfl,rfl⟩|q
 ·refine ⟨B,.tup [.own 0,.v cd],[(0,.sl true ty sz [])],fun i r hi=>?_,.inl ⟨cd,hE,rfl,rfl⟩,fun _=>.slice none 0 0,fun _=>[],⟨fun i r hi=>?_,fun i j r s b hne hi hj hb=>(by cases hb),fun k x hk=>(by simp [hlk] at hk),G.kept,G.a0⟩,(yT r).up (Nat.le_refl _) (fun _ _ _=>rfl) (fun b _ hb=>?_) (Nat.le_refl _)⟩
  ·simp only [rlk] at hi
   by_cases e:0=i
   ·omega
   ·rw [if_neg e] at hi;cases hi
  ·simp only [rlk] at hi
   by_cases e:0=i
   ·rw [if_pos e] at hi
    cases hi
    exact ⟨World.ownsRow_nil w' 0 ty sz,⟨by simp,fun i k hi=>absurd hi (by simp)⟩,fun b hb=>by cases hb⟩
   ·rw [if_neg e] at hi;cases hi
  ·rcases hb with hb|⟨i,r,hi,hb⟩
   ·exact .inl hb
   ·cases hb
 ·exact ⟨B,h,st,h8,.inr q,ρ,xs,G,r⟩
end Go.Eng
namespace Go.Proofs.Ytmgilahhnbopmaa
open Go Go.Eng Go.RowKit Go.DiffM
def mL (x y z:ByteArray):List (Ck ByteArray):=if fK x y z=0 then cQ x y z else []
section
variable {x y z:ByteArray}
theorem zHp (h0:cH x=0) (h1:cH y=0) (h2:cH z=0):mL x y z=cQ x y z:=if_pos (qAo h0 h1 h2)
theorem zHq (h:fK x y z≠0):mL x y z=[]:=if_neg h
theorem qPr (h:fK x y z=0):cH x=0∧cH y=0∧cH z=0:=by
 unfold fK at h;split at h
 ·contradiction
 ·rename_i hx;split at h
  ·contradiction
  ·rename_i hy;exact ⟨by simpa using hx,by simpa using hy,h⟩
theorem zEc:(mL x y z).length≤1200:=by
 unfold mL;split
 ·rename_i h;obtain ⟨a,b,c⟩:=qPr h;exact qMy a b c
 ·simp
theorem zEb:∀ c ∈ mL x y z,c.b.length≤400∧c.l.length≤400∧c.r.length≤400:=fun c hc=>by
 unfold mL at hc;split at hc
 ·rename_i h;obtain ⟨a1,a2,a3⟩:=qPr h
  have l0:=dX a1
  have l1:=dX a2
  have l2:=dX a3
  have m1:=(vA (·.b) hc).1
  have m2:=(vA (·.l) hc).1
  have m3:=(vA (·.r) hc).1
  rw [qMz] at m1;rw [qEj] at m2;rw [qEi] at m3;omega
 ·simp at hc
end
theorem zCp (x y z:ByteArray) (hx:x.size≤4294967296) (hy:y.size≤4294967296) (hz:z.size≤4294967296):HFunF Try.prog 4 [.v (.string x),.v (.string y),.v (.string z)] (fun h st F=>∃ T:List CkV,T.map Prod.fst=mL x y z∧h=.tup [.own 0,.v (.int .i64 (fK x y z))]∧st=[(0,.hl true 33 4 (ckW T))]∧F=clv T):=by
 refine (HFunF.nilOr 33 4 (zFy x y z hx hy hz)).mono ?_;rintro h st F (⟨cd,⟨rfl,hne⟩,rfl,rfl,rfl⟩|⟨h0,h1,h2,rfl,T,hT,rfl,rfl⟩)
 ·exact ⟨[],by rw [zHq hne];rfl,rfl,rfl,rfl⟩
 ·exact ⟨T,by rw [zHp h0 h1 h2];exact hT,by rw [qAo h0 h1 h2],rfl,rfl⟩
theorem zB1 (x y z:ByteArray) (hx:x.size≤4294967296) (hy:y.size≤4294967296) (hz:z.size≤4294967296):HFun Try.prog 5 [.v (.string x),.v (.string y),.v (.string z)] (fun h st=>h=.tup [.own 0,.v (.int .i64 (fK x y z))]∧st=[(0,.sl true 33 4 (cks (mL x y z)))]):=by
 refine (HFun.nilOr 33 4 (E:=fun cd=>cd=.int .i64 (fK x y z)∧fK x y z≠0) ((qTz x y z hx hy hz).mono (Q':=fun h st=>(∃ cd,(cd=.int .i64 (fK x y z)∧fK x y z≠0)∧h=.tup [.v (.slice none 0 0),.v cd]∧st=[])∨(mL x y z=cQ x y z∧fK x y z=0∧h=.tup [.own 0,.v (.int .i64 0)]∧st=[(0,.sl true 33 4 (cks (cQ x y z)))])) ?_)).mono ?_
 ·rintro h st (⟨hne,rfl,rfl⟩|⟨h0,h1,h2,rfl,rfl⟩)
  ·exact .inl ⟨_,⟨rfl,hne⟩,rfl,rfl⟩
  ·exact .inr ⟨zHp h0 h1 h2,qAo h0 h1 h2,rfl,rfl⟩
 ·rintro h st (⟨cd,⟨rfl,hne⟩,rfl,rfl⟩|⟨e1,e2,rfl,rfl⟩)
  ·exact ⟨rfl,by rw [zHq hne];rfl⟩
  ·exact ⟨by rw [e2],by rw [e1]⟩
def ckF (c:Ck ByteArray):List FV:=[.v (.bool c.st),.lst false (aD c.b),.lst false (aD c.l),.lst false (aD c.r)]
def qCv (l:List (Ck ByteArray)):List (List FV):=l.map ckF
theorem wK (l:List (Ck ByteArray)):(qCv l).length=l.length:=by simp [qCv]
theorem qMw (l:List (Ck ByteArray)):Wid 4 (qCv l)=True:=eq_true (wP l fun _=>rfl)
theorem qMx {l:List (Ck ByteArray)} {i:Nat} {d:List FV} (h:i < l.length):(qCv l).getD i d=[.v (.bool l[i].st),.lst false (aD l[i].b),.lst false (aD l[i].l),.lst false (aD l[i].r)]:=by unfold qCv;rw [iG h];rfl
theorem qWo (l:List (Ck ByteArray)):pE (cks l)=qCv l:=by
 simp only [pE,cks,qCv,List.map_map]
 apply List.map_congr_left
 intro h _;simp only [Function.comp,ckE,ckF,List.map_cons,List.map_nil,zJe,zE6,aQ]
set_option maxHeartbeats 16000000 in
theorem zFu (A:List (Ck ByteArray)) (hA:A.length≤140737488355328):HFun Try.prog 7 [.lst false (qCv A),.lst false (qCv A)] (fun h st=>h=.v (.bool true)):=by
 refine rT (N:=70) Try.func7 rfl Try.ntmps7 Try.results7 (by simp) ?_
 refine zE ?_;refine zJ (fun K hK=>?_);simp (disch:=omega) only [push_cast,↓iC9,simprocAttr];refine hK _ ?_;clear hK K
 refine zE ?_;refine zE ?_;refine zJ (fun K hK=>?_);simp (disch:=omega) only [push_cast,↓iC9,simprocAttr,wK];refine hK _ ?_;clear hK K
 refine zA ?_;refine yC rfl ?_;refine zC ?_;refine zE ?_;refine zE ?_;refine zJ (fun K hK=>?_);simp (disch:=omega) only [push_cast,↓iC9,simprocAttr];refine hK _ ?_;clear hK K
 refine yB [0,1,5] [] (by simp only [zZ,zR,zP,zQ,zN,zS,zM,zX,zU,Nat.reduceEqDiff,reduceIte];exact rfl) ?_
 refine zD ?_;refine fS (fun i:Nat=>⟨[(0,.lst false (qCv A)),(1,.lst false (qCv A)),(5,.v (.int .i64 i))],[]⟩) (fun i=>i≤A.length) (fun i=>A.length - i) [0,1,5] [] 0 rfl (Nat.zero_le _) ?_
 intro i hi
 by_cases hlt:i < A.length
 ·obtain ⟨c,hx⟩:∃ c,A[i]=c:=⟨_,rfl⟩
  have c1:=qXw c.b c.b
  have c2:=qXw c.l c.l
  have c3:=qXw c.r c.r
  rw [decide_eq_true rfl] at c1 c2 c3;refine zE ?_;refine zE ?_;refine zJ (fun K hK=>?_);simp (disch:=omega) only [push_cast,↓iC9,simprocAttr,wK];refine hK _ ?_;clear hK K
  refine zA ?_;refine yD rfl ?_;refine zC ?_;refine zE ?_;refine zD ?_;refine zE ?_;refine qNa 53 mixed (by kernel_rfl) (fun K hK K1 hK1=>?_);simp (disch:=omega) only [push_cast,↓iC9,simprocAttr,wK,qMw,qMx hlt,hx]
  refine qVm zJg c1 (.cons (dF (aQ _)) (.cons (dF (aQ _)) .nil)) ?_;with_reducible refine aH ?_;simp (disch:=omega) only [push_cast,↓iC9,simprocAttr,wK,qMw,qMx hlt,hx]
  refine qVm zJg c2 (.cons (dF (aQ _)) (.cons (dF (aQ _)) .nil)) ?_;with_reducible refine aH ?_;simp (disch:=omega) only [push_cast,↓iC9,simprocAttr,wK,qMw,qMx hlt,hx]
  refine qVm zJg c3 (.cons (dF (aQ _)) (.cons (dF (aQ _)) .nil)) ?_;with_reducible refine aH ?_;simp (disch:=omega) only [push_cast,↓iC9,simprocAttr]
  refine hK1 _ ?_;(try clear hK1 K1);with_reducible refine aH ?_;simp (disch:=omega) only [push_cast,↓iC9,simprocAttr]
  refine hK _ ?_;clear hK K;refine yC rfl ?_;refine zC ?_;refine zB ?_;refine zA ?_;refine zJ (fun K hK=>?_);simp (disch:=omega) only [push_cast,↓iC9,simprocAttr];refine hK _ ?_;clear hK K
  refine zA ?_;exact ⟨i + 1,rfl,hlt,by omega⟩
 ·refine zE ?_;refine zE ?_;refine zJ (fun K hK=>?_);simp (disch:=omega) only [push_cast,↓iC9,simprocAttr,wK];refine hK _ ?_;clear hK K
  refine zA ?_;refine yC rfl ?_;refine zT ?_;refine zG ?_;refine zG ?_;refine zH ?_;refine zE ?_;refine zJ (fun K hK=>?_);simp (disch:=omega) only [push_cast,↓iC9,simprocAttr];refine hK _ ?_;clear hK K
  refine zA ?_;refine zW ?_;simp only [yA,yM,yH,yE,aR,bT,yK,yJ,zS,zM,Nat.reduceEqDiff,reduceIte,reduceCtorEq];exact jK rfl
end Go.Proofs.Ytmgilahhnbopmaa
end
