/-
  Leaves of lists of texts: how they are laid aside, how they read.
-/
import Derived.Test.YtmgilahhnbopmaaFap
import Derived.Test.YtmgilahhnbopmaaChn
import Derived.Test.YtmgilahhnbopmaaTyM
set_option linter.unusedSimpArgs false
set_option linter.unusedVariables false
section
namespace Go.Eng
open Go Go.RowKit
abbrev cxV (w:World) (A:Nat→Prop) (n0:Nat) (hn:n0≤w.heap.size):Ctx:=⟨w,fun _=>False,A,n0,hn,fun _ _=>False⟩
section
variable {P:Program} {N:Nat} {c c1:Ctx} {F:List Leaf} {S S':HS} {Q:HV→aB→Prop} {l:Env} {look look':Nat→Option Value} {w w':World} {ρ ρ':Nat→Value} {xs xs':Nat→List Value}
def HFunV (P:Program) (f:FuncId) (args:List HV) (Q:HV→aB→Prop):Prop :=
 ∀ (w:World) (vs:List Value) (A:Nat→Prop) (n0:Nat) (hn:n0≤w.heap.size),(∀ b,A b→b < w.heap.size)→sP w A n0 (fun _=>undef) vs args →
  Calls P f vs.toArray w (Ret fun v w'=>Below w.heap.size w w'∧∃ h st',(∀ i r,rlk st' i=some r→i < 8∧∃ nw ty sz els,r=.sl nw ty sz els)∧Q h st'∧InvV (cxV w A n0 hn) ⟨[],st'⟩ h v (fun _=>none) w')
inductive Plain0:HV→Prop
|v (x:Value):Plain0 (.v x)
|lst (fr:Bool) (xs:List (List FV)):Plain0 (.lst fr xs)
end
end Go.Eng
end
section
namespace Go.Eng
open Go Go.RowKit
section
variable {P:Program} {N:Nat} {c c1:Ctx} {F:List Leaf} {S S':HS} {l:Env} {look look':Nat→Option Value} {w w':World} {ρ ρ':Nat→Value} {xs xs':Nat→List Value}
theorem yT {A:Nat→Prop} {n0:Nat} {v cd:Value} (h:RepH w A n0 ρ v (.tup [.v (.slice none 0 0),.v cd])):RepH w A n0 (fun _=>.slice none 0 0) v (.tup [.own 0,.v cd]):=by
 cases h with
|tup hn h =>
 refine .tup hn fun j a b=>?_
 match j,b with
|0,_ =>
  have:=h 0 a (by simp)
  simp only [List.getElem_cons_zero] at this ⊢
  have e:=cW this
  rw [e];exact RepH.own (ρ:=fun _=>.slice none 0 0) 0 rfl
|1,_ =>
  have:=h 1 a (by simp)
  simp only [List.getElem_cons_succ,List.getElem_cons_zero] at this ⊢
  have e:=cW this
  rw [e];exact .v _
theorem HFunF.nilOr {f:FuncId} {args:List HV} {E:Value→Prop} {R:HV→aB→List Leaf→Prop} (ty sz:Nat) (H:HFunF P f args (fun h st F=>(∃ cd,E cd∧h=.tup [.v (.slice none 0 0),.v cd]∧st=[]∧F=[])∨R h st F)) :
  HFunF P f args (fun h st F=>(∃ cd,E cd∧h=.tup [.own 0,.v cd]∧st=[(0,.hl true ty sz [])]∧F=[])∨R h st F):=fun w vs hr=>Ret.mono (H w vs hr) fun v w' ⟨B,h,st,F,ρ,xs,h8,q,M,r⟩=>by
 rcases q with ⟨cd,hE,rfl,rfl,rfl⟩|q
 ·refine ⟨B,.tup [.own 0,.v cd],[(0,.hl true ty sz [])],[],fun _=>.slice none 0 0,fun _=>[],fun i r hi=>?_,.inl ⟨cd,hE,rfl,rfl,rfl⟩,⟨fun i r hi=>?_,fun i j r s b hne hi hj hb=>(by cases hb),fun f hf=>(by simp at hf),fun b ⟨f,hf,_⟩=>(by simp at hf),List.Pairwise.nil,fun b ⟨f,hf,_⟩=>(by simp at hf)⟩,yT r⟩
  ·simp only [rlk] at hi
   by_cases e:0=i
   ·omega
   ·rw [if_neg e] at hi;cases hi
  ·simp only [rlk] at hi
   by_cases e:0=i
   ·rw [if_pos e] at hi
    cases hi
    exact ⟨World.ownsRow_nil w' 0 ty sz,⟨by simp,fun i k hi=>absurd hi (by simp)⟩,fun b hb=>by cases hb⟩
   ·rw [if_neg e] at hi;cases hi
 ·exact ⟨B,h,st,F,ρ,xs,h8,.inr q,M,r⟩
theorem HFunF.mono {f:FuncId} {args:List HV} {Q Q':HV→aB→List Leaf→Prop} (h:HFunF P f args Q) (hq:∀ h st F,Q h st F→Q' h st F):HFunF P f args Q' :=
 fun w vs hr=>Ret.mono (h w vs hr) fun v w' ⟨B,x,st',F,ρ,xs,h8,q,I⟩=>⟨B,x,st',F,ρ,xs,h8,hq _ _ _ q,I⟩
theorem HFunV.mono {f:FuncId} {args:List HV} {Q Q':HV→aB→Prop} (h:HFunV P f args Q) (hq:∀ h st,Q h st→Q' h st):HFunV P f args Q' :=
 fun w vs A n0 hn hA hr=>Ret.mono (h w vs A n0 hn hA hr) fun v w' ⟨B,x,st',h8,q,I⟩=>⟨B,x,st',h8,hq _ _ q,I⟩
theorem HFunV.nilOr {f:FuncId} {args:List HV} {E:Value→Prop} {R:HV→aB→Prop} (ty sz:Nat) (H:HFunV P f args (fun h st=>(∃ cd,E cd∧h=.tup [.v (.slice none 0 0),.v cd]∧st=[])∨R h st)) :
  HFunV P f args (fun h st=>(∃ cd,E cd∧h=.tup [.own 0,.v cd]∧st=[(0,.sl true ty sz [])])∨R h st):=fun w vs A n0 hn hA hr=>Ret.mono (H w vs A n0 hn hA hr) fun v w' ⟨B,h,st,h8,q,ρ,xs,G,r⟩=>by
 rcases q with ⟨cd,hE,rfl,rfl⟩|q
 ·refine ⟨B,.tup [.own 0,.v cd],[(0,.sl true ty sz [])],fun i r hi=>?_,.inl ⟨cd,hE,rfl,rfl⟩,fun _=>.slice none 0 0,fun _=>[],⟨fun i r hi=>?_,fun i j r s b hne hi hj hb=>(by cases hb),fun k x hk=>(by simp [hlk] at hk),G.kept,G.a0⟩,(yT r).up (Nat.le_refl _) (fun _ _ _=>rfl) (fun b _ hb=>?_) (Nat.le_refl _)⟩
  ·simp only [rlk] at hi
   by_cases e:0=i
   ·rw [if_pos e] at hi;cases hi;exact ⟨by omega,_,_,_,_,rfl⟩
   ·rw [if_neg e] at hi;cases hi
  ·simp only [rlk] at hi
   by_cases e:0=i
   ·rw [if_pos e] at hi
    cases hi
    exact ⟨World.ownsRow_nil w' 0 ty sz,⟨by simp,fun i k hi=>absurd hi (by simp)⟩,fun b hb=>by cases hb⟩
   ·rw [if_neg e] at hi;cases hi
  ·rcases hb with hb|⟨i,r,hi,hb⟩
   ·exact .inl hb
   ·cases hb
 ·exact ⟨B,h,st,h8,.inr q,ρ,xs,G,r⟩
def qSv (P:Program) (rs:List ResultVar) (x:Value):xY
|.normal,_,S=>nZ P S rs fun hs=>vP hs=.v x
|.ret,_,S=>nZ P S rs fun hs=>vP hs=.v x
|_,_,_=>False
theorem zKv {f:FuncId} {fn:Func} {x:Code} {args:List HV} {rs:Array ResultVar} {u:Value} (hf:P.funcs[f]?=some fn) (hb:fn.body=some x) (hN:fn.ntmps=N) (hrs:fn.results=rs) (hle:args.length≤N)
  (h:HWF P N x (qSv P rs.toList u) [] ⟨sH 0 args,[]⟩):HFun P f args (fun h st=>h=.v u∧st=[]):=fun w vs R=>by
 refine tT hf hb hN hrs (by rw [R.1];exact hle) ?_
 have I:Inv (cx w (fun _=>False) (fun _=>False)) ⟨sH 0 args,[]⟩ (lk (oX 0 vs)) w:=by
  refine ⟨fun _=>undef,fun _=>[],fun id r hr=>by simp [rlk] at hr,fun i j r s b hne hi=>by simp [rlk] at hi,fun k h hk=>?_,Kept.refl _ _,fun b hb=>hb.elim⟩
  obtain ⟨-,h2⟩:=wL args 0 k h hk;rw [Nat.sub_zero] at h2;obtain ⟨hlt,rfl⟩:=List.getElem?_eq_some_iff.1 h2
  have hlt':k < vs.length:=by rw [R.1];exact hlt
  refine ⟨vs[k],qBa vs 0 k _ (Nat.zero_le _) (by simp [hlt']),(R.2 k hlt' hlt).up (Nat.le_refl _) (fun _ _ _=>rfl) (fun b _ hA=>?_) (Nat.le_refl _)⟩
  rcases hA with h0|⟨i,r,hi,-⟩
  ·exact h0
  ·simp [rlk] at hi
 refine (h _ _ _ (InvF.of I)).mono fun e l' w' ⟨F',S',⟨c1,hs,ρ,xs,G⟩,q⟩=>?_
 have kept:Kept (fun _=>False) w w':=hs.kept.trans G.kept fun b hb ht=>by
  rcases hs.T b ht with h|h
  ·exact absurd (show w.heap.size≤b from h) (by omega)
  ·exact h
 have fin:nZ P S' rs.toList (fun hs=>vP hs=.v u)→nG P l' w' rs.toList fun vs=>Below w.heap.size w w'∧∃ h st',(∀ i r,rlk st' i=some r→i < 8)∧(h=.v u∧st'=[])∧InvV (cx w (fun _=>False) (fun b=>b < w.heap.size)) ⟨[],st'⟩ h (tup vs) (fun _=>none) w':=fun hr =>
  resH_resE.resE_mono (resH_resE G _ _ hr) fun vs ⟨hs',hR,hv⟩=>by
   have r:=qDw hv
   rw [hR] at r
   have e:=cW r
   refine ⟨kept.below (fun _ _ h=>h),.v u,[],fun i r hi=>by simp [rlk] at hi,⟨rfl,rfl⟩,ρ,xs,⟨fun i r hi=>by simp [rlk] at hi,fun i j r s b _ hi=>by simp [rlk] at hi,fun k x hk=>by simp [hlk] at hk,kept,fun b hb=>⟨hb,fun h=>h⟩⟩,by rw [e];exact .v _⟩
 cases e with
|normal=>exact fin q
|ret=>exact fin q
|_=>exact q.elim
end
end Go.Eng
end
section
namespace Go.Eng
open Go Go.RowKit
abbrev Ad:=Option Addr × Nat
abbrev hd (p:Ad) (n:Nat):Value:=.slice p.1 n p.2
theorem qSs {F:List Leaf} {S:HS} {Q:HV→aB→List Leaf→Prop} {a b:Value} (q:Q (.tup [.v a,.v b]) [] F):zCv F S (.tup [.v a,.v b]) Q :=
 ⟨[],by simp,by simp [dup],.tup fun x hx=>by simp at hx;rcases hx with rfl|rfl <;> exact .v _,fun i h=>by simp at h,by rw [HV.ren];simp only [List.map_cons,List.map_nil,HV.ren,jV];exact q⟩
theorem qHd {F:List Leaf} {S:HS} {Q:HV→aB→List Leaf→Prop} {id ty sz:Nat} {els els':List (List HV)} {b:Value} (hr:rlk S.st id=some (.hl true ty sz els)) (hp:∀ x ∈ els,∀ f ∈ x,NamH f) (he:∀ p,els.map (List.map (HV.ren p))=els') (q:Q (.tup [.own 0,.v b]) [(0,.hl true ty sz els')] F):zCv F S (.tup [.own id,.v b]) Q :=
 ⟨[id],by simp,by simp [dup],.tup fun x hx=>by simp at hx;rcases hx with rfl|rfl <;> first|exact .v _|exact .own _,fun i h r hr'=>by
  simp at h;subst h;rw [hr] at hr';simp only [Option.some.injEq] at hr';subst hr';exact ⟨rfl,hp⟩,by
  rw [HV.ren];simp only [List.map_cons,List.map_nil,HV.ren,pos,if_true,jV,hr,Row.ren,he];exact q⟩
theorem jT (t:TypeId) (n:Nat) (ps:Array (Nat × Operand)):nB (.buildSlice t n ps)=oZ ps.toList:=qM t n ps
theorem lD {ls:List ByteArray} {i k:Nat} (hi:i < (aD ls).length) (hk:k < (aD ls)[i].length) (hv:i * 1 + k < (ls.map Value.string).length):(aD ls)[i][k]=.v (ls.map Value.string)[i * 1 + k]:=by
 have hk0:k=0:=by simpa [aD,tW] using hk
 subst hk0;simp [aD,tW]
end Go.Eng
namespace Go.Proofs.Ytmgilahhnbopmaa
open Go Go.Eng Go.RowKit
def lf (v:Value) (l:List ByteArray):Leaf:=⟨v,9,1,l.length,l.map Value.string⟩
theorem zEe (v:Value) (l:List ByteArray):LeafIs (lf v l) (aD l):=⟨by simp [lf,aD],fun x hx=>by obtain ⟨s,-,rfl⟩:=List.mem_map.1 hx;rfl,fun i k hi hk=>by
 have hk0:k=0:=by simpa [aD,tW] using hk
 have hi':i < l.length:=by simpa [aD] using hi
 subst hk0;exact ⟨.string l[i],by simp [aD,tW],by simp [lf,hi'],rfl⟩⟩
end Go.Proofs.Ytmgilahhnbopmaa
end
