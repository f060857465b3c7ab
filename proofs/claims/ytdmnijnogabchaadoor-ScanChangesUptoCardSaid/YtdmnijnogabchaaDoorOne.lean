/-
  Regions that draw their order, one of whose heads copies over (and might do so again); the other heads are moves and the like. Of no program.
-/
import Derived.Test.YtdmnijnogabchaaDoorTrC
import Derived.Test.YtdmnijnogabchaaDoorTrM
import Derived.Test.YtdmnijnogabchaaDoorGd
import Derived.Test.YtdmnijnogabchaaDoorTrL
set_option linter.unusedSimpArgs false
set_option linter.unusedVariables false
section
namespace Go.Tr
open Go
def cF:List Ent→List Ent→List ByteArray
|[],[]=>[]
|x :: a,[]=>x.1 :: cF a []
|[],y :: b=>y.1 :: cF [] b
|x :: a,y :: b=>if blt x.1 y.1 then x.1 :: cF a (y :: b) else if blt y.1 x.1 then y.1 :: cF (x :: a) b else if x.2=y.2 then cF a b else x.1 :: cF a b
termination_by a b=>a.length + b.length
theorem sJ:cF [] []=[]:=by rw [cF]
theorem pF (x:Ent) (a:List Ent):cF (x :: a) []=x.1 :: cF a []:=by rw [cF]
theorem pB (y:Ent) (b:List Ent):cF [] (y :: b)=y.1 :: cF [] b:=by rw [cF]
theorem pC {x y:Ent} {a b:List Ent} (h:blt x.1 y.1=true):cF (x :: a) (y :: b)=x.1 :: cF a (y :: b):=by rw [cF,if_pos h]
theorem pD {x y:Ent} {a b:List Ent} (h:blt y.1 x.1=true):cF (x :: a) (y :: b)=y.1 :: cF (x :: a) b:=by rw [cF,if_neg (by rw [jN h];simp),if_pos h]
theorem pE {x y:Ent} {a b:List Ent} (h:x.1=y.1):cF (x :: a) (y :: b)=if x.2=y.2 then cF a b else x.1 :: cF a b:=by rw [cF,h,jU];simp
theorem oJ {Q:List Ent→List Ent→Prop} (nn:Q [] []) (cn:∀ x a,Q a []→Q (x :: a) []) (nc:∀ y b,Q [] b→Q [] (y :: b))
  (lt:∀ x a y b,blt x.1 y.1=true→Q a (y :: b)→Q (x :: a) (y :: b)) (gt:∀ x a y b,blt y.1 x.1=true→Q (x :: a) b→Q (x :: a) (y :: b)) (eq:∀ x a y b,x.1=y.1→Q a b→Q (x :: a) (y :: b)):∀ a b,Q a b:=by
 have:∀ n a b,a.length + b.length≤n→Q a b:=by
  intro n
  induction n with
 |zero =>
   intro a b h
   cases a with
  |nil=>cases b with
   |nil=>exact nn
   |cons y b=>simp at h
  |cons x a=>simp at h
 |succ n ih =>
   intro a b h
   cases a with
  |nil=>cases b with
   |nil=>exact nn
   |cons y b=>exact nc y b (ih _ _ (by simp at h ⊢;omega))
  |cons x a=>cases b with
   |nil=>exact cn x a (ih _ _ (by simp at h ⊢;omega))
   |cons y b =>
     rcases qAm x.1 y.1 with h1|h1|h1
     ·exact lt x a y b h1 (ih _ _ (by simp at h ⊢;omega))
     ·exact eq x a y b h1 (ih _ _ (by simp at h ⊢;omega))
     ·exact gt x a y b h1 (ih _ _ (by simp at h ⊢;omega))
 exact fun a b=>this _ a b (Nat.le_refl _)
theorem zBm:∀ a b,∀ p ∈ cF a b,(∃ e ∈ a,e.1=p)∨(∃ e ∈ b,e.1=p):=by
 refine oJ (fun p hp=>by rw [sJ] at hp;simp at hp) (fun x a ih=>?_) (fun y b ih=>?_) (fun x a y b h ih=>?_) (fun x a y b h ih=>?_) (fun x a y b h ih=>?_) <;> intro p hp
 ·rw [pF] at hp
  rcases List.mem_cons.1 hp with rfl|hp
  ·exact .inl ⟨x,by simp,rfl⟩
  ·rcases ih p hp with ⟨e,he,r⟩|⟨e,he,r⟩
   ·exact .inl ⟨e,by simp [he],r⟩
   ·simp at he
 ·rw [pB] at hp
  rcases List.mem_cons.1 hp with rfl|hp
  ·exact .inr ⟨y,by simp,rfl⟩
  ·rcases ih p hp with ⟨e,he,r⟩|⟨e,he,r⟩
   ·simp at he
   ·exact .inr ⟨e,by simp [he],r⟩
 ·rw [pC h] at hp
  rcases List.mem_cons.1 hp with rfl|hp
  ·exact .inl ⟨x,by simp,rfl⟩
  ·rcases ih p hp with ⟨e,he,r⟩|h
   ·exact .inl ⟨e,by simp [he],r⟩
   ·exact .inr h
 ·rw [pD h] at hp
  rcases List.mem_cons.1 hp with rfl|hp
  ·exact .inr ⟨y,by simp,rfl⟩
  ·rcases ih p hp with h|⟨e,he,r⟩
   ·exact .inl h
   ·exact .inr ⟨e,by simp [he],r⟩
 ·rw [pE h] at hp
  have key:p ∈ cF a b→(∃ e ∈ x :: a,e.1=p)∨(∃ e ∈ y :: b,e.1=p):=fun hp=>by
   rcases ih p hp with ⟨e,he,r⟩|⟨e,he,r⟩
   ·exact .inl ⟨e,by simp [he],r⟩
   ·exact .inr ⟨e,by simp [he],r⟩
  split at hp
  ·exact key hp
  ·rcases List.mem_cons.1 hp with rfl|hp
   ·exact .inl ⟨x,by simp,rfl⟩
   ·exact key hp
def above (p:ByteArray) (t:List Ent):Prop:=∀ e ∈ t,blt p e.1=true
theorem dB {x:Ent} {t:List Ent}:rise (x :: t)↔above x.1 t∧rise t:=List.pairwise_cons
theorem qJ {p:ByteArray} {x:Ent} {t:List Ent} (h:blt p x.1=true) (h':above x.1 t):above p (x :: t):=fun e he=>by
 rcases List.mem_cons.1 he with rfl|he
 ·exact h
 ·exact lS h (h' e he)
theorem kJ {a b:List Ent} {p:ByteArray} (ha:above p a) (hb:above p b):∀ q ∈ cF a b,blt p q=true:=fun q hq=>by
 rcases zBm a b q hq with ⟨e,he,rfl⟩|⟨e,he,rfl⟩
 ·exact ha e he
 ·exact hb e he
theorem wE:∀ a b,rise a→rise b→(cF a b).Pairwise fun p q=>blt p q=true:=by
 have nilab:∀ p,above p []:=fun p e he=>by simp at he
 refine oJ (fun _ _=>by rw [sJ];exact .nil) (fun x a ih ra rb=>?_) (fun y b ih ra rb=>?_) (fun x a y b h ih ra rb=>?_) (fun x a y b h ih ra rb=>?_) (fun x a y b h ih ra rb=>?_)
 ·rw [dB] at ra;rw [pF];exact List.pairwise_cons.2 ⟨kJ ra.1 (nilab _),ih ra.2 rb⟩
 ·rw [dB] at rb;rw [pB];exact List.pairwise_cons.2 ⟨kJ (nilab _) rb.1,ih ra rb.2⟩
 ·rw [dB] at ra;rw [pC h];exact List.pairwise_cons.2 ⟨kJ ra.1 (qJ h (dB.1 rb).1),ih ra.2 rb⟩
 ·rw [dB] at rb;rw [pD h];exact List.pairwise_cons.2 ⟨kJ (qJ h (dB.1 ra).1) rb.1,ih ra rb.2⟩
 ·rw [dB] at ra rb;rw [pE h];split
  ·exact ih ra.2 rb.2
  ·exact List.pairwise_cons.2 ⟨kJ ra.1 (h ▸ rb.1),ih ra.2 rb.2⟩
theorem qKk:∀ a b,cF a b=[]→a=b:=by
 refine oJ (fun _=>rfl) (fun x a _ h=>?_) (fun y b _ h=>?_) (fun x a y b h _ h2=>?_) (fun x a y b h _ h2=>?_) (fun x a y b h ih h2=>?_)
 ·rw [pF] at h;cases h
 ·rw [pB] at h;cases h
 ·rw [pC h] at h2;cases h2
 ·rw [pD h] at h2;cases h2
 ·rw [pE h] at h2;split at h2
  ·rename_i e;rw [ih h2,Prod.ext h e]
  ·cases h2
theorem lP (x:Ent) (t:List Ent) (p:ByteArray):eR (x :: t) p=if x.1=p then x.2 else eR t p:=by
 unfold eR;rw [List.find?_cons]
 by_cases h:x.1=p
 ·rw [decide_eq_true h,if_pos h];rfl
 ·rw [decide_eq_false h,if_neg h]
theorem qE {t:List Ent} {p:ByteArray} (h:above p t):eR t p=xS:=by
 refine qPf ?_;unfold qLe;rw [List.any_eq_false];intro e he
 have:=qXh (h e he)
 simpa using fun e'=>this e'.symm
def kinds (t:List Ent):Prop:=∀ e ∈ t,e.2≠xS
theorem jF {x:Ent} {t:List Ent} (h:kinds (x :: t)):x.2≠xS∧kinds t:=⟨h x (by simp),fun e he=>h e (by simp [he])⟩
theorem lR (p:ByteArray):∀ a b,rise a→rise b→kinds a→kinds b→(p ∈ cF a b↔eR a p≠eR b p):=by
 have nilab:∀ p,above p []:=fun p e he=>by simp at he
 have g0:eR [] p=xS:=rfl
 refine oJ (fun _ _ _ _=>by rw [sJ];simp) (fun x a ih ra rb ka kb=>?_) (fun y b ih ra rb ka kb=>?_) (fun x a y b h ih ra rb ka kb=>?_) (fun x a y b h ih ra rb ka kb=>?_) (fun x a y b h ih ra rb ka kb=>?_)
 ·rw [dB] at ra;obtain ⟨k1,k2⟩:=jF ka;rw [pF,List.mem_cons,lP,ih ra.2 rb k2 kb]
  by_cases e:x.1=p
  ·rw [if_pos e,g0];exact ⟨fun _=>k1,fun _=>.inl e.symm⟩
  ·rw [if_neg e];exact ⟨fun h=>h.resolve_left fun e'=>e e'.symm,.inr⟩
 ·rw [dB] at rb;obtain ⟨k1,k2⟩:=jF kb;rw [pB,List.mem_cons,lP,ih ra rb.2 ka k2]
  by_cases e:y.1=p
  ·rw [if_pos e,g0];exact ⟨fun _ h=>k1 h.symm,fun _=>.inl e.symm⟩
  ·rw [if_neg e];exact ⟨fun h=>h.resolve_left fun e'=>e e'.symm,.inr⟩
 ·have rb':=dB.1 rb
  rw [dB] at ra;obtain ⟨k1,k2⟩:=jF ka;rw [pC h,List.mem_cons,lP,ih ra.2 rb k2 kb]
  by_cases e:x.1=p
  ·subst e;rw [if_pos rfl,qE (qJ h rb'.1)];exact ⟨fun _=>k1,fun _=>.inl rfl⟩
  ·rw [if_neg e];exact ⟨fun h=>h.resolve_left fun e'=>e e'.symm,.inr⟩
 ·have ra':=dB.1 ra
  rw [dB] at rb;obtain ⟨k1,k2⟩:=jF kb;rw [pD h,List.mem_cons,lP y,ih ra rb.2 ka k2]
  by_cases e:y.1=p
  ·subst e;rw [if_pos rfl,qE (qJ h ra'.1)];exact ⟨fun _ h=>k1 h.symm,fun _=>.inl rfl⟩
  ·rw [if_neg e];exact ⟨fun h=>h.resolve_left fun e'=>e e'.symm,.inr⟩
 ·rw [dB] at ra rb;obtain ⟨k1,k2⟩:=jF ka;obtain ⟨k3,k4⟩:=jF kb
  have ih:=ih ra.2 rb.2 k2 k4
  rw [pE h,lP,lP,← h]
  by_cases e:x.1=p
  ·subst e;rw [if_pos rfl,if_pos rfl];rw [qE ra.1,qE (h ▸ rb.1)] at ih
   by_cases e2:x.2=y.2
   ·rw [if_pos e2];exact ⟨fun h=>absurd rfl (ih.1 h),fun h=>absurd e2 h⟩
   ·rw [if_neg e2];exact ⟨fun _=>e2,fun _=>by simp⟩
  ·rw [if_neg e,if_neg e]
   by_cases e2:x.2=y.2
   ·rw [if_pos e2];exact ih
   ·rw [if_neg e2,List.mem_cons,ih];exact ⟨fun h=>h.resolve_left fun e'=>e e'.symm,.inr⟩
theorem zBn:∀ a b,(cF a b).length≤a.length + b.length:=by
 refine oJ (by rw [sJ];simp) (fun x a ih=>?_) (fun y b ih=>?_) (fun x a y b h ih=>?_) (fun x a y b h ih=>?_) (fun x a y b h ih=>?_)
 ·rw [pF];simp at ih ⊢;omega
 ·rw [pB];simp at ih ⊢;omega
 ·rw [pC h];simp at ih ⊢;omega
 ·rw [pD h];simp at ih ⊢;omega
 ·rw [pE h];split <;> simp at ih ⊢ <;> omega
end Go.Tr
end
section
set_option maxRecDepth 20000
namespace Go.Tr
open Go Go.Eng
theorem lM {t:List Ent} (h:okR t=true):kinds t:=fun e he=>by
 obtain ⟨i,hi,rfl⟩:=List.getElem_of_mem he
 have:=jP.1 h i hi
 simp only [tL,qK1,Bool.and_eq_true,Bool.not_eq_true',decide_eq_false_iff_not] at this;rw [mU hi] at this;intro e;exact this.1.2.2.1 (by rw [e];rfl)
theorem qSr {t:List Ent} (h:okR t=true):∀ e ∈ t,pOk e.1 5=true:=fun e he=>by
 obtain ⟨i,hi,rfl⟩:=List.getElem_of_mem he
 have:=jP.1 h i hi
 simp only [tL,qK1,Bool.and_eq_true] at this;rw [mU hi] at this;exact this.1.1
end Go.Tr
end
section
namespace Go.Eng
open Go Go.RowKit
section
variable {P:Program} {N:Nat} {x:Code} {Q:dS} {c:Ctx} {S S':HS} {look:Nat→Option Value} {w:World}
theorem qAq {id:Nat} {ops:List Oper} (n:Nat) (hm:P.follows .mixedOrders=true) (hok:oG (aV S.env) ops n=true)
  (h:∀ K:HS→Prop,(∀ S',Q .normal S'→K S')→∀ K1:HS→Prop,(∀ S',iQ (HV2 P N (bQ ops) K (ops.drop n)) S'→K1 S')→HVr P N (bQ ops) K1 (ops.take n) S):HW P N (.region id ops.toArray true) Q S :=
 zG2 n hm hok fun K hK=>h K hK _ fun _ h=>h
theorem jV {id:Nat} {ops:List Oper} (n:Nat) (hm:P.follows .mixedOrders=true) (hok:oG (aV S.env) ops n=true)
  (h:∀ K:HS→Prop,(∀ S',Q .normal S'→K S')→∀ K1:HS→Prop,(∀ S',iQ (HV2 P N (bQ ops) K (ops.drop n)) S'→K1 S')→HVq P N (bQ ops) K1 (ops.take n) S):HW P N (.region id ops.toArray true) Q S :=
 HW_drw n hm hok fun K hK=>h K hK _ fun _ h=>h
end
end Go.Eng
end
section
set_option maxRecDepth 20000
namespace Go.Tr
open Go Go.Eng
end Go.Tr
namespace Go.Proofs.YtdmnijnogabchaaDoor
open Go Go.Eng Go.RowKit Go.Tr
end Go.Proofs.YtdmnijnogabchaaDoor
end
section
namespace Go.Eng
open Go Go.RowKit
section
variable {P:Program} {N:Nat} {Q:dS} {c:Ctx} {S:HS}
def zKh:HV→Bool
|.v _=>true
|.own _=>true
|.vw _ _ _ _=>true
|.ptr _ _ _ _=>true
|_=>false
structure HeadO (P:Program) (N:Nat) (ops:List Oper) (E0:aR) (st st':aC) (hs:Nat→HV) (k i:Nat) (o:Oper):Prop where
 guard:o.guard=none
 lt:fG N o.dst
 zKh:zKh (hs i)=true
 head:∃ T:aR,FrOk ops E0 hs i T∧(∀ t x,hlk T t=some x→t ∈ bJ o.op) ∧
  (i≠k→cN o.op=true∧(∃ cnd,cnd∧hop P ⟨T,st⟩ 0 o.op=.go cnd (hs i) ⟨T,st⟩)∧∃ cnd,cnd∧hop P ⟨T,st'⟩ 0 o.op=.go cnd (hs i) ⟨T,st'⟩) ∧
  (i=k→∃ args ats,o.op=.call ⟨.builtin .copy,args,ats⟩∧(∃ cnd,cnd∧oX ⟨T,st⟩ (ats == #[cK ats,cK ats]) (bV P (cK ats)) (fP T args.toList)=.go cnd (hs i) ⟨T,st'⟩) ∧
   ∃ cnd,cnd∧oX ⟨T,st'⟩ (ats == #[cK ats,cK ats]) (bV P (cK ats)) (fP T args.toList)=.go cnd (hs i) ⟨T,st'⟩)
end
end Go.Eng
end
