/-
  Regions that draw their order, one of whose heads copies over (and might do so again); the other heads are moves and the like. Of no program.
-/
import Derived.Test.YtbdomkfdkfdfgaaGreatDoorTrC
import Derived.Test.YtbdomkfdkfdfgaaGreatDoorTrM
import Derived.Test.YtbdomkfdkfdfgaaGreatDoorGd
import Derived.Test.YtbdomkfdkfdfgaaGreatDoorTrL
import Derived.Test.YtbdomkfdkfdfgaaGreatDoorTrK
set_option linter.unusedSimpArgs false
set_option linter.unusedVariables false
section
namespace Go.Tr
open Go
def eN:List Ent→List Ent→List ByteArray
|[],[]=>[]
|x :: a,[]=>x.1 :: eN a []
|[],y :: b=>y.1 :: eN [] b
|x :: a,y :: b=>if blt x.1 y.1 then x.1 :: eN a (y :: b) else if blt y.1 x.1 then y.1 :: eN (x :: a) b else if x.2=y.2 then eN a b else x.1 :: eN a b
termination_by a b=>a.length + b.length
theorem qNv:eN [] []=[]:=by rw [eN]
theorem qDl (x:Ent) (a:List Ent):eN (x :: a) []=x.1 :: eN a []:=by rw [eN]
theorem qDh (y:Ent) (b:List Ent):eN [] (y :: b)=y.1 :: eN [] b:=by rw [eN]
theorem qDi {x y:Ent} {a b:List Ent} (h:blt x.1 y.1=true):eN (x :: a) (y :: b)=x.1 :: eN a (y :: b):=by rw [eN,if_pos h]
theorem qDj {x y:Ent} {a b:List Ent} (h:blt y.1 x.1=true):eN (x :: a) (y :: b)=y.1 :: eN (x :: a) b:=by rw [eN,if_neg (by rw [iQ h];simp),if_pos h]
theorem qDk {x y:Ent} {a b:List Ent} (h:x.1=y.1):eN (x :: a) (y :: b)=if x.2=y.2 then eN a b else x.1 :: eN a b:=by rw [eN,h,fP];simp
theorem qEp {Q:List Ent→List Ent→Prop} (nn:Q [] []) (cn:∀ x a,Q a []→Q (x :: a) []) (nc:∀ y b,Q [] b→Q [] (y :: b))
  (lt:∀ x a y b,blt x.1 y.1=true→Q a (y :: b)→Q (x :: a) (y :: b)) (gt:∀ x a y b,blt y.1 x.1=true→Q (x :: a) b→Q (x :: a) (y :: b)) (eq:∀ x a y b,x.1=y.1→Q a b→Q (x :: a) (y :: b)):∀ a b,Q a b:=by
 have:∀ n a b,a.length + b.length≤n→Q a b:=by
  intro n
  induction n with
 |zero =>
   intro a b h
   cases a with
  |nil=>cases b with
   |nil=>exact nn
   |cons y b=>simp at h
  |cons x a=>simp at h
 |succ n ih =>
   intro a b h
   cases a with
  |nil=>cases b with
   |nil=>exact nn
   |cons y b=>exact nc y b (ih _ _ (by simp at h ⊢;omega))
  |cons x a=>cases b with
   |nil=>exact cn x a (ih _ _ (by simp at h ⊢;omega))
   |cons y b =>
     rcases jJ x.1 y.1 with h1|h1|h1
     ·exact lt x a y b h1 (ih _ _ (by simp at h ⊢;omega))
     ·exact eq x a y b h1 (ih _ _ (by simp at h ⊢;omega))
     ·exact gt x a y b h1 (ih _ _ (by simp at h ⊢;omega))
 exact fun a b=>this _ a b (Nat.le_refl _)
def above (p:ByteArray) (t:List Ent):Prop:=∀ e ∈ t,blt p e.1=true
theorem kU {x:Ent} {t:List Ent}:rise (x :: t)↔above x.1 t∧rise t:=List.pairwise_cons
theorem qN8 {p:ByteArray} {x:Ent} {t:List Ent} (h:blt p x.1=true) (h':above x.1 t):above p (x :: t):=fun e he=>by
 rcases List.mem_cons.1 he with rfl|he
 ·exact h
 ·exact iP h (h' e he)
theorem zAm:∀ a b,eN a b=[]→a=b:=by
 refine qEp (fun _=>rfl) (fun x a _ h=>?_) (fun y b _ h=>?_) (fun x a y b h _ h2=>?_) (fun x a y b h _ h2=>?_) (fun x a y b h ih h2=>?_)
 ·rw [qDl] at h;cases h
 ·rw [qDh] at h;cases h
 ·rw [qDi h] at h2;cases h2
 ·rw [qDj h] at h2;cases h2
 ·rw [qDk h] at h2;split at h2
  ·rename_i e;rw [ih h2,Prod.ext h e]
  ·cases h2
theorem jT (x:Ent) (t:List Ent) (p:ByteArray):aF (x :: t) p=if x.1=p then x.2 else aF t p:=by
 unfold aF;rw [List.find?_cons]
 by_cases h:x.1=p
 ·rw [decide_eq_true h,if_pos h];rfl
 ·rw [decide_eq_false h,if_neg h]
theorem uD {t:List Ent} {p:ByteArray} (h:above p t):aF t p=kD:=by
 refine sQ ?_;unfold eF;rw [List.any_eq_false];intro e he
 have:=uH (h e he)
 simpa using fun e'=>this e'.symm
def kinds (t:List Ent):Prop:=∀ e ∈ t,e.2≠kD
theorem lG {x:Ent} {t:List Ent} (h:kinds (x :: t)):x.2≠kD∧kinds t:=⟨h x (by simp),fun e he=>h e (by simp [he])⟩
theorem qFd (p:ByteArray):∀ a b,rise a→rise b→kinds a→kinds b→(p ∈ eN a b↔aF a p≠aF b p):=by
 have nilab:∀ p,above p []:=fun p e he=>by simp at he
 have g0:aF [] p=kD:=rfl
 refine qEp (fun _ _ _ _=>by rw [qNv];simp) (fun x a ih ra rb ka kb=>?_) (fun y b ih ra rb ka kb=>?_) (fun x a y b h ih ra rb ka kb=>?_) (fun x a y b h ih ra rb ka kb=>?_) (fun x a y b h ih ra rb ka kb=>?_)
 ·rw [kU] at ra;obtain ⟨k1,k2⟩:=lG ka;rw [qDl,List.mem_cons,jT,ih ra.2 rb k2 kb]
  by_cases e:x.1=p
  ·rw [if_pos e,g0];exact ⟨fun _=>k1,fun _=>.inl e.symm⟩
  ·rw [if_neg e];exact ⟨fun h=>h.resolve_left fun e'=>e e'.symm,.inr⟩
 ·rw [kU] at rb;obtain ⟨k1,k2⟩:=lG kb;rw [qDh,List.mem_cons,jT,ih ra rb.2 ka k2]
  by_cases e:y.1=p
  ·rw [if_pos e,g0];exact ⟨fun _ h=>k1 h.symm,fun _=>.inl e.symm⟩
  ·rw [if_neg e];exact ⟨fun h=>h.resolve_left fun e'=>e e'.symm,.inr⟩
 ·have rb':=kU.1 rb
  rw [kU] at ra;obtain ⟨k1,k2⟩:=lG ka;rw [qDi h,List.mem_cons,jT,ih ra.2 rb k2 kb]
  by_cases e:x.1=p
  ·subst e;rw [if_pos rfl,uD (qN8 h rb'.1)];exact ⟨fun _=>k1,fun _=>.inl rfl⟩
  ·rw [if_neg e];exact ⟨fun h=>h.resolve_left fun e'=>e e'.symm,.inr⟩
 ·have ra':=kU.1 ra
  rw [kU] at rb;obtain ⟨k1,k2⟩:=lG kb;rw [qDj h,List.mem_cons,jT y,ih ra rb.2 ka k2]
  by_cases e:y.1=p
  ·subst e;rw [if_pos rfl,uD (qN8 h ra'.1)];exact ⟨fun _ h=>k1 h.symm,fun _=>.inl rfl⟩
  ·rw [if_neg e];exact ⟨fun h=>h.resolve_left fun e'=>e e'.symm,.inr⟩
 ·rw [kU] at ra rb;obtain ⟨k1,k2⟩:=lG ka;obtain ⟨k3,k4⟩:=lG kb
  have ih:=ih ra.2 rb.2 k2 k4
  rw [qDk h,jT,jT,← h]
  by_cases e:x.1=p
  ·subst e;rw [if_pos rfl,if_pos rfl];rw [uD ra.1,uD (h ▸ rb.1)] at ih
   by_cases e2:x.2=y.2
   ·rw [if_pos e2];exact ⟨fun h=>absurd rfl (ih.1 h),fun h=>absurd e2 h⟩
   ·rw [if_neg e2];exact ⟨fun _=>e2,fun _=>by simp⟩
  ·rw [if_neg e,if_neg e]
   by_cases e2:x.2=y.2
   ·rw [if_pos e2];exact ih
   ·rw [if_neg e2,List.mem_cons,ih];exact ⟨fun h=>h.resolve_left fun e'=>e e'.symm,.inr⟩
theorem qSu:∀ a b,(eN a b).length≤a.length + b.length:=by
 refine qEp (by rw [qNv];simp) (fun x a ih=>?_) (fun y b ih=>?_) (fun x a y b h ih=>?_) (fun x a y b h ih=>?_) (fun x a y b h ih=>?_)
 ·rw [qDl];simp at ih ⊢;omega
 ·rw [qDh];simp at ih ⊢;omega
 ·rw [qDi h];simp at ih ⊢;omega
 ·rw [qDj h];simp at ih ⊢;omega
 ·rw [qDk h];split <;> simp at ih ⊢ <;> omega
end Go.Tr
end
section
set_option maxRecDepth 20000
namespace Go.Tr
open Go Go.Eng
theorem zAe (n:Int × ByteArray):FreshH (mA n):=.agg fun x hx=>by simp at hx;rcases hx with rfl|rfl <;> exact .v _
theorem zH8 {n:Int × ByteArray} {ρ ρ':Nat→Value} {w:World} {A:Nat→Prop} {n0:Nat} {v:Value} (h:RepH w A n0 ρ v (mA n)):RepH w A n0 ρ' v (mA n):=by
 cases h with
|agg hn h1 h =>
  refine .agg hn h1 fun j a b=>?_
  have:=h j a b
  match j,b with
 |0,_=>rw [bF this];exact .v _
 |1,_=>rw [bF this];exact .v _
theorem sN {P:Program} {T:HS} {f:FuncId} {args args':List HV} {n:Int × ByteArray} {K:HV→Prop} (hc:aE P f=true) (H:HFun P f args' (fun h st=>h=mA n∧st=[])) (hl:Lends T.st args args') (hK:K (mA n)):zLz P f args T K :=
 zUz hc H (zAe n) (fun ρ ρ' w A n v h=>zH8 h) hl hK
theorem wV {t:List Ent} (h:okR t=true):kinds t:=fun e he=>by
 obtain ⟨i,hi,rfl⟩:=List.getElem_of_mem he
 have:=gW.1 h i hi
 simp only [tN,uV,Bool.and_eq_true,Bool.not_eq_true',decide_eq_false_iff_not] at this;rw [iF hi] at this;intro e;exact this.1.2.2.1 (by rw [e];rfl)
end Go.Tr
end
section
namespace Go.Eng
open Go Go.RowKit
section
variable {P:Program} {N:Nat} {x:Code} {Q:fH} {c:Ctx} {S S':HS} {look:Nat→Option Value} {w:World}
theorem pB {id:Nat} {ops:List Oper} (n:Nat) (hm:P.follows .mixedOrders=true) (hok:vE (bH S.env) ops n=true)
  (h:∀ K:HS→Prop,(∀ S',Q .normal S'→K S')→∀ K1:HS→Prop,(∀ S',kN (HV2 P N (bW ops) K (ops.drop n)) S'→K1 S')→HVr P N (bW ops) K1 (ops.take n) S):HW P N (.region id ops.toArray true) Q S :=
 zNk n hm hok fun K hK=>h K hK _ fun _ h=>h
theorem dY {id:Nat} {ops:List Oper} (n:Nat) (hm:P.follows .mixedOrders=true) (hok:vE (bH S.env) ops n=true)
  (h:∀ K:HS→Prop,(∀ S',Q .normal S'→K S')→∀ K1:HS→Prop,(∀ S',kN (HV2 P N (bW ops) K (ops.drop n)) S'→K1 S')→HVq P N (bW ops) K1 (ops.take n) S):HW P N (.region id ops.toArray true) Q S :=
 HW_drw n hm hok fun K hK=>h K hK _ fun _ h=>h
end
end Go.Eng
end
section
set_option maxRecDepth 20000
namespace Go.Tr
open Go Go.Eng
abbrev fW (t:List Ent):Row:=.sl true 67 3 (aL t)
end Go.Tr
namespace Go.Proofs.YtbdomkfdkfdfgaaGreatDoor
open Go Go.Eng Go.RowKit Go.Tr
set_option maxHeartbeats 4000000 in
theorem qUy (t:List Ent) (p:ByteArray) (hl:t.length≤1048576) (hs:∀ e ∈ t,e.1.size≤1048576) (hp:p.size≤1048576):HFun Tryz.prog 51 [.lst false (aL t),.v (.string p)] (fun h st=>h=.own 0∧st=[(0,fW (t.filter fun e=>eK e.1 p))]):=by
 refine fJ (N:=25) Tryz.func51 rfl Tryz.ntmps51 Tryz.results51 (by simp) ?_
 refine zE ?_;refine zJ (fun K hK=>?_);simp (disch:=omega) only [push_cast,↓Int.cast_ofNat_Int,simprocAttr];refine hK _ ?_;clear hK K
 refine zE ?_;refine zJ (fun K hK=>?_);simp (disch:=omega) only [push_cast,↓Int.cast_ofNat_Int,simprocAttr];refine hK _ ?_;clear hK K
 refine zE ?_;refine zE ?_;refine zJ (fun K hK=>?_);simp (disch:=omega) only [push_cast,↓Int.cast_ofNat_Int,simprocAttr,yV];refine hK _ ?_;clear hK K
 refine zA ?_;refine zD ?_;refine cH (fun x:Nat × List Ent=>⟨[(1,.v (.string p)),(5,.own 64),(9,.lst false (aL t)),(10,.v (.int .i64 t.length)),(11,.v (.int .i64 x.1))],[(64,fW x.2)]⟩) (fun x=>x.1≤t.length∧x.2=(t.take x.1).filter fun e=>eK e.1 p) (fun x=>t.length - x.1) [1,5,9,10,11] [64] (0,[]) (by simp only [zZ,zR,zP,zQ,zN,zS,zM,zX,zU,Nat.reduceEqDiff,reduceIte];rfl) ⟨Nat.zero_le _,rfl⟩ ?_
 rintro ⟨i,out⟩ ⟨hi,ho⟩;simp only at hi ho
 by_cases hlt:i < t.length
 ·have hsz:=hs _ (List.getElem_mem hlt)
  have hol:out.length≤i:=by
   rw [ho];refine Nat.le_trans (List.length_filter_le ..) ?_;rw [List.length_take];omega
  have cu:=qHi t[i].1 p hsz hp
  refine zE ?_;refine zJ (fun K hK=>?_);simp (disch:=omega) only [push_cast,↓Int.cast_ofNat_Int,simprocAttr];refine hK _ ?_;clear hK K
  refine zE ?_;refine yD rfl ?_;refine zC ?_;refine zE ?_;refine zD ?_;refine zE ?_;refine zJ (fun K hK=>?_);simp (disch:=omega) only [push_cast,↓Int.cast_ofNat_Int,simprocAttr,yV,yU,yW hlt];refine hK _ ?_;clear hK K
  refine zE ?_;refine zJ (fun K hK=>?_);simp (disch:=omega) only [push_cast,↓Int.cast_ofNat_Int,simprocAttr]
  refine cP zK3 cu (.cons (.v _) (.cons (.v _) .nil)) ?_;with_reducible refine aC ?_;simp (disch:=omega) only [push_cast,↓Int.cast_ofNat_Int,simprocAttr]
  refine hK _ ?_;clear hK K
  cases hu:eK t[i].1 p with
 |true =>
   have e2:aL out ++ [[FV.v (.string t[i].1),.v (.int .i64 t[i].2.1),.v (.string t[i].2.2)]]=aL (out ++ [t[i]]):=xF out _ _ _
   refine yD rfl ?_;refine zJ (fun K hK=>?_);simp (disch:=omega) only [push_cast,↓Int.cast_ofNat_Int,simprocAttr,yV,e2];(repeat refine ⟨by first|omega|decide|((repeat' apply And.intro) <;> first|omega|decide),?_⟩);refine hK _ ?_;clear hK K
   refine zB ?_;refine zA ?_;refine zJ (fun K hK=>?_);simp (disch:=omega) only [push_cast,↓Int.cast_ofNat_Int,simprocAttr];refine hK _ ?_;clear hK K
   refine zA ?_;refine ⟨(i + 1,out ++ [t[i]]),by simp only [zZ,zR,zP,zQ,zN,zS,zM,zX,zU,Nat.reduceEqDiff,reduceIte];rfl,⟨hlt,?_⟩,by dsimp only;omega⟩
   dsimp only;rw [List.take_succ_eq_append_getElem hlt,List.filter_append,← ho];simp [hu]
 |false =>
   refine yC rfl ?_;refine zC ?_;refine zB ?_;refine zA ?_;refine zJ (fun K hK=>?_);simp (disch:=omega) only [push_cast,↓Int.cast_ofNat_Int,simprocAttr];refine hK _ ?_;clear hK K
   refine zA ?_;refine ⟨(i + 1,out),by simp only [zZ,zR,zP,zQ,zN,zS,zM,zX,zU,Nat.reduceEqDiff,reduceIte];rfl,⟨hlt,?_⟩,by dsimp only;omega⟩
   dsimp only;rw [List.take_succ_eq_append_getElem hlt,List.filter_append,← ho];simp [hu]
 ·have hne:i=t.length:=by omega
  subst hne;rw [List.take_length] at ho;rw [ho];refine zE ?_;refine zJ (fun K hK=>?_);simp (disch:=omega) only [push_cast,↓Int.cast_ofNat_Int,simprocAttr];refine hK _ ?_;clear hK K
  refine zE ?_;refine yC rfl ?_;refine zT ?_;refine zG ?_;refine zG ?_;refine zH ?_;refine zE ?_;refine zJ (fun K hK=>?_);simp (disch:=omega) only [push_cast,↓Int.cast_ofNat_Int,simprocAttr];refine hK _ ?_;clear hK K
  refine zA ?_;refine zW ?_;simp only [yA,yM,yH,yE,aA,aD,yK,yJ,zS,zM,Nat.reduceEqDiff,reduceIte,reduceCtorEq];exact rC rfl (fG _) ⟨rfl,rfl⟩
end Go.Proofs.YtbdomkfdkfdfgaaGreatDoor
end
section
set_option maxRecDepth 20000
namespace Go.Tr
open Go Go.Eng Go.RowKit
structure Chg where
 p:ByteArray
 k:Int
 b0:Int × ByteArray
 b1:Int × ByteArray
 b2:Int × ByteArray
 a0:Int × ByteArray
 a1:Int × ByteArray
 a2:Int × ByteArray
def Chg.b (c:Chg):Nat→Int × ByteArray
|0=>c.b0
|1=>c.b1
|_=>c.b2
def Chg.a (c:Chg):Nat→Int × ByteArray
|0=>c.a0
|1=>c.a1
|_=>c.a2
def zLd (c:Chg):List FV:=[.v (.string c.p),.v (.int .i64 c.k),.v (.int .i64 c.b0.1),.v (.string c.b0.2),.v (.int .i64 c.b1.1),.v (.string c.b1.2),.v (.int .i64 c.b2.1),.v (.string c.b2.2),.v (.int .i64 c.a0.1),.v (.string c.a0.2),.v (.int .i64 c.a1.1),.v (.string c.a1.2),.v (.int .i64 c.a2.1),.v (.string c.a2.2)]
abbrev zVs (c:Chg):List HV:=[.v (.string c.p),.v (.int .i64 c.k),.v (.int .i64 c.b0.1),.v (.string c.b0.2),.v (.int .i64 c.b1.1),.v (.string c.b1.2),.v (.int .i64 c.b2.1),.v (.string c.b2.2),.v (.int .i64 c.a0.1),.v (.string c.a0.2),.v (.int .i64 c.a1.1),.v (.string c.a1.2),.v (.int .i64 c.a2.1),.v (.string c.a2.2)]
def chs (l:List Chg):List (List FV):=l.map zLd
theorem kL (l:List Chg):(chs l).length=l.length:=by simp [chs]
theorem qUp (l:List Chg):Wid 14 (chs l)=True:=eq_true (qB6 l fun _=>rfl)
theorem qDn {l:List Chg} {i:Nat} {d:List FV} (h:i < l.length):(chs l).getD i d=[.v (.string l[i].p),.v (.int .i64 l[i].k),.v (.int .i64 l[i].b0.1),.v (.string l[i].b0.2),.v (.int .i64 l[i].b1.1),.v (.string l[i].b1.2),.v (.int .i64 l[i].b2.1),.v (.string l[i].b2.2),.v (.int .i64 l[i].a0.1),.v (.string l[i].a0.2),.v (.int .i64 l[i].a1.1),.v (.string l[i].a1.2),.v (.int .i64 l[i].a2.1),.v (.string l[i].a2.2)]:=by unfold chs;rw [sR h];rfl
theorem qHt (l:List Chg):qY (chs l)=chs l:=by
 unfold qY chs;rw [List.map_map];apply List.map_congr_left;intro s _;simp [zLd,FV.old]
theorem qS2 (l:List Chg):∀ x ∈ chs l,∀ f ∈ x,FreshF f:=fun x hx f hf=>by
 obtain ⟨s,-,rfl⟩:=List.mem_map.1 hx;simp [zLd] at hf
 rcases hf with rfl|rfl|rfl|rfl|rfl|rfl|rfl|rfl|rfl|rfl|rfl|rfl|rfl|rfl <;> exact .v _
theorem zLb (l:List Chg) (c:Chg):chs l ++ [[FV.v (.string c.p),.v (.int .i64 c.k),.v (.int .i64 c.b0.1),.v (.string c.b0.2),.v (.int .i64 c.b1.1),.v (.string c.b1.2),.v (.int .i64 c.b2.1),.v (.string c.b2.2),.v (.int .i64 c.a0.1),.v (.string c.a0.2),.v (.int .i64 c.a1.1),.v (.string c.a1.2),.v (.int .i64 c.a2.1),.v (.string c.a2.2)]]=chs (l ++ [c]):=by simp [chs,zLd]
abbrev Tri:=List Ent × List Ent × List Ent
def tr (T:Tri):Nat→List Ent
|0=>T.1
|1=>T.2.1
|_=>T.2.2
abbrev jK (T:Tri):List HV:=[.lst false (aL T.1),.lst false (aL T.2.1),.lst false (aL T.2.2)]
abbrev qB9 (T:Tri):HV:=.agg (jK T)
theorem qV3 {st:aB} {T:Tri} {h0 h1 h2:HV} (l0:Lend st h0 (.lst false (aL T.1))) (l1:Lend st h1 (.lst false (aL T.2.1))) (l2:Lend st h2 (.lst false (aL T.2.2))):Lend st (.agg [h0,h1,h2]) (qB9 T):=.agg rfl fun j h1 h2=>by
 match j,h1 with
|0,_=>exact l0
|1,_=>exact l1
|2,_=>exact l2
theorem xX {i:Nat} (h:i < 3):i=0∨i=1∨i=2:=by omega
def zS3 (c:Chg) (T:Tri) (i:Nat):Bool:=decide (c.b i=c.a i) || decide (aF (tr T i) c.p=c.a i)
def zUv (c:Chg) (T:Tri):Bool:=(List.range 3).all (zS3 c T)
end Go.Tr
namespace Go.Proofs.YtbdomkfdkfdfgaaGreatDoor
open Go Go.Eng Go.RowKit Go.Tr
end Go.Proofs.YtbdomkfdkfdfgaaGreatDoor
end
section
namespace Go.Eng
open Go Go.RowKit
section
variable {P:Program} {N:Nat} {Q:fH} {c:Ctx} {S:HS}
def zSu:HV→Bool
|.v _=>true
|.own _=>true
|.vw _ _ _ _=>true
|.ptr _ _ _ _=>true
|_=>false
structure HeadO (P:Program) (N:Nat) (ops:List Oper) (E0:aJ) (st st':aB) (hs:Nat→HV) (k i:Nat) (o:Oper):Prop where
 guard:o.guard=none
 lt:hU N o.dst
 zSu:zSu (hs i)=true
 head:∃ T:aJ,FrOk ops E0 hs i T∧(∀ t x,hlk T t=some x→t ∈ bK o.op) ∧
  (i≠k→dN o.op=true∧(∃ cnd,cnd∧hop P ⟨T,st⟩ 0 o.op=.go cnd (hs i) ⟨T,st⟩)∧∃ cnd,cnd∧hop P ⟨T,st'⟩ 0 o.op=.go cnd (hs i) ⟨T,st'⟩) ∧
  (i=k→∃ args ats,o.op=.call ⟨.builtin .copy,args,ats⟩∧(∃ cnd,cnd∧sP ⟨T,st⟩ (ats == #[dJ ats,dJ ats]) (aW P (dJ ats)) (jA T args.toList)=.go cnd (hs i) ⟨T,st'⟩) ∧
   ∃ cnd,cnd∧sP ⟨T,st'⟩ (ats == #[dJ ats,dJ ats]) (aW P (dJ ats)) (jA T args.toList)=.go cnd (hs i) ⟨T,st'⟩)
end
end Go.Eng
end
