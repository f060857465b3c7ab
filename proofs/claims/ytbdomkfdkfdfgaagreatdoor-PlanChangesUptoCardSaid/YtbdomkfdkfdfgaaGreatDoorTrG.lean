/-
  path.Name, walked.
-/
import Derived.Test.YtbdomkfdkfdfgaaGreatDoorTrF
import Derived.Laws.RangeAny
set_option linter.unusedSimpArgs false
set_option linter.unusedVariables false
set_option maxRecDepth 20000
namespace Go.Tr
open Go
theorem zB4 (c:UInt8):okC c=(decide (97≤c.toNat∧c.toNat≤122) || decide (48≤c.toNat∧c.toNat≤57) || decide (c.toNat=95)):=by
 have e:∀ a b:UInt8,decide (a≤b)=decide (a.toNat≤b.toNat):=fun a b=>rfl
 have e2:decide (c=95)=decide (c.toNat=95):=by
  rw [decide_eq_decide];exact ⟨fun h=>by rw [h];rfl,fun h=>UInt8.toNat_inj.1 h⟩
 rw [okC,e2,Bool.decide_and,Bool.decide_and,e,e,e,e];rfl
def nN (r:Int):Bool:=((decide (r < 97) || decide (122 < r)) && (decide (r < 48) || decide (57 < r))) && !decide (r=95)
theorem zD9 (c:UInt8):nN (c.toNat:Int)=!okC c:=by
 rw [zB4,nN];rw [Bool.eq_iff_iff];simp;omega
theorem zGe {r:Nat} (h:128≤r):nN (r:Int)=true:=by
 rw [nN];simp;omega
end Go.Tr
namespace Go.Proofs.YtbdomkfdkfdfgaaGreatDoor
open Go Go.Eng Go.RowKit Go.Tr
attribute [local push_cast] qZw qT3 zAg qNj qE7 qUg qUf qNi qH6 qH7 qNs qFc qFj qB2 qBn qBa qBg qBe qBd qBm qEv qA9 rB qBl qBf qBh qBi qBj qBk qBc qBb qAo qAn qAi qAj qAk qAl qAm vL vG vN vM vK vJ pS vH vP qFb qFa qAw qAx qAv tT tR tQ mS mT vF qEn qEm qV tP qEc qAz qEd qEb qEa qEe qA0 qHk qEh qTp qTt zHu qTr qJ7 qA2 qJ8 qJ6 qJ5 qJ3 qZk qA3 qTs qTq qJ2 qKa qZl qJ9 qEg qJ4 qUj qNm qNo qE9 qNn zAj qUk zAi qUh qNl qUi zAh qEj qA4 qEl qEk qBx qBw qZr qTx qKn qTy qK6 qE0 qEz qT8 qEw qEy qK7 qT9 qBp qE1 qK8 qBo qEx qY4 qTe qY3 qTd qH2
attribute [local push_cast] List.take_succ_cons List.take_zero List.drop_succ_cons List.drop_zero true_and and_true Option.isSome_some List.getElem?_cons_zero List.getElem?_cons_succ List.length_cons List.length_nil cond_true cond_false Int.toNat_natCast Nat.mul_one Nat.add_zero Nat.zero_add Addr.add_lit bne_self_eq_false beq_self_eq_true Bool.not_true Bool.not_false List.size_toArray Array.getD_eq_getD_getElem? List.getElem?_toArray Option.getD_some decide_true decide_false eq_self Bool.true_beq Bool.false_beq
theorem zHv (P:Program) (l:Env) (t:TypeId) (x:Operand):aH P l (.range t x)=none:=rfl
theorem zFu (P:Program) (l:Env) (w:World) (t:TypeId) (x:Operand):imm P l (.range t x) w=.eff:=rfl
theorem zBz (P:Program) (l:Env) (x:Operand) (b:Bool):aH P l (.next x b)=none:=rfl
theorem qWg (P:Program) (l:Env) (w:World) (x:Operand) (b:Bool):imm P l (.next x b) w=.eff:=rfl
theorem zKy {P:Program} {l:Env} {t ty:TypeId} {x:Operand} {s:ByteArray} {w:World} {K KL:Value→World→Prop} (hu:uU P t=true) (hx:ev l x=some (.string s)) (h:KL (.pointer (some ⟨w.heap.size,0,none⟩)) (w.iter s 0)):bL P l (.range t x) ty w K KL:=by
 refine ⟨fun y hy=>?_,.pointer (some ⟨w.heap.size,0,none⟩),w.iter s 0,?_,h⟩
 ·simp [Op.operands] at hy;subst hy;rw [hx];rfl
 ·have:=run_range_string w t s (nQ hu)
  simp [execOp,qPm,evD,hx,this]
theorem zDz {P:Program} {l:Env} {ty:TypeId} {x:Operand} {p v:Value} {w w':World} {K KL:Value→World→Prop} (hr:∀ ty,(Instr.next p true ty).run P w=.ok v w') (hx:ev l x=some p) (h:KL v w'):bL P l (.next x true) ty w K KL:=by
 refine ⟨fun y hy=>?_,v,w',?_,h⟩
 ·simp [Op.operands] at hy;subst hy;rw [hx];rfl
 ·simp [execOp,qPm,evD,hx,hr]
theorem pA (w:World) (s:ByteArray) (k:Nat):Below w.heap.size w (w.iter s k):=(Below.refl _ w).alloc (Nat.le_refl _) _
theorem qS3 (s:ByteArray) (i:Nat) (h:i < s.size):s.data.toList[i]'(by rw [← Lib.size_eq];exact h)=s[i]:=rfl
set_option maxHeartbeats 4000000 in
theorem qZu (s:ByteArray) (hs:s.size≤1048576) (w:World):Calls Tryz.prog 98 #[.string s] w (Ret fun r w'=>r=.bool (eQ s)∧Below w.heap.size w w'):=by
 refine qUq (args:=[_]) Tryz.func98 rfl Tryz.ntmps98 Tryz.results98 (by simp) ?_
 refine fT ?_;refine iG (fun K hK=>?_);simp only [push_cast,simprocAttr];refine hK _ _ ?_;clear hK K
 by_cases h0:s={ data:=#[] }
 ·have hd:decide (s={ data:=#[] })=true:=decide_eq_true h0
  refine fT ?_;refine fT ?_;refine iG (fun K hK=>?_);simp only [push_cast,simprocAttr,hd];refine hK _ _ ?_;clear hK K
  refine zV ?_;refine lP rfl (fun _=>?_) (fun h=>by cases h)
  refine fT ?_;refine iG (fun K hK=>?_);simp only [push_cast,simprocAttr];refine hK _ _ ?_;clear hK K
  refine zV ?_;refine qHa ?_;refine yN ?_;simp only [qXv,kV,tup,lk,Nat.reduceEqDiff,reduceIte,reduceCtorEq];refine ⟨?_,Below.refl _ _⟩;rw [h0];rfl
 have hd:decide (s={ data:=#[] })=false:=decide_eq_false h0
 have hz:1≤s.size:=by
  rcases Nat.eq_zero_or_pos s.size with h|h
  ·exact absurd (ByteArray.size_eq_zero_iff.1 h) h0
  ·exact h
 refine fT ?_;refine fT ?_;refine iG (fun K hK=>?_);simp only [push_cast,simprocAttr,hd];refine hK _ _ ?_;clear hK K
 refine zV ?_;refine lP rfl (fun h=>?_) (fun h=>?_)
 ·refine fT ?_;refine iG (fun K hK=>?_);simp only [push_cast,simprocAttr];refine hK _ _ ?_;clear hK K
  refine zV ?_;refine qHa ?_;refine yN ?_;simp only [qXv,kV,tup,lk,Nat.reduceEqDiff,reduceIte,reduceCtorEq];refine ⟨?_,Below.refl _ _⟩
  have:¬ s.size≤12:=by simp at h;omega
  simp [eQ,this]
 have hz2:s.size≤12:=by simp at h;omega
 refine qB3 ?_;refine fT ?_;refine fT ?_;refine iG (fun K hK=>?_);simp only [push_cast,simprocAttr,zHv,zFu]
 refine zKy st9 rfl ?_;refine v2s ?_;try simp only [push_cast,simprocAttr];refine hK _ _ ?_;clear hK K;refine zRv (l':=_) [0,13] (by simp only [keep,lk,Nat.reduceEqDiff,reduceIte];exact rfl) ?_
 skip
 refine qHx ?_;refine zAt (fun i:Nat=>[(0,.string s),(13,.pointer (some ⟨w.heap.size,0,none⟩))]) (fun i w1=>i≤s.size∧w1=w.iter s i∧(s.data.toList.take i).all okC=true) (fun i=>s.size - i) [0,13] 0 rfl ⟨Nat.zero_le _,rfl,rfl⟩ ?_
 rintro i _ ⟨hi,rfl,ha⟩
 by_cases hlt:i < s.size
 ·refine fT ?_;refine iG (fun K hK=>?_);simp only [push_cast,simprocAttr,zBz,qWg]
  refine zDz (fun _=>run_next_any w s i _ hlt) rfl ?_
  have hd1:1≤(Utf8.decode s i).2∧(nN (Utf8.decode s i).1=true→okC s[i]=false)∧(nN (Utf8.decode s i).1=false→(Utf8.decode s i).2=1∧okC s[i]=true):=by
   by_cases h128:(s[i]).toNat < 128
   ·rw [decode_ascii s i hlt h128];refine ⟨Nat.le_refl _,fun h=>?_,fun h=>⟨rfl,?_⟩⟩ <;> rw [zD9] at h <;> simpa using h
   ·have hh:=decode_high s i hlt (by omega)
    refine ⟨hh.2,fun _=>?_,fun h=>?_⟩
    ·rw [zB4];simp;omega
    ·rw [zGe hh.1] at h;cases h
  generalize hdec:Utf8.decode s i=d at hd1 ⊢;obtain ⟨r,k⟩:=d;obtain ⟨d1,d2,d3⟩:=hd1;simp only at d1 d2 d3;refine v2s ?_;try simp only [push_cast,simprocAttr];refine hK _ _ ?_;clear hK K;refine fT ?_;refine lP rfl (fun _=>?_) (fun h=>by cases h)
  refine qB3 ?_;refine zV ?_;refine qHx ?_;refine fT ?_;refine iG (fun K hK=>?_);simp only [push_cast,simprocAttr];refine hK _ _ ?_;clear hK K
  have bad:∀ {Q:Prop},nN r=true→(eQ s=false→Q)→Q:=fun {Q} hb f=>f (by
   have hk:=d2 hb
   have hm:s[i] ∈ s.data.toList:=by
    rw [← qS3 s i hlt];exact List.getElem_mem _
   have:s.data.toList.all okC=false:=by
    rw [Bool.eq_false_iff];intro hall;rw [List.all_eq_true.1 hall _ hm] at hk;cases hk
   rw [eQ,this];simp)
  have good:nN r=false→k=1∧(s.data.toList.take (i + 1)).all okC=true:=fun hb=>by
   obtain ⟨e1,e2⟩:=d3 hb;refine ⟨e1,?_⟩;rw [List.take_succ_eq_append_getElem (by rw [← Lib.size_eq];exact hlt),List.all_append,ha,qS3 s i hlt]
   simp [e2]
  have cases7:(r < 48∧nN r=true)∨(48≤r∧r≤57∧nN r=false)∨(57 < r∧r < 95∧nN r=true)∨(r=95∧nN r=false)∨(r=96∧nN r=true)∨(97≤r∧r≤122∧nN r=false)∨(122 < r∧nN r=true):=by
   unfold nN;simp;omega
  rcases cases7 with ⟨c1,hb⟩|⟨c1,c2,hb⟩|⟨c1,c2,hb⟩|⟨c1,hb⟩|⟨c1,hb⟩|⟨c1,c2,hb⟩|⟨c1,hb⟩
  ·refine bad hb fun hbad=>?_
   refine fT ?_;refine iG (fun K hK=>?_);simp (disch:=omega) only [push_cast,↓Int.cast_ofNat_Int,simprocAttr];refine hK _ _ ?_;clear hK K
   refine zV ?_;refine lP rfl (fun _=>?_) (fun h=>by cases h)
   refine fT ?_;refine iG (fun K hK=>?_);simp only [push_cast,simprocAttr];refine hK _ _ ?_;clear hK K
   refine zV ?_;refine qHa ?_;refine yS ?_;refine yN ?_;refine yS ?_;refine yN ?_;simp only [qXv,kV,tup,lk,Nat.reduceEqDiff,reduceIte,reduceCtorEq];exact ⟨by rw [hbad],pA _ _ _⟩
  ·obtain ⟨rfl,ha2⟩:=good hb;refine fT ?_;refine iG (fun K hK=>?_);simp (disch:=omega) only [push_cast,↓Int.cast_ofNat_Int,simprocAttr];refine hK _ _ ?_;clear hK K
   refine zV ?_;refine lP rfl (fun h=>by cases h) (fun _=>?_)
   refine qB3 ?_;refine zY ?_;refine zV ?_;exact ⟨i + 1,rfl,⟨hlt,rfl,ha2⟩,by omega⟩
  ·refine bad hb fun hbad=>?_
   refine fT ?_;refine iG (fun K hK=>?_);simp (disch:=omega) only [push_cast,↓Int.cast_ofNat_Int,simprocAttr];refine hK _ _ ?_;clear hK K
   refine zV ?_;refine lP rfl (fun _=>?_) (fun h=>by cases h)
   refine fT ?_;refine iG (fun K hK=>?_);simp only [push_cast,simprocAttr];refine hK _ _ ?_;clear hK K
   refine zV ?_;refine qHa ?_;refine yS ?_;refine yN ?_;refine yS ?_;refine yN ?_;simp only [qXv,kV,tup,lk,Nat.reduceEqDiff,reduceIte,reduceCtorEq];exact ⟨by rw [hbad],pA _ _ _⟩
  ·obtain ⟨rfl,ha2⟩:=good hb;refine fT ?_;refine iG (fun K hK=>?_);simp (disch:=omega) only [push_cast,↓Int.cast_ofNat_Int,simprocAttr];refine hK _ _ ?_;clear hK K
   refine zV ?_;refine lP rfl (fun h=>by cases h) (fun _=>?_)
   refine qB3 ?_;refine zY ?_;refine zV ?_;exact ⟨i + 1,rfl,⟨hlt,rfl,ha2⟩,by omega⟩
  ·refine bad hb fun hbad=>?_
   refine fT ?_;refine iG (fun K hK=>?_);simp (disch:=omega) only [push_cast,↓Int.cast_ofNat_Int,simprocAttr];refine hK _ _ ?_;clear hK K
   refine zV ?_;refine lP rfl (fun _=>?_) (fun h=>by cases h)
   refine fT ?_;refine iG (fun K hK=>?_);simp only [push_cast,simprocAttr];refine hK _ _ ?_;clear hK K
   refine zV ?_;refine qHa ?_;refine yS ?_;refine yN ?_;refine yS ?_;refine yN ?_;simp only [qXv,kV,tup,lk,Nat.reduceEqDiff,reduceIte,reduceCtorEq];exact ⟨by rw [hbad],pA _ _ _⟩
  ·obtain ⟨rfl,ha2⟩:=good hb;refine fT ?_;refine iG (fun K hK=>?_);simp (disch:=omega) only [push_cast,↓Int.cast_ofNat_Int,simprocAttr];refine hK _ _ ?_;clear hK K
   refine zV ?_;refine lP rfl (fun h=>by cases h) (fun _=>?_)
   refine qB3 ?_;refine zY ?_;refine zV ?_;exact ⟨i + 1,rfl,⟨hlt,rfl,ha2⟩,by omega⟩
  ·refine bad hb fun hbad=>?_
   refine fT ?_;refine iG (fun K hK=>?_);simp (disch:=omega) only [push_cast,↓Int.cast_ofNat_Int,simprocAttr];refine hK _ _ ?_;clear hK K
   refine zV ?_;refine lP rfl (fun _=>?_) (fun h=>by cases h)
   refine fT ?_;refine iG (fun K hK=>?_);simp only [push_cast,simprocAttr];refine hK _ _ ?_;clear hK K
   refine zV ?_;refine qHa ?_;refine yS ?_;refine yN ?_;refine yS ?_;refine yN ?_;simp only [qXv,kV,tup,lk,Nat.reduceEqDiff,reduceIte,reduceCtorEq];exact ⟨by rw [hbad],pA _ _ _⟩
 ·have hne:i=s.size:=by omega
  subst hne;refine fT ?_;refine iG (fun K hK=>?_);simp only [push_cast,simprocAttr,zBz,qWg]
  refine zDz (fun _=>run_next_end w s _ _ hlt) rfl ?_
  refine v2s ?_;try simp only [push_cast,simprocAttr];refine hK _ _ ?_;clear hK K;refine fT ?_;refine lP rfl (fun h=>by cases h) (fun _=>?_)
  refine zAu ?_;refine yP ?_;refine yP ?_;refine yQ ?_;refine fT ?_;refine iG (fun K hK=>?_);simp only [push_cast,simprocAttr];refine hK _ _ ?_;clear hK K
  refine zV ?_;refine qHa ?_;simp only [qXv,kV,tup,lk,Nat.reduceEqDiff,reduceIte,reduceCtorEq];refine ⟨?_,pA _ _ _⟩;rw [Lib.size_eq,List.take_length] at ha;rw [eQ,ha]
  have e1:s.size=s.data.toList.length:=Lib.size_eq s
  simp;omega
theorem zMo (s:ByteArray) (hs:s.size≤1048576):HFun Tryz.prog 98 [.v (.string s)] (fun h st=>h=.v (.bool (eQ s))):=by
 refine (qC3 fun w vs R=>?_).mono fun h st q=>q.1
 obtain ⟨r1,r2⟩:=R
 match vs,r1 with
|[x],_ =>
 have ha:=bF (r2 0 (by simp) (by simp))
 simp only [List.getElem_cons_zero] at ha;subst ha;exact qZu s hs w
end Go.Proofs.YtbdomkfdkfdfgaaGreatDoor
