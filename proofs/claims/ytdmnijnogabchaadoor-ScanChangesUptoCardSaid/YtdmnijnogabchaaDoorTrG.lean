/-
  path.Name, walked.
-/
import Derived.Test.YtdmnijnogabchaaDoorTrF
import Derived.Laws.RangeAny
set_option linter.unusedSimpArgs false
set_option linter.unusedVariables false
set_option maxRecDepth 20000
namespace Go.Tr
open Go
theorem qX9 (c:UInt8):okC c=(decide (97≤c.toNat∧c.toNat≤122) || decide (48≤c.toNat∧c.toNat≤57) || decide (c.toNat=95)):=by
 have e:∀ a b:UInt8,decide (a≤b)=decide (a.toNat≤b.toNat):=fun a b=>rfl
 have e2:decide (c=95)=decide (c.toNat=95):=by
  rw [decide_eq_decide];exact ⟨fun h=>by rw [h];rfl,fun h=>UInt8.toNat_inj.1 h⟩
 rw [okC,e2,Bool.decide_and,Bool.decide_and,e,e,e,e];rfl
def lG (r:Int):Bool:=((decide (r < 97) || decide (122 < r)) && (decide (r < 48) || decide (57 < r))) && !decide (r=95)
theorem qZx (c:UInt8):lG (c.toNat:Int)=!okC c:=by
 rw [qX9,lG];rw [Bool.eq_iff_iff];simp;omega
theorem zBt {r:Nat} (h:128≤r):lG (r:Int)=true:=by
 rw [lG];simp;omega
end Go.Tr
namespace Go.Proofs.YtdmnijnogabchaaDoor
open Go Go.Eng Go.RowKit Go.Tr
attribute [local push_cast] zH6 zGj qW9 qKa qBx qRg qRf qJ9 qEm qEn qKi qB4 qB7 wJ vW vH vP vM vL vV qBl vG oA vU vN vQ vR vS vT vK vJ uS uR uL uM uN uP uQ rN rH rQ rP rM rL rK rJ rR qB1 qB0 uX uY uW pW pV pU kP kQ rG qBf qBe nV pS qA5 uZ qA6 qA4 qA3 qA7 vA qQu qA9 qQt qWg zC3 qQw qFu vB qFv qFt qFs qFq qWe vC qQx qQv qFp qFx qWf qFw qA8 qFr qRj qKd qKf qBz qKe qXc qRk qXb qRh qKc qRi qXa qBa vD qBc qBb wD wC qWl qQ1 qF8 qQ2 qGo qBq qBp qQ8 qBm qBo qGp qQ9 vY qBr qGq vX qBn qVs qP5 qVr qP4 qEe
attribute [local push_cast] List.take_succ_cons List.take_zero List.drop_succ_cons List.drop_zero true_and and_true Option.isSome_some List.getElem?_cons_zero List.getElem?_cons_succ List.length_cons List.length_nil cond_true cond_false Int.toNat_natCast Nat.mul_one Nat.add_zero Nat.zero_add Addr.add_lit bne_self_eq_false beq_self_eq_true Bool.not_true Bool.not_false List.size_toArray Array.getD_eq_getD_getElem? List.getElem?_toArray Option.getD_some decide_true decide_false eq_self Bool.true_beq Bool.false_beq
theorem zC4 (P:Program) (l:Env) (t:TypeId) (x:Operand):aK P l (.range t x)=none:=rfl
theorem zBd (P:Program) (l:Env) (w:World) (t:TypeId) (x:Operand):imm P l (.range t x) w=.eff:=rfl
theorem qX4 (P:Program) (l:Env) (x:Operand) (b:Bool):aK P l (.next x b)=none:=rfl
theorem qS9 (P:Program) (l:Env) (w:World) (x:Operand) (b:Bool):imm P l (.next x b) w=.eff:=rfl
theorem zE2 {P:Program} {l:Env} {t ty:TypeId} {x:Operand} {s:ByteArray} {w:World} {K KL:Value→World→Prop} (hu:qU P t=true) (hx:ev l x=some (.string s)) (h:KL (.pointer (some ⟨w.heap.size,0,none⟩)) (w.iter s 0)):bG P l (.range t x) ty w K KL:=by
 refine ⟨fun y hy=>?_,.pointer (some ⟨w.heap.size,0,none⟩),w.iter s 0,?_,h⟩
 ·simp [Op.operands] at hy;subst hy;rw [hx];rfl
 ·have:=run_range_string w t s (lH hu)
  simp [execOp,qK2,evD,hx,this]
theorem qZr {P:Program} {l:Env} {ty:TypeId} {x:Operand} {p v:Value} {w w':World} {K KL:Value→World→Prop} (hr:∀ ty,(Instr.next p true ty).run P w=.ok v w') (hx:ev l x=some p) (h:KL v w'):bG P l (.next x true) ty w K KL:=by
 refine ⟨fun y hy=>?_,v,w',?_,h⟩
 ·simp [Op.operands] at hy;subst hy;rw [hx];rfl
 ·simp [execOp,qK2,evD,hx,hr]
theorem mT (w:World) (s:ByteArray) (k:Nat):Below w.heap.size w (w.iter s k):=(Below.refl _ w).alloc (Nat.le_refl _) _
theorem qPr (s:ByteArray) (i:Nat) (h:i < s.size):s.data.toList[i]'(by rw [← Lib.size_eq];exact h)=s[i]:=rfl
set_option maxHeartbeats 4000000 in
theorem qWm (s:ByteArray) (hs:s.size≤1048576) (w:World):Calls Tryd.prog 38 #[.string s] w (Ret fun r w'=>r=.bool (dG s)∧Below w.heap.size w w'):=by
 refine qD6 (args:=[_]) Tryd.func38 rfl Tryd.ntmps38 Tryd.results38 (by simp) ?_
 refine eC ?_;refine gR (fun K hK=>?_);simp only [push_cast,simprocAttr];refine hK _ _ ?_;clear hK K
 by_cases h0:s={ data:=#[] }
 ·have hd:decide (s={ data:=#[] })=true:=decide_eq_true h0
  refine eC ?_;refine eC ?_;refine gR (fun K hK=>?_);simp only [push_cast,simprocAttr,hd];refine hK _ _ ?_;clear hK K
  refine zV ?_;refine jQ rfl (fun _=>?_) (fun h=>by cases h)
  refine eC ?_;refine gR (fun K hK=>?_);simp only [push_cast,simprocAttr];refine hK _ _ ?_;clear hK K
  refine zV ?_;refine qAp ?_;refine yN ?_;simp only [qUr,iX,tup,lk,Nat.reduceEqDiff,reduceIte,reduceCtorEq];refine ⟨?_,Below.refl _ _⟩;rw [h0];rfl
 have hd:decide (s={ data:=#[] })=false:=decide_eq_false h0
 have hz:1≤s.size:=by
  rcases Nat.eq_zero_or_pos s.size with h|h
  ·exact absurd (ByteArray.size_eq_zero_iff.1 h) h0
  ·exact h
 refine eC ?_;refine eC ?_;refine gR (fun K hK=>?_);simp only [push_cast,simprocAttr,hd];refine hK _ _ ?_;clear hK K
 refine zV ?_;refine jQ rfl (fun h=>?_) (fun h=>?_)
 ·refine eC ?_;refine gR (fun K hK=>?_);simp only [push_cast,simprocAttr];refine hK _ _ ?_;clear hK K
  refine zV ?_;refine qAp ?_;refine yN ?_;simp only [qUr,iX,tup,lk,Nat.reduceEqDiff,reduceIte,reduceCtorEq];refine ⟨?_,Below.refl _ _⟩
  have:¬ s.size≤12:=by simp at h;omega
  simp [dG,this]
 have hz2:s.size≤12:=by simp at h;omega
 refine wK ?_;refine eC ?_;refine eC ?_;refine gR (fun K hK=>?_);simp only [push_cast,simprocAttr,zC4,zBd]
 refine zE2 st9 rfl ?_;refine v2s ?_;try simp only [push_cast,simprocAttr];refine hK _ _ ?_;clear hK K;refine zJs (l':=_) [0,13] (by simp only [keep,lk,Nat.reduceEqDiff,reduceIte];exact rfl) ?_
 skip
 refine qD7 ?_;refine qXj (fun i:Nat=>[(0,.string s),(13,.pointer (some ⟨w.heap.size,0,none⟩))]) (fun i w1=>i≤s.size∧w1=w.iter s i∧(s.data.toList.take i).all okC=true) (fun i=>s.size - i) [0,13] 0 rfl ⟨Nat.zero_le _,rfl,rfl⟩ ?_
 rintro i _ ⟨hi,rfl,ha⟩
 by_cases hlt:i < s.size
 ·refine eC ?_;refine gR (fun K hK=>?_);simp only [push_cast,simprocAttr,qX4,qS9]
  refine qZr (fun _=>run_next_any w s i _ hlt) rfl ?_
  have hd1:1≤(Utf8.decode s i).2∧(lG (Utf8.decode s i).1=true→okC s[i]=false)∧(lG (Utf8.decode s i).1=false→(Utf8.decode s i).2=1∧okC s[i]=true):=by
   by_cases h128:(s[i]).toNat < 128
   ·rw [decode_ascii s i hlt h128];refine ⟨Nat.le_refl _,fun h=>?_,fun h=>⟨rfl,?_⟩⟩ <;> rw [qZx] at h <;> simpa using h
   ·have hh:=decode_high s i hlt (by omega)
    refine ⟨hh.2,fun _=>?_,fun h=>?_⟩
    ·rw [qX9];simp;omega
    ·rw [zBt hh.1] at h;cases h
  generalize hdec:Utf8.decode s i=d at hd1 ⊢;obtain ⟨r,k⟩:=d;obtain ⟨d1,d2,d3⟩:=hd1;simp only at d1 d2 d3;refine v2s ?_;try simp only [push_cast,simprocAttr];refine hK _ _ ?_;clear hK K;refine eC ?_;refine jQ rfl (fun _=>?_) (fun h=>by cases h)
  refine wK ?_;refine zV ?_;refine qD7 ?_;refine eC ?_;refine gR (fun K hK=>?_);simp only [push_cast,simprocAttr];refine hK _ _ ?_;clear hK K
  have bad:∀ {Q:Prop},lG r=true→(dG s=false→Q)→Q:=fun {Q} hb f=>f (by
   have hk:=d2 hb
   have hm:s[i] ∈ s.data.toList:=by
    rw [← qPr s i hlt];exact List.getElem_mem _
   have:s.data.toList.all okC=false:=by
    rw [Bool.eq_false_iff];intro hall;rw [List.all_eq_true.1 hall _ hm] at hk;cases hk
   rw [dG,this];simp)
  have good:lG r=false→k=1∧(s.data.toList.take (i + 1)).all okC=true:=fun hb=>by
   obtain ⟨e1,e2⟩:=d3 hb;refine ⟨e1,?_⟩;rw [List.take_succ_eq_append_getElem (by rw [← Lib.size_eq];exact hlt),List.all_append,ha,qPr s i hlt]
   simp [e2]
  have cases7:(r < 48∧lG r=true)∨(48≤r∧r≤57∧lG r=false)∨(57 < r∧r < 95∧lG r=true)∨(r=95∧lG r=false)∨(r=96∧lG r=true)∨(97≤r∧r≤122∧lG r=false)∨(122 < r∧lG r=true):=by
   unfold lG;simp;omega
  rcases cases7 with ⟨c1,hb⟩|⟨c1,c2,hb⟩|⟨c1,c2,hb⟩|⟨c1,hb⟩|⟨c1,hb⟩|⟨c1,c2,hb⟩|⟨c1,hb⟩
  ·refine bad hb fun hbad=>?_
   refine eC ?_;refine gR (fun K hK=>?_);simp (disch:=omega) only [push_cast,↓iC9,simprocAttr];refine hK _ _ ?_;clear hK K
   refine zV ?_;refine jQ rfl (fun _=>?_) (fun h=>by cases h)
   refine eC ?_;refine gR (fun K hK=>?_);simp only [push_cast,simprocAttr];refine hK _ _ ?_;clear hK K
   refine zV ?_;refine qAp ?_;refine yS ?_;refine yN ?_;refine yS ?_;refine yN ?_;simp only [qUr,iX,tup,lk,Nat.reduceEqDiff,reduceIte,reduceCtorEq];exact ⟨by rw [hbad],mT _ _ _⟩
  ·obtain ⟨rfl,ha2⟩:=good hb;refine eC ?_;refine gR (fun K hK=>?_);simp (disch:=omega) only [push_cast,↓iC9,simprocAttr];refine hK _ _ ?_;clear hK K
   refine zV ?_;refine jQ rfl (fun h=>by cases h) (fun _=>?_)
   refine wK ?_;refine zY ?_;refine zV ?_;exact ⟨i + 1,rfl,⟨hlt,rfl,ha2⟩,by omega⟩
  ·refine bad hb fun hbad=>?_
   refine eC ?_;refine gR (fun K hK=>?_);simp (disch:=omega) only [push_cast,↓iC9,simprocAttr];refine hK _ _ ?_;clear hK K
   refine zV ?_;refine jQ rfl (fun _=>?_) (fun h=>by cases h)
   refine eC ?_;refine gR (fun K hK=>?_);simp only [push_cast,simprocAttr];refine hK _ _ ?_;clear hK K
   refine zV ?_;refine qAp ?_;refine yS ?_;refine yN ?_;refine yS ?_;refine yN ?_;simp only [qUr,iX,tup,lk,Nat.reduceEqDiff,reduceIte,reduceCtorEq];exact ⟨by rw [hbad],mT _ _ _⟩
  ·obtain ⟨rfl,ha2⟩:=good hb;refine eC ?_;refine gR (fun K hK=>?_);simp (disch:=omega) only [push_cast,↓iC9,simprocAttr];refine hK _ _ ?_;clear hK K
   refine zV ?_;refine jQ rfl (fun h=>by cases h) (fun _=>?_)
   refine wK ?_;refine zY ?_;refine zV ?_;exact ⟨i + 1,rfl,⟨hlt,rfl,ha2⟩,by omega⟩
  ·refine bad hb fun hbad=>?_
   refine eC ?_;refine gR (fun K hK=>?_);simp (disch:=omega) only [push_cast,↓iC9,simprocAttr];refine hK _ _ ?_;clear hK K
   refine zV ?_;refine jQ rfl (fun _=>?_) (fun h=>by cases h)
   refine eC ?_;refine gR (fun K hK=>?_);simp only [push_cast,simprocAttr];refine hK _ _ ?_;clear hK K
   refine zV ?_;refine qAp ?_;refine yS ?_;refine yN ?_;refine yS ?_;refine yN ?_;simp only [qUr,iX,tup,lk,Nat.reduceEqDiff,reduceIte,reduceCtorEq];exact ⟨by rw [hbad],mT _ _ _⟩
  ·obtain ⟨rfl,ha2⟩:=good hb;refine eC ?_;refine gR (fun K hK=>?_);simp (disch:=omega) only [push_cast,↓iC9,simprocAttr];refine hK _ _ ?_;clear hK K
   refine zV ?_;refine jQ rfl (fun h=>by cases h) (fun _=>?_)
   refine wK ?_;refine zY ?_;refine zV ?_;exact ⟨i + 1,rfl,⟨hlt,rfl,ha2⟩,by omega⟩
  ·refine bad hb fun hbad=>?_
   refine eC ?_;refine gR (fun K hK=>?_);simp (disch:=omega) only [push_cast,↓iC9,simprocAttr];refine hK _ _ ?_;clear hK K
   refine zV ?_;refine jQ rfl (fun _=>?_) (fun h=>by cases h)
   refine eC ?_;refine gR (fun K hK=>?_);simp only [push_cast,simprocAttr];refine hK _ _ ?_;clear hK K
   refine zV ?_;refine qAp ?_;refine yS ?_;refine yN ?_;refine yS ?_;refine yN ?_;simp only [qUr,iX,tup,lk,Nat.reduceEqDiff,reduceIte,reduceCtorEq];exact ⟨by rw [hbad],mT _ _ _⟩
 ·have hne:i=s.size:=by omega
  subst hne;refine eC ?_;refine gR (fun K hK=>?_);simp only [push_cast,simprocAttr,qX4,qS9]
  refine qZr (fun _=>run_next_end w s _ _ hlt) rfl ?_
  refine v2s ?_;try simp only [push_cast,simprocAttr];refine hK _ _ ?_;clear hK K;refine eC ?_;refine jQ rfl (fun h=>by cases h) (fun _=>?_)
  refine qXk ?_;refine yP ?_;refine yP ?_;refine yQ ?_;refine eC ?_;refine gR (fun K hK=>?_);simp only [push_cast,simprocAttr];refine hK _ _ ?_;clear hK K
  refine zV ?_;refine qAp ?_;simp only [qUr,iX,tup,lk,Nat.reduceEqDiff,reduceIte,reduceCtorEq];refine ⟨?_,mT _ _ _⟩;rw [Lib.size_eq,List.take_length] at ha;rw [dG,ha]
  have e1:s.size=s.data.toList.length:=Lib.size_eq s
  simp;omega
theorem zGf (s:ByteArray) (hs:s.size≤1048576):HFun Tryd.prog 38 [.v (.string s)] (fun h st=>h=.v (.bool (dG s))):=by
 refine (qHi fun w vs R=>?_).mono fun h st q=>q.1
 obtain ⟨r1,r2⟩:=R
 match vs,r1 with
|[x],_ =>
 have ha:=bB (r2 0 (by simp) (by simp))
 simp only [List.getElem_cons_zero] at ha;subst ha;exact qWm s hs w
end Go.Proofs.YtdmnijnogabchaaDoor
