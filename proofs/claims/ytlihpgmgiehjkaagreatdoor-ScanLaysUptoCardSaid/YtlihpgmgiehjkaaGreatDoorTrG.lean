/-
  path.Name, walked.
-/
import Derived.Test.YtlihpgmgiehjkaaGreatDoorTrF
import Derived.Laws.RangeAny
set_option linter.unusedSimpArgs false
set_option linter.unusedVariables false
set_option maxRecDepth 20000
namespace Go.Tr
open Go
theorem zA4 (c:UInt8):okC c=(decide (97≤c.toNat∧c.toNat≤122) || decide (48≤c.toNat∧c.toNat≤57) || decide (c.toNat=95)):=by
 have e:∀ a b:UInt8,decide (a≤b)=decide (a.toNat≤b.toNat):=fun a b=>rfl
 have e2:decide (c=95)=decide (c.toNat=95):=by
  rw [decide_eq_decide];exact ⟨fun h=>by rw [h];rfl,fun h=>UInt8.toNat_inj.1 h⟩
 rw [okC,e2,Bool.decide_and,Bool.decide_and,e,e,e,e];rfl
def mY (r:Int):Bool:=((decide (r < 97) || decide (122 < r)) && (decide (r < 48) || decide (57 < r))) && !decide (r=95)
theorem zCx (c:UInt8):mY (c.toNat:Int)=!okC c:=by
 rw [zA4,mY];rw [Bool.eq_iff_iff];simp;omega
theorem zFb {r:Nat} (h:128≤r):mY (r:Int)=true:=by
 rw [mY];simp;omega
end Go.Tr
namespace Go.Proofs.YtlihpgmgiehjkaaGreatDoor
open Go Go.Eng Go.RowKit Go.Tr
attribute [local push_cast] qKo qCy qM7 xH tJ qDq qDp xG vF vG xP tS tX pT oY oK oR oP oN oX sP oJ iH oW oQ oS oT oU oV oM oL nP nN nH nJ nK nL nM lX lS lZ lY lW lV lU lT mA tR tQ nW nX nV jY jX jW fT fU lQ sF sE iC jV rU nY rV rT rS rW nZ qCm rY qCl qJt qUt qCo wC oA wD wB wA vY qJr oB qCp qCn vX wF qJs wE rX vZ qDt xL xN tL xM qNa qDu qM9 qDr xK qDs qM8 sA oC sD sC pP pN qJ8 qCr wG qCs wN sV sU qC3 sR sT wP qC4 pA sW wQ oZ sS qHj qBs qHi qBr vD
attribute [local push_cast] List.take_succ_cons List.take_zero List.drop_succ_cons List.drop_zero true_and and_true Option.isSome_some List.getElem?_cons_zero List.getElem?_cons_succ List.length_cons List.length_nil cond_true cond_false Int.toNat_natCast Nat.mul_one Nat.add_zero Nat.zero_add Addr.add_lit bne_self_eq_false beq_self_eq_true Bool.not_true Bool.not_false List.size_toArray Array.getD_eq_getD_getElem? List.getElem?_toArray Option.getD_some decide_true decide_false eq_self Bool.true_beq Bool.false_beq
theorem zG7 (P:Program) (l:Env) (t:TypeId) (x:Operand):aQ P l (.range t x)=none:=rfl
theorem zEp (P:Program) (l:Env) (w:World) (t:TypeId) (x:Operand):imm P l (.range t x) w=.eff:=rfl
theorem zAu (P:Program) (l:Env) (x:Operand) (b:Bool):aQ P l (.next x b)=none:=rfl
theorem qVq (P:Program) (l:Env) (w:World) (x:Operand) (b:Bool):imm P l (.next x b) w=.eff:=rfl
theorem zK1 {P:Program} {l:Env} {t ty:TypeId} {x:Operand} {s:ByteArray} {w:World} {K KL:Value→World→Prop} (hu:vA P t=true) (hx:ev l x=some (.string s)) (h:KL (.pointer (some ⟨w.heap.size,0,none⟩)) (w.iter s 0)):bY P l (.range t x) ty w K KL:=by
 refine ⟨fun y hy=>?_,.pointer (some ⟨w.heap.size,0,none⟩),w.iter s 0,?_,h⟩
 ·simp [Op.operands] at hy;subst hy;rw [hx];rfl
 ·have:=run_range_string w t s (mZ hu)
  simp [execOp,qNv,evD,hx,this]
theorem zCp {P:Program} {l:Env} {ty:TypeId} {x:Operand} {p v:Value} {w w':World} {K KL:Value→World→Prop} (hr:∀ ty,(Instr.next p true ty).run P w=.ok v w') (hx:ev l x=some p) (h:KL v w'):bY P l (.next x true) ty w K KL:=by
 refine ⟨fun y hy=>?_,v,w',?_,h⟩
 ·simp [Op.operands] at hy;subst hy;rw [hx];rfl
 ·simp [execOp,qNv,evD,hx,hr]
theorem pS (w:World) (s:ByteArray) (k:Nat):Below w.heap.size w (w.iter s k):=(Below.refl _ w).alloc (Nat.le_refl _) _
theorem qR9 (s:ByteArray) (i:Nat) (h:i < s.size):s.data.toList[i]'(by rw [← Lib.size_eq];exact h)=s[i]:=rfl
set_option maxHeartbeats 4000000 in
theorem qY4 (s:ByteArray) (hs:s.size≤1048576) (w:World):Calls Tryz.prog 83 #[.string s] w (Ret fun r w'=>r=.bool (dU s)∧Below w.heap.size w w'):=by
 refine qDy (args:=[_]) Tryz.func83 rfl Tryz.ntmps83 Tryz.results83 (by simp) ?_
 refine eF ?_;refine fZ (fun K hK=>?_);simp only [push_cast,simprocAttr];refine hK _ _ ?_;clear hK K
 by_cases h0:s={ data:=#[] }
 ·have hd:decide (s={ data:=#[] })=true:=decide_eq_true h0
  refine eF ?_;refine eF ?_;refine fZ (fun K hK=>?_);simp only [push_cast,simprocAttr,hd];refine hK _ _ ?_;clear hK K
  refine zV ?_;refine lF rfl (fun _=>?_) (fun h=>by cases h)
  refine eF ?_;refine fZ (fun K hK=>?_);simp only [push_cast,simprocAttr];refine hK _ _ ?_;clear hK K
  refine zV ?_;refine qA1 ?_;refine yN ?_;simp only [qTo,jT,tup,lk,Nat.reduceEqDiff,reduceIte,reduceCtorEq];refine ⟨?_,Below.refl _ _⟩;rw [h0];rfl
 have hd:decide (s={ data:=#[] })=false:=decide_eq_false h0
 have hz:1≤s.size:=by
  rcases Nat.eq_zero_or_pos s.size with h|h
  ·exact absurd (ByteArray.size_eq_zero_iff.1 h) h0
  ·exact h
 refine eF ?_;refine eF ?_;refine fZ (fun K hK=>?_);simp only [push_cast,simprocAttr,hd];refine hK _ _ ?_;clear hK K
 refine zV ?_;refine lF rfl (fun h=>?_) (fun h=>?_)
 ·refine eF ?_;refine fZ (fun K hK=>?_);simp only [push_cast,simprocAttr];refine hK _ _ ?_;clear hK K
  refine zV ?_;refine qA1 ?_;refine yN ?_;simp only [qTo,jT,tup,lk,Nat.reduceEqDiff,reduceIte,reduceCtorEq];refine ⟨?_,Below.refl _ _⟩
  have:¬ s.size≤12:=by simp at h;omega
  simp [dU,this]
 have hz2:s.size≤12:=by simp at h;omega
 refine qBm ?_;refine eF ?_;refine eF ?_;refine fZ (fun K hK=>?_);simp only [push_cast,simprocAttr,zG7,zEp]
 refine zK1 st9 rfl ?_;refine v2s ?_;try simp only [push_cast,simprocAttr];refine hK _ _ ?_;clear hK K;refine zRb (l':=_) [0,13] (by simp only [keep,lk,Nat.reduceEqDiff,reduceIte];exact rfl) ?_
 skip
 refine qHd ?_;refine qZ6 (fun i:Nat=>[(0,.string s),(13,.pointer (some ⟨w.heap.size,0,none⟩))]) (fun i w1=>i≤s.size∧w1=w.iter s i∧(s.data.toList.take i).all okC=true) (fun i=>s.size - i) [0,13] 0 rfl ⟨Nat.zero_le _,rfl,rfl⟩ ?_
 rintro i _ ⟨hi,rfl,ha⟩
 by_cases hlt:i < s.size
 ·refine eF ?_;refine fZ (fun K hK=>?_);simp only [push_cast,simprocAttr,zAu,qVq]
  refine zCp (fun _=>run_next_any w s i _ hlt) rfl ?_
  have hd1:1≤(Utf8.decode s i).2∧(mY (Utf8.decode s i).1=true→okC s[i]=false)∧(mY (Utf8.decode s i).1=false→(Utf8.decode s i).2=1∧okC s[i]=true):=by
   by_cases h128:(s[i]).toNat < 128
   ·rw [decode_ascii s i hlt h128];refine ⟨Nat.le_refl _,fun h=>?_,fun h=>⟨rfl,?_⟩⟩ <;> rw [zCx] at h <;> simpa using h
   ·have hh:=decode_high s i hlt (by omega)
    refine ⟨hh.2,fun _=>?_,fun h=>?_⟩
    ·rw [zA4];simp;omega
    ·rw [zFb hh.1] at h;cases h
  generalize hdec:Utf8.decode s i=d at hd1 ⊢;obtain ⟨r,k⟩:=d;obtain ⟨d1,d2,d3⟩:=hd1;simp only at d1 d2 d3;refine v2s ?_;try simp only [push_cast,simprocAttr];refine hK _ _ ?_;clear hK K;refine eF ?_;refine lF rfl (fun _=>?_) (fun h=>by cases h)
  refine qBm ?_;refine zV ?_;refine qHd ?_;refine eF ?_;refine fZ (fun K hK=>?_);simp only [push_cast,simprocAttr];refine hK _ _ ?_;clear hK K
  have bad:∀ {Q:Prop},mY r=true→(dU s=false→Q)→Q:=fun {Q} hb f=>f (by
   have hk:=d2 hb
   have hm:s[i] ∈ s.data.toList:=by
    rw [← qR9 s i hlt];exact List.getElem_mem _
   have:s.data.toList.all okC=false:=by
    rw [Bool.eq_false_iff];intro hall;rw [List.all_eq_true.1 hall _ hm] at hk;cases hk
   rw [dU,this];simp)
  have good:mY r=false→k=1∧(s.data.toList.take (i + 1)).all okC=true:=fun hb=>by
   obtain ⟨e1,e2⟩:=d3 hb;refine ⟨e1,?_⟩;rw [List.take_succ_eq_append_getElem (by rw [← Lib.size_eq];exact hlt),List.all_append,ha,qR9 s i hlt]
   simp [e2]
  have cases7:(r < 48∧mY r=true)∨(48≤r∧r≤57∧mY r=false)∨(57 < r∧r < 95∧mY r=true)∨(r=95∧mY r=false)∨(r=96∧mY r=true)∨(97≤r∧r≤122∧mY r=false)∨(122 < r∧mY r=true):=by
   unfold mY;simp;omega
  rcases cases7 with ⟨c1,hb⟩|⟨c1,c2,hb⟩|⟨c1,c2,hb⟩|⟨c1,hb⟩|⟨c1,hb⟩|⟨c1,c2,hb⟩|⟨c1,hb⟩
  ·refine bad hb fun hbad=>?_
   refine eF ?_;refine fZ (fun K hK=>?_);simp (disch:=omega) only [push_cast,↓iC9,simprocAttr];refine hK _ _ ?_;clear hK K
   refine zV ?_;refine lF rfl (fun _=>?_) (fun h=>by cases h)
   refine eF ?_;refine fZ (fun K hK=>?_);simp only [push_cast,simprocAttr];refine hK _ _ ?_;clear hK K
   refine zV ?_;refine qA1 ?_;refine yS ?_;refine yN ?_;refine yS ?_;refine yN ?_;simp only [qTo,jT,tup,lk,Nat.reduceEqDiff,reduceIte,reduceCtorEq];exact ⟨by rw [hbad],pS _ _ _⟩
  ·obtain ⟨rfl,ha2⟩:=good hb;refine eF ?_;refine fZ (fun K hK=>?_);simp (disch:=omega) only [push_cast,↓iC9,simprocAttr];refine hK _ _ ?_;clear hK K
   refine zV ?_;refine lF rfl (fun h=>by cases h) (fun _=>?_)
   refine qBm ?_;refine zY ?_;refine zV ?_;exact ⟨i + 1,rfl,⟨hlt,rfl,ha2⟩,by omega⟩
  ·refine bad hb fun hbad=>?_
   refine eF ?_;refine fZ (fun K hK=>?_);simp (disch:=omega) only [push_cast,↓iC9,simprocAttr];refine hK _ _ ?_;clear hK K
   refine zV ?_;refine lF rfl (fun _=>?_) (fun h=>by cases h)
   refine eF ?_;refine fZ (fun K hK=>?_);simp only [push_cast,simprocAttr];refine hK _ _ ?_;clear hK K
   refine zV ?_;refine qA1 ?_;refine yS ?_;refine yN ?_;refine yS ?_;refine yN ?_;simp only [qTo,jT,tup,lk,Nat.reduceEqDiff,reduceIte,reduceCtorEq];exact ⟨by rw [hbad],pS _ _ _⟩
  ·obtain ⟨rfl,ha2⟩:=good hb;refine eF ?_;refine fZ (fun K hK=>?_);simp (disch:=omega) only [push_cast,↓iC9,simprocAttr];refine hK _ _ ?_;clear hK K
   refine zV ?_;refine lF rfl (fun h=>by cases h) (fun _=>?_)
   refine qBm ?_;refine zY ?_;refine zV ?_;exact ⟨i + 1,rfl,⟨hlt,rfl,ha2⟩,by omega⟩
  ·refine bad hb fun hbad=>?_
   refine eF ?_;refine fZ (fun K hK=>?_);simp (disch:=omega) only [push_cast,↓iC9,simprocAttr];refine hK _ _ ?_;clear hK K
   refine zV ?_;refine lF rfl (fun _=>?_) (fun h=>by cases h)
   refine eF ?_;refine fZ (fun K hK=>?_);simp only [push_cast,simprocAttr];refine hK _ _ ?_;clear hK K
   refine zV ?_;refine qA1 ?_;refine yS ?_;refine yN ?_;refine yS ?_;refine yN ?_;simp only [qTo,jT,tup,lk,Nat.reduceEqDiff,reduceIte,reduceCtorEq];exact ⟨by rw [hbad],pS _ _ _⟩
  ·obtain ⟨rfl,ha2⟩:=good hb;refine eF ?_;refine fZ (fun K hK=>?_);simp (disch:=omega) only [push_cast,↓iC9,simprocAttr];refine hK _ _ ?_;clear hK K
   refine zV ?_;refine lF rfl (fun h=>by cases h) (fun _=>?_)
   refine qBm ?_;refine zY ?_;refine zV ?_;exact ⟨i + 1,rfl,⟨hlt,rfl,ha2⟩,by omega⟩
  ·refine bad hb fun hbad=>?_
   refine eF ?_;refine fZ (fun K hK=>?_);simp (disch:=omega) only [push_cast,↓iC9,simprocAttr];refine hK _ _ ?_;clear hK K
   refine zV ?_;refine lF rfl (fun _=>?_) (fun h=>by cases h)
   refine eF ?_;refine fZ (fun K hK=>?_);simp only [push_cast,simprocAttr];refine hK _ _ ?_;clear hK K
   refine zV ?_;refine qA1 ?_;refine yS ?_;refine yN ?_;refine yS ?_;refine yN ?_;simp only [qTo,jT,tup,lk,Nat.reduceEqDiff,reduceIte,reduceCtorEq];exact ⟨by rw [hbad],pS _ _ _⟩
 ·have hne:i=s.size:=by omega
  subst hne;refine eF ?_;refine fZ (fun K hK=>?_);simp only [push_cast,simprocAttr,zAu,qVq]
  refine zCp (fun _=>run_next_end w s _ _ hlt) rfl ?_
  refine v2s ?_;try simp only [push_cast,simprocAttr];refine hK _ _ ?_;clear hK K;refine eF ?_;refine lF rfl (fun h=>by cases h) (fun _=>?_)
  refine qZ7 ?_;refine yP ?_;refine yP ?_;refine yQ ?_;refine eF ?_;refine fZ (fun K hK=>?_);simp only [push_cast,simprocAttr];refine hK _ _ ?_;clear hK K
  refine zV ?_;refine qA1 ?_;simp only [qTo,jT,tup,lk,Nat.reduceEqDiff,reduceIte,reduceCtorEq];refine ⟨?_,pS _ _ _⟩;rw [Lib.size_eq,List.take_length] at ha;rw [dU,ha]
  have e1:s.size=s.data.toList.length:=Lib.size_eq s
  simp;omega
theorem zMo (s:ByteArray) (hs:s.size≤1048576):HFun Tryz.prog 83 [.v (.string s)] (fun h st=>h=.v (.bool (dU s))):=by
 refine (qDe fun w vs R=>?_).mono fun h st q=>q.1
 obtain ⟨r1,r2⟩:=R
 match vs,r1 with
|[x],_ =>
 have ha:=bD (r2 0 (by simp) (by simp))
 simp only [List.getElem_cons_zero] at ha;subst ha;exact qY4 s hs w
end Go.Proofs.YtlihpgmgiehjkaaGreatDoor
