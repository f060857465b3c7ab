/-
  path.Name, walked.
-/
import Derived.Test.YtlihpgmgiehjkaaGreatDoorTrF
import Derived.Laws.RangeAny
set_option linter.unusedSimpArgs false
set_option linter.unusedVariables false
set_option maxRecDepth 20000
namespace Go.Tr
open Go
theorem zBs (c:UInt8):okC c=(decide (97≤c.toNat∧c.toNat≤122) || decide (48≤c.toNat∧c.toNat≤57) || decide (c.toNat=95)):=by
 have e:∀ a b:UInt8,decide (a≤b)=decide (a.toNat≤b.toNat):=fun a b=>rfl
 have e2:decide (c=95)=decide (c.toNat=95):=by
  rw [decide_eq_decide];exact ⟨fun h=>by rw [h];rfl,fun h=>UInt8.toNat_inj.1 h⟩
 rw [okC,e2,Bool.decide_and,Bool.decide_and,e,e,e,e];rfl
def oU (r:Int):Bool:=((decide (r < 97) || decide (122 < r)) && (decide (r < 48) || decide (57 < r))) && !decide (r=95)
theorem zDn (c:UInt8):oU (c.toNat:Int)=!okC c:=by
 rw [zBs,oU];rw [Bool.eq_iff_iff];simp;omega
theorem zFy {r:Nat} (h:128≤r):oU (r:Int)=true:=by
 rw [oU];simp;omega
end Go.Tr
namespace Go.Proofs.YtlihpgmgiehjkaaGreatDoor
open Go Go.Eng Go.RowKit Go.Tr
attribute [local push_cast] zJa zB2 qB1 qEc qAt qH0 qHz qEb qCi qCj qEi qAy qA2 vN vB uN uU uS uR vA qAi uM nA uZ uT uV uW uX uY uQ uP tN tL tF tG tH tJ tK qZ qU rB rA qY qX qW qV rC qAw qAv tU tX tT oP oN oM kG kH qT qAc qAb mZ oL xW tZ xX xV xU xY uA qHl yR qHk qTz zBi qHn qDc uB qDd qDb qDa qC8 qTx uC qHo qHm qC7 qDf qTy qDe xZ qC9 qH3 qEe qEg qAu qEf qUl qH4 qUk qH1 qEd qH2 qUj yX uD qAa zF vL vK qT2 qHt qDi qHu qDr qAn qAm qHw qAj qAl qDs qHx vD qAo qDt vC qAk qTb qHj qTa qHi qCe
attribute [local push_cast] List.take_succ_cons List.take_zero List.drop_succ_cons List.drop_zero true_and and_true Option.isSome_some List.getElem?_cons_zero List.getElem?_cons_succ List.length_cons List.length_nil cond_true cond_false Int.toNat_natCast Nat.mul_one Nat.add_zero Nat.zero_add Addr.add_lit bne_self_eq_false beq_self_eq_true Bool.not_true Bool.not_false List.size_toArray Array.getD_eq_getD_getElem? List.getElem?_toArray Option.getD_some decide_true decide_false eq_self Bool.true_beq Bool.false_beq
theorem zHx (P:Program) (l:Env) (t:TypeId) (x:Operand):aY P l (.range t x)=none:=rfl
theorem zFh (P:Program) (l:Env) (w:World) (t:TypeId) (x:Operand):imm P l (.range t x) w=.eff:=rfl
theorem zBj (P:Program) (l:Env) (x:Operand) (b:Bool):aY P l (.next x b)=none:=rfl
theorem qWr (P:Program) (l:Env) (w:World) (x:Operand) (b:Bool):imm P l (.next x b) w=.eff:=rfl
theorem zLn {P:Program} {l:Env} {t ty:TypeId} {x:Operand} {s:ByteArray} {w:World} {K KL:Value→World→Prop} (hu:vY P t=true) (hx:ev l x=some (.string s)) (h:KL (.pointer (some ⟨w.heap.size,0,none⟩)) (w.iter s 0)):cC P l (.range t x) ty w K KL:=by
 refine ⟨fun y hy=>?_,.pointer (some ⟨w.heap.size,0,none⟩),w.iter s 0,?_,h⟩
 ·simp [Op.operands] at hy;subst hy;rw [hx];rfl
 ·have:=run_range_string w t s (oW hu)
  simp [execOp,qPd,evD,hx,this]
theorem zDd {P:Program} {l:Env} {ty:TypeId} {x:Operand} {p v:Value} {w w':World} {K KL:Value→World→Prop} (hr:∀ ty,(Instr.next p true ty).run P w=.ok v w') (hx:ev l x=some p) (h:KL v w'):cC P l (.next x true) ty w K KL:=by
 refine ⟨fun y hy=>?_,v,w',?_,h⟩
 ·simp [Op.operands] at hy;subst hy;rw [hx];rfl
 ·simp [execOp,qPd,evD,hx,hr]
theorem qC (w:World) (s:ByteArray) (k:Nat):Below w.heap.size w (w.iter s k):=(Below.refl _ w).alloc (Nat.le_refl _) _
theorem qSv (s:ByteArray) (i:Nat) (h:i < s.size):s.data.toList[i]'(by rw [← Lib.size_eq];exact h)=s[i]:=rfl
set_option maxHeartbeats 4000000 in
theorem qZy (s:ByteArray) (hs:s.size≤1048576) (w:World):Calls Tryz.prog 83 #[.string s] w (Ret fun r w'=>r=.bool (fJ s)∧Below w.heap.size w w'):=by
 refine qEk (args:=[_]) Tryz.func83 rfl Tryz.ntmps83 Tryz.results83 (by simp) ?_
 refine bZ ?_;refine cQ (fun K hK=>?_);simp only [push_cast,simprocAttr];refine hK _ _ ?_;clear hK K
 by_cases h0:s={ data:=#[] }
 ·have hd:decide (s={ data:=#[] })=true:=decide_eq_true h0
  refine bZ ?_;refine bZ ?_;refine cQ (fun K hK=>?_);simp only [push_cast,simprocAttr,hd];refine hK _ _ ?_;clear hK K
  refine zV ?_;refine gL rfl (fun _=>?_) (fun h=>by cases h)
  refine bZ ?_;refine cQ (fun K hK=>?_);simp only [push_cast,simprocAttr];refine hK _ _ ?_;clear hK K
  refine zV ?_;refine qBm ?_;refine yN ?_;simp only [qUg,mA,tup,lk,Nat.reduceEqDiff,reduceIte,reduceCtorEq];refine ⟨?_,Below.refl _ _⟩;rw [h0];rfl
 have hd:decide (s={ data:=#[] })=false:=decide_eq_false h0
 have hz:1≤s.size:=by
  rcases Nat.eq_zero_or_pos s.size with h|h
  ·exact absurd (ByteArray.size_eq_zero_iff.1 h) h0
  ·exact h
 refine bZ ?_;refine bZ ?_;refine cQ (fun K hK=>?_);simp only [push_cast,simprocAttr,hd];refine hK _ _ ?_;clear hK K
 refine zV ?_;refine gL rfl (fun h=>?_) (fun h=>?_)
 ·refine bZ ?_;refine cQ (fun K hK=>?_);simp only [push_cast,simprocAttr];refine hK _ _ ?_;clear hK K
  refine zV ?_;refine qBm ?_;refine yN ?_;simp only [qUg,mA,tup,lk,Nat.reduceEqDiff,reduceIte,reduceCtorEq];refine ⟨?_,Below.refl _ _⟩
  have:¬ s.size≤12:=by simp at h;omega
  simp [fJ,this]
 have hz2:s.size≤12:=by simp at h;omega
 refine jW ?_;refine bZ ?_;refine bZ ?_;refine cQ (fun K hK=>?_);simp only [push_cast,simprocAttr,zHx,zFh]
 refine zLn st9 rfl ?_;refine v2s ?_;try simp only [push_cast,simprocAttr];refine hK _ _ ?_;clear hK K;refine qB6 (l':=_) [0,13] (by simp only [keep,lk,Nat.reduceEqDiff,reduceIte];exact rfl) ?_
 skip
 refine gM ?_;refine vP (fun i:Nat=>[(0,.string s),(13,.pointer (some ⟨w.heap.size,0,none⟩))]) (fun i w1=>i≤s.size∧w1=w.iter s i∧(s.data.toList.take i).all okC=true) (fun i=>s.size - i) [0,13] 0 rfl ⟨Nat.zero_le _,rfl,rfl⟩ ?_
 rintro i _ ⟨hi,rfl,ha⟩
 by_cases hlt:i < s.size
 ·refine bZ ?_;refine cQ (fun K hK=>?_);simp only [push_cast,simprocAttr,zBj,qWr]
  refine zDd (fun _=>run_next_any w s i _ hlt) rfl ?_
  have hd1:1≤(Utf8.decode s i).2∧(oU (Utf8.decode s i).1=true→okC s[i]=false)∧(oU (Utf8.decode s i).1=false→(Utf8.decode s i).2=1∧okC s[i]=true):=by
   by_cases h128:(s[i]).toNat < 128
   ·rw [decode_ascii s i hlt h128];refine ⟨Nat.le_refl _,fun h=>?_,fun h=>⟨rfl,?_⟩⟩ <;> rw [zDn] at h <;> simpa using h
   ·have hh:=decode_high s i hlt (by omega)
    refine ⟨hh.2,fun _=>?_,fun h=>?_⟩
    ·rw [zBs];simp;omega
    ·rw [zFy hh.1] at h;cases h
  generalize hdec:Utf8.decode s i=d at hd1 ⊢;obtain ⟨r,k⟩:=d;obtain ⟨d1,d2,d3⟩:=hd1;simp only at d1 d2 d3;refine v2s ?_;try simp only [push_cast,simprocAttr];refine hK _ _ ?_;clear hK K;refine bZ ?_;refine gL rfl (fun _=>?_) (fun h=>by cases h)
  refine jW ?_;refine zV ?_;refine gM ?_;refine bZ ?_;refine cQ (fun K hK=>?_);simp only [push_cast,simprocAttr];refine hK _ _ ?_;clear hK K
  have bad:∀ {Q:Prop},oU r=true→(fJ s=false→Q)→Q:=fun {Q} hb f=>f (by
   have hk:=d2 hb
   have hm:s[i] ∈ s.data.toList:=by
    rw [← qSv s i hlt];exact List.getElem_mem _
   have:s.data.toList.all okC=false:=by
    rw [Bool.eq_false_iff];intro hall;rw [List.all_eq_true.1 hall _ hm] at hk;cases hk
   rw [fJ,this];simp)
  have good:oU r=false→k=1∧(s.data.toList.take (i + 1)).all okC=true:=fun hb=>by
   obtain ⟨e1,e2⟩:=d3 hb;refine ⟨e1,?_⟩;rw [List.take_succ_eq_append_getElem (by rw [← Lib.size_eq];exact hlt),List.all_append,ha,qSv s i hlt]
   simp [e2]
  have cases7:(r < 48∧oU r=true)∨(48≤r∧r≤57∧oU r=false)∨(57 < r∧r < 95∧oU r=true)∨(r=95∧oU r=false)∨(r=96∧oU r=true)∨(97≤r∧r≤122∧oU r=false)∨(122 < r∧oU r=true):=by
   unfold oU;simp;omega
  rcases cases7 with ⟨c1,hb⟩|⟨c1,c2,hb⟩|⟨c1,c2,hb⟩|⟨c1,hb⟩|⟨c1,hb⟩|⟨c1,c2,hb⟩|⟨c1,hb⟩
  ·refine bad hb fun hbad=>?_
   refine bZ ?_;refine cQ (fun K hK=>?_);simp (disch:=omega) only [push_cast,↓iC9,simprocAttr];refine hK _ _ ?_;clear hK K
   refine zV ?_;refine gL rfl (fun _=>?_) (fun h=>by cases h)
   refine bZ ?_;refine cQ (fun K hK=>?_);simp only [push_cast,simprocAttr];refine hK _ _ ?_;clear hK K
   refine zV ?_;refine qBm ?_;refine yS ?_;refine yN ?_;refine yS ?_;refine yN ?_;simp only [qUg,mA,tup,lk,Nat.reduceEqDiff,reduceIte,reduceCtorEq];exact ⟨by rw [hbad],qC _ _ _⟩
  ·obtain ⟨rfl,ha2⟩:=good hb;refine bZ ?_;refine cQ (fun K hK=>?_);simp (disch:=omega) only [push_cast,↓iC9,simprocAttr];refine hK _ _ ?_;clear hK K
   refine zV ?_;refine gL rfl (fun h=>by cases h) (fun _=>?_)
   refine jW ?_;refine zY ?_;refine zV ?_;exact ⟨i + 1,rfl,⟨hlt,rfl,ha2⟩,by omega⟩
  ·refine bad hb fun hbad=>?_
   refine bZ ?_;refine cQ (fun K hK=>?_);simp (disch:=omega) only [push_cast,↓iC9,simprocAttr];refine hK _ _ ?_;clear hK K
   refine zV ?_;refine gL rfl (fun _=>?_) (fun h=>by cases h)
   refine bZ ?_;refine cQ (fun K hK=>?_);simp only [push_cast,simprocAttr];refine hK _ _ ?_;clear hK K
   refine zV ?_;refine qBm ?_;refine yS ?_;refine yN ?_;refine yS ?_;refine yN ?_;simp only [qUg,mA,tup,lk,Nat.reduceEqDiff,reduceIte,reduceCtorEq];exact ⟨by rw [hbad],qC _ _ _⟩
  ·obtain ⟨rfl,ha2⟩:=good hb;refine bZ ?_;refine cQ (fun K hK=>?_);simp (disch:=omega) only [push_cast,↓iC9,simprocAttr];refine hK _ _ ?_;clear hK K
   refine zV ?_;refine gL rfl (fun h=>by cases h) (fun _=>?_)
   refine jW ?_;refine zY ?_;refine zV ?_;exact ⟨i + 1,rfl,⟨hlt,rfl,ha2⟩,by omega⟩
  ·refine bad hb fun hbad=>?_
   refine bZ ?_;refine cQ (fun K hK=>?_);simp (disch:=omega) only [push_cast,↓iC9,simprocAttr];refine hK _ _ ?_;clear hK K
   refine zV ?_;refine gL rfl (fun _=>?_) (fun h=>by cases h)
   refine bZ ?_;refine cQ (fun K hK=>?_);simp only [push_cast,simprocAttr];refine hK _ _ ?_;clear hK K
   refine zV ?_;refine qBm ?_;refine yS ?_;refine yN ?_;refine yS ?_;refine yN ?_;simp only [qUg,mA,tup,lk,Nat.reduceEqDiff,reduceIte,reduceCtorEq];exact ⟨by rw [hbad],qC _ _ _⟩
  ·obtain ⟨rfl,ha2⟩:=good hb;refine bZ ?_;refine cQ (fun K hK=>?_);simp (disch:=omega) only [push_cast,↓iC9,simprocAttr];refine hK _ _ ?_;clear hK K
   refine zV ?_;refine gL rfl (fun h=>by cases h) (fun _=>?_)
   refine jW ?_;refine zY ?_;refine zV ?_;exact ⟨i + 1,rfl,⟨hlt,rfl,ha2⟩,by omega⟩
  ·refine bad hb fun hbad=>?_
   refine bZ ?_;refine cQ (fun K hK=>?_);simp (disch:=omega) only [push_cast,↓iC9,simprocAttr];refine hK _ _ ?_;clear hK K
   refine zV ?_;refine gL rfl (fun _=>?_) (fun h=>by cases h)
   refine bZ ?_;refine cQ (fun K hK=>?_);simp only [push_cast,simprocAttr];refine hK _ _ ?_;clear hK K
   refine zV ?_;refine qBm ?_;refine yS ?_;refine yN ?_;refine yS ?_;refine yN ?_;simp only [qUg,mA,tup,lk,Nat.reduceEqDiff,reduceIte,reduceCtorEq];exact ⟨by rw [hbad],qC _ _ _⟩
 ·have hne:i=s.size:=by omega
  subst hne;refine bZ ?_;refine cQ (fun K hK=>?_);simp only [push_cast,simprocAttr,zBj,qWr]
  refine zDd (fun _=>run_next_end w s _ _ hlt) rfl ?_
  refine v2s ?_;try simp only [push_cast,simprocAttr];refine hK _ _ ?_;clear hK K;refine bZ ?_;refine gL rfl (fun h=>by cases h) (fun _=>?_)
  refine vQ ?_;refine yP ?_;refine yP ?_;refine yQ ?_;refine bZ ?_;refine cQ (fun K hK=>?_);simp only [push_cast,simprocAttr];refine hK _ _ ?_;clear hK K
  refine zV ?_;refine qBm ?_;simp only [qUg,mA,tup,lk,Nat.reduceEqDiff,reduceIte,reduceCtorEq];refine ⟨?_,qC _ _ _⟩;rw [Lib.size_eq,List.take_length] at ha;rw [fJ,ha]
  have e1:s.size=s.data.toList.length:=Lib.size_eq s
  simp;omega
theorem zNa (s:ByteArray) (hs:s.size≤1048576):HFun Tryz.prog 83 [.v (.string s)] (fun h st=>h=.v (.bool (fJ s))):=by
 refine (qD1 fun w vs R=>?_).mono fun h st q=>q.1
 obtain ⟨r1,r2⟩:=R
 match vs,r1 with
|[x],_ =>
 have ha:=bN (r2 0 (by simp) (by simp))
 simp only [List.getElem_cons_zero] at ha;subst ha;exact qZy s hs w
end Go.Proofs.YtlihpgmgiehjkaaGreatDoor
