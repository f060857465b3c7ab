/-
  Recon: Items, and what the laws call: walked.
-/
import Derived.Test.YtdfjeokjmigkaaaGreatRcG
set_option linter.unusedSimpArgs false
set_option linter.unusedVariables false
set_option maxRecDepth 20000
namespace Go.Rc
open Go Go.Eng Go.RowKit Go.Tr Go.Dk
theorem qP4 (L:LN):∀ x ∈ itl L,∀ f ∈ x,FreshF f:=fun x hx f hf=>by
 obtain ⟨h,-,rfl⟩:=List.mem_map.1 hx;simp only [List.mem_cons,List.not_mem_nil,or_false] at hf
 rcases hf with rfl|rfl
 ·exact .v _
 ·exact .v _
def mgF (_ _ _:Int × ByteArray):Bool:=false
def wU (mg:(Int × ByteArray)→(Int × ByteArray)→(Int × ByteArray)→Bool) (A H S:List Ent):LN:=bN mg A H S 1048577 { data:=#[] }
theorem zNr {t:List Ent} (h:okR t=true):∀ e ∈ t,e.2.2.size≤4096:=fun e he=>by
 obtain ⟨i,hi,rfl⟩:=List.getElem_of_mem he
 have:=sN.1 h i hi
 simp only [qEy,qRf,Bool.and_eq_true] at this;rw [qBt hi] at this
 have hw:=this.1.2.1
 unfold sR at hw;split at hw
 ·exact of_decide_eq_true hw
 ·simp only [Bool.and_eq_true,decide_eq_true_eq] at hw;omega
theorem qKq {t:List Ent} (h:pW t=0) (hs:∀ e ∈ t,e.1.size≤1048576):TB t:=⟨zJk (lL h).2,by have:=(lL h).1;omega,hs,zNr (lL h).2⟩
theorem zHb:TB []:=⟨List.Pairwise.nil,by simp,(fun e he=>by cases he),fun e he=>by cases he⟩
abbrev rcA:ByteArray:={ data:=#[97] }
abbrev zU6:ByteArray:={ data:=#[104,105] }
abbrev rcT:List Ent:=[(rcA,2,zU6)]
theorem zRm:TB rcT:=⟨by simp [rise],by simp,(fun e he=>by simp at he;subst he;decide),fun e he=>by simp at he;subst he;decide⟩
theorem zHw {mg:(Int × ByteArray)→(Int × ByteArray)→(Int × ByteArray)→Bool} (k:Nat):bN mg [] rcT [] (k + 1) { data:=#[] }=[(rcA,2)]:=by
 rw [bN]
 have h1:(lV { data:=#[] } ([] ++ rcT ++ [])).map (fun e=>e.1)=[rcA]:=by decide +kernel
 rw [h1,List.flatMap_cons,List.flatMap_nil,List.append_nil]
 have h2:eV rcT rcA=rcT:=by decide +kernel
 have h3:eV ([]:List Ent) rcA=[]:=rfl
 have h4:eH rcT rcA=(2,zU6):=by decide +kernel
 unfold iT;rw [h2,h3,h4,if_neg (by simp),if_neg (by simp),if_neg (by simp),if_pos rfl]
theorem qR1 {mg:(Int × ByteArray)→(Int × ByteArray)→(Int × ByteArray)→Bool}:wU mg [] rcT []=[(rcA,2)]:=zHw 1048576
end Go.Rc
namespace Go.Proofs.YtdfjeokjmigkaaaGreat
open Go Go.Eng Go.RowKit Go.Tr Go.Dk Go.Rc
theorem zGt {mg:(Int × ByteArray)→(Int × ByteArray)→(Int × ByteArray)→Bool} {A H S:List Ent} (hA:TB A) (hH:TB H) (hS:TB S) (hm:(H=S∨H=A∨S=A)∨zGy mg) :
  ∀ (k:Nat) (top:ByteArray),top.size≤1048576→(∀ e ∈ A ++ H ++ S,e.1.size < top.size + k)→∀ out:LN,out.length + (bN mg A H S k top).length≤1000000 →
   HFunS Tryz.prog 28 [.ptr 0 4 0 0,.v (.string top)] (wgS A H S out) (fun h st=>h=.tup []∧st=wgS A H S (out ++ bN mg A H S k top)):=by
 have sz:∀ e ∈ A ++ H ++ S,e.1.size≤1048576:=fun e he=>by
  rcases List.mem_append.1 he with he|he
  ·rcases List.mem_append.1 he with he|he
   ·exact hA.sz e he
   ·exact hH.sz e he
  ·exact hS.sz e he
 have nm:∀ top:ByteArray,∀ p ∈ (lV top (A ++ H ++ S)).map (fun e=>e.1),top.size < p.size∧p.size≤1048576:=fun top p hp=>by
  obtain ⟨q,hq,rfl⟩:=List.mem_map.1 hp
  rcases nL (A ++ H ++ S) [] hq with h0|⟨e,he,hn⟩
  ·cases h0
  ·have h1:=jX hn
   have h2:=sz e he
   exact ⟨h1.1,by omega⟩
 intro k
 induction k with
|zero =>
  intro top htop hk out hout
  have hn:lV top (A ++ H ++ S)=[]:=qX9 fun e he=>by have:=hk e he;omega
  have hb:bN mg A H S 1 top=bN mg A H S 0 top:=by rw [bN,bN,hn];rfl
  rw [← hb] at hout ⊢;exact qM5 hA hH hS 0 top htop (fun p hp=>by rw [hn] at hp;cases hp) out hout
|succ k ih =>
  intro top htop hk out hout;refine qM5 hA hH hS k top htop (fun p hp o ho=>?_) out hout
  have h1:=nm top p hp
  exact qWl hA hH hS hm k p h1.2 (fun o2 h2=>ih p h1.2 (fun e he=>by have:=hk e he;omega) o2 h2) o ho
set_option maxHeartbeats 1000000 in
theorem zB3 {mg:(Int × ByteArray)→(Int × ByteArray)→(Int × ByteArray)→Bool} {A H S:List Ent} (hA:TB A) (hH:TB H) (hS:TB S) (hm:(H=S∨H=A∨S=A)∨zGy mg) :
  HFun Tryz.prog 12 [.lst false (aQ A),.lst false (aQ H),.lst false (aQ S)] (fun h st=>h=.own 0∧st=[(0,.sl true 31 2 (itl (wU mg A H S)))]):=by
 refine eF (N:=15) Tryz.func12 rfl Tryz.ntmps12 Tryz.results12 (by simp) ?_
 have hb:(wU mg A H S).length≤3000:=by
  have h1:=qJw (mg:=mg) A H S 1048577 { data:=#[] }
  have:=hA.len
  have:=hH.len
  have:=hS.len
  rw [wU];omega
 have hz:∀ e ∈ A ++ H ++ S,e.1.size < ({ data:=#[] }:ByteArray).size + 1048577:=fun e he=>by
  have h0:({ data:=#[] }:ByteArray).size=0:=rfl
  have:e.1.size≤1048576:=by
   rcases List.mem_append.1 he with he|he
   ·rcases List.mem_append.1 he with he|he
    ·exact hA.sz e he
    ·exact hH.sz e he
   ·exact hS.sz e he
  omega
 have cb:=zGt (mg:=mg) hA hH hS hm 1048577 { data:=#[] } (by decide) hz [] (by rw [← wU,List.length_nil];omega)
 rw [← wU,List.nil_append] at cb;refine zE ?_;refine zJ (fun K hK=>?_);simp (disch:=omega) only [push_cast,↓Int.cast_ofNat_Int,simprocAttr];refine hK _ ?_
 refine zE ?_;refine zJ (fun K hK=>?_);simp (disch:=omega) only [push_cast,↓Int.cast_ofNat_Int,simprocAttr];refine hK _ ?_
 refine zCk 56 3 9000 31 2 (by decide) rfl rfl (by simp only [push_cast,List.set_cons_succ,List.set_cons_zero,Nat.reduceEqDiff,reduceIte,Nat.reduceBEq,cond_false,cond_true];exact rfl) ?_
 refine zE ?_;refine zJ (fun K hK=>?_);simp (disch:=omega) only [push_cast,↓Int.cast_ofNat_Int,simprocAttr]
 refine qCu 96 [56,9000] zT9 (cb) rfl (by decide) (by decide) (by simp only [push_cast,simprocAttr];try rfl) (by simp only [push_cast,simprocAttr];try rfl) ?_
 rintro _ _ ⟨rfl,rfl⟩;refine aB ?_;simp (disch:=omega) only [push_cast,↓Int.cast_ofNat_Int,simprocAttr];refine hK _ ?_;refine zE ?_;refine zJ (fun K hK=>?_);simp (disch:=omega) only [push_cast,↓Int.cast_ofNat_Int,simprocAttr];refine hK _ ?_
 refine zA ?_;refine zW ?_;simp only [yA,yM,yH,yE,aA,aC,yK,yJ,zS,zM,Nat.reduceEqDiff,reduceIte,reduceCtorEq];exact lW rfl (qP4 _) ⟨rfl,rfl⟩
theorem zW6:Tryz.prog.stoodInHeld 31=false:=by kernel_rfl
theorem zLz (p q:ByteArray) (x y:Int):EqR Tryz.prog 31 [.string p,.int .i64 x].toArray [.string q,.int .i64 y].toArray (decide (p=q∧x=y)):=by
 refine ⟨by kernel_rfl,fun w=>?_⟩
 unfold Op.equal Op.maxDepth Op.equalIn;simp [run_underlying Tryz.underlying31,zW6,i3,i9,part,bT kt3,bT kt9,zCb,qVp,Sem.run_bind]
 have hr:List.range' 0 2=[0,1]:=rfl
 try rw [hr]
 try simp [bT kt3,bT kt9,zCb,qVp,Sem.run_bind]
 by_cases h1:p=q <;> by_cases h2:x=y <;> simp [h1,h2]
theorem zMv (a b c:List Ent) (ha:a.length≤1048576) (hb:b.length≤1048576) (hc:c.length≤1048576) (sa:∀ e ∈ a,e.1.size≤1048576) (sb:∀ e ∈ b,e.1.size≤1048576) (sc:∀ e ∈ c,e.1.size≤1048576) :
  HFun Tryz.prog 10 [.lst false (aQ a),.lst false (aQ b),.lst false (aQ c)] (fun h st=>h=.v (.bool (decide (pW a=0) && (decide (pW b=0) && decide (pW c=0))))):=by
 refine eF (N:=20) Tryz.func10 rfl Tryz.ntmps10 Tryz.results10 (by simp) ?_
 have ca:=qLf a (by omega) sa
 have cb:=qLf b (by omega) sb
 have cc:=qLf c (by omega) sc
 refine zE ?_;refine zJ (fun K hK=>?_);simp (disch:=omega) only [push_cast,↓Int.cast_ofNat_Int,simprocAttr];refine hK _ ?_
 cases d1:decide (pW a=0) with
|false =>
  refine zE ?_;refine zJ (fun K hK=>?_);simp (disch:=omega) only [push_cast,↓Int.cast_ofNat_Int,simprocAttr]
  refine aW zGl ca (.cons (aH (yT _)) .nil) ?_;with_reducible refine aB ?_;simp (disch:=omega) only [push_cast,↓Int.cast_ofNat_Int,simprocAttr,d1]
  refine hK _ ?_;refine zA ?_;refine zW ?_;simp only [yA,yM,yH,yE,aA,aC,yK,yJ,zS,zM,Nat.reduceEqDiff,reduceIte,reduceCtorEq];exact aL rfl
|true =>
 cases d2:decide (pW b=0) with
|false =>
  refine zE ?_;refine zJ (fun K hK=>?_);simp (disch:=omega) only [push_cast,↓Int.cast_ofNat_Int,simprocAttr]
  refine aW zGl ca (.cons (aH (yT _)) .nil) ?_;with_reducible refine aB ?_;simp (disch:=omega) only [push_cast,↓Int.cast_ofNat_Int,simprocAttr,d1]
  refine aW zGl cb (.cons (aH (yT _)) .nil) ?_;with_reducible refine aB ?_;simp (disch:=omega) only [push_cast,↓Int.cast_ofNat_Int,simprocAttr,d1,d2]
  refine hK _ ?_;refine zA ?_;refine zW ?_;simp only [yA,yM,yH,yE,aA,aC,yK,yJ,zS,zM,Nat.reduceEqDiff,reduceIte,reduceCtorEq];exact aL rfl
|true =>
  refine zE ?_;refine zJ (fun K hK=>?_);simp (disch:=omega) only [push_cast,↓Int.cast_ofNat_Int,simprocAttr]
  refine aW zGl ca (.cons (aH (yT _)) .nil) ?_;with_reducible refine aB ?_;simp (disch:=omega) only [push_cast,↓Int.cast_ofNat_Int,simprocAttr,d1]
  refine aW zGl cb (.cons (aH (yT _)) .nil) ?_;with_reducible refine aB ?_;simp (disch:=omega) only [push_cast,↓Int.cast_ofNat_Int,simprocAttr,d1,d2]
  refine aW zGl cc (.cons (aH (yT _)) .nil) ?_;with_reducible refine aB ?_;simp (disch:=omega) only [push_cast,↓Int.cast_ofNat_Int,simprocAttr,d1,d2]
  refine hK _ ?_;refine zA ?_;refine zW ?_;simp only [yA,yM,yH,yE,aA,aC,yK,yJ,zS,zM,Nat.reduceEqDiff,reduceIte,reduceCtorEq];exact aL rfl
set_option maxHeartbeats 1000000 in
theorem mA:HFun Tryz.prog 9 [] (fun h st=>h=.v (.bool true)):=by
 refine eF (N:=18) Tryz.func9 rfl Tryz.ntmps9 Tryz.results9 (by simp) ?_
 have ci:=zB3 (mg:=mgF) zHb zRm zHb (.inl (.inr (.inr rfl)))
 rw [qR1] at ci;refine zE ?_;refine zJ (fun K hK=>?_);simp (disch:=omega) only [push_cast,↓Int.cast_ofNat_Int,simprocAttr];refine hK _ ?_
 refine zE ?_;refine zJ (fun K hK=>?_);simp (disch:=omega) only [push_cast,↓Int.cast_ofNat_Int,simprocAttr];(repeat refine ⟨by first|omega|decide|((repeat' apply And.intro) <;> first|omega|decide),?_⟩);refine hK _ ?_
 have he:[[FV.v (.string { data:=#[97] }),.v (.int .i64 2),.v (.string { data:=#[104,105] })]]=aQ rcT:=rfl
 rw [he]
 have hg:∀ d,(itl [(rcA,2)]).getD 0 d=[.v (.string rcA),.v (.int .i64 2)]:=fun d=>rfl
 have hln:(itl [(rcA,2)]).length=1:=rfl
 refine cU 40 rfl (by simp only [dP,cJ,bH,bZ,bF,fD,cF,cG,bG,cE,cD,dQ,cH,cC,dL,dM,dN,Nat.reduceEqDiff,reduceIte,List.map_cons,List.map_nil,List.map_append];exact rfl) ?_
 refine zE ?_;refine zJ (fun K hK=>?_);simp (disch:=omega) only [push_cast,↓Int.cast_ofNat_Int,simprocAttr]
 refine hat 56 zUb ci (.cons .nil (.cons (aH (yT _)) (.cons .nil .nil))) ?_;rintro _ _ ⟨rfl,rfl⟩;with_reducible refine aB ?_;simp (disch:=omega) only [push_cast,↓Int.cast_ofNat_Int,simprocAttr]
 refine hK _ ?_;refine zE ?_;refine zJ (fun K hK=>?_);simp (disch:=omega) only [push_cast,↓Int.cast_ofNat_Int,simprocAttr,hg,hln,qDt]
 refine ⟨_,zLz _ _ _ _,?_⟩;with_reducible refine aB ?_;simp (disch:=omega) only [push_cast,↓Int.cast_ofNat_Int,simprocAttr]
 refine hK _ ?_;refine zA ?_;refine zW ?_;simp only [yA,yM,yH,yE,aA,aC,yK,yJ,zS,zM,Nat.reduceEqDiff,reduceIte,reduceCtorEq];exact aL rfl
end Go.Proofs.YtdfjeokjmigkaaaGreat
