/-
  Regions that draw their order, one of whose heads copies over (and might do so again); the other heads are moves and the like. Of no program.
-/
import Derived.Test.YtbdomkfdkfdfgaaGreatDoorTrL
import Derived.Test.YtbdomkfdkfdfgaaGreatDoorTfl
import Derived.Test.YtbdomkfdkfdfgaaGreatDoorUpt
set_option linter.unusedSimpArgs false
set_option linter.unusedVariables false
section
set_option maxRecDepth 20000
namespace Go.Proofs.YtbdomkfdkfdfgaaGreatDoor
open Go Go.Eng Go.RowKit Go.Tr
set_option maxHeartbeats 4000000 in
theorem zS8 (t:List Ent) (p:ByteArray) (hl:t.length≤1048576) (hs:∀ e ∈ t,e.1.size≤1048576) (hp:p.size≤1048576):HFun Tryz.prog 33 [.lst false (aG t),.v (.string p)] (fun h st=>h=.own 0∧st=[(0,dT (t.filter fun e=>dY e.1 p))]):=by
 refine eX (N:=28) Tryz.func33 rfl Tryz.ntmps33 Tryz.results33 (by simp) ?_
 refine zE ?_;refine zJ (fun K hK=>?_);simp (disch:=omega) only [push_cast,↓Int.cast_ofNat_Int,simprocAttr];refine hK _ ?_;clear hK K
 refine zE ?_;refine zJ (fun K hK=>?_);simp (disch:=omega) only [push_cast,↓Int.cast_ofNat_Int,simprocAttr];refine hK _ ?_;clear hK K
 refine zE ?_;refine zE ?_;refine zJ (fun K hK=>?_);simp (disch:=omega) only [push_cast,↓Int.cast_ofNat_Int,simprocAttr];refine hK _ ?_;clear hK K
 refine zA ?_;refine zD ?_;refine eW 5 9000 67 3 rfl (by simp only [dX,fM,fN,bQ,aY,aZ,aT,cY,bD,cE,bC,bB,cM,bP,bN,aX,bV,bW,cJ,cX,dC,cD,Nat.reduceBEq,Nat.reduceEqDiff,reduceIte,cond_true,cond_false,List.map_cons,List.map_nil];exact rfl) ?_
 refine cP (fun x:Nat × List Ent=>⟨[(0,.lst false (aG t)),(1,.v (.string p)),(5,.own 9000),(6,.v (.int .i64 x.1))],[(9000,dT x.2)]⟩) (fun x=>x.1≤t.length∧x.2=(t.take x.1).filter fun e=>dY e.1 p) (fun x=>t.length - x.1) [0,1,5,6] [9000] (0,[]) (by simp only [zZ,zR,zP,zQ,zN,zS,zM,zX,zU,Nat.reduceEqDiff,reduceIte];rfl) ⟨Nat.zero_le _,rfl⟩ ?_
 rintro ⟨i,out⟩ ⟨hi,ho⟩;simp only at hi ho
 by_cases hlt:i < t.length
 ·have hsz:=hs _ (List.getElem_mem hlt)
  have hol:out.length≤i:=by
   rw [ho];refine Nat.le_trans (List.length_filter_le ..) ?_;rw [List.length_take];omega
  have cu:=zJ6 t[i].1 p hsz hp
  refine zE ?_;refine zE ?_;refine zJ (fun K hK=>?_);simp (disch:=omega) only [push_cast,↓Int.cast_ofNat_Int,simprocAttr,yV];refine hK _ ?_;clear hK K
  refine zA ?_;refine yD rfl ?_;refine zC ?_;refine zE ?_;refine zD ?_;refine zE ?_;refine zJ (fun K hK=>?_);simp (disch:=omega) only [push_cast,↓Int.cast_ofNat_Int,simprocAttr,yV,yU,yW hlt]
  refine bE zXh cu (.cons (.v _) (.cons (.v _) .nil)) ?_;with_reducible refine aB ?_;simp (disch:=omega) only [push_cast,↓Int.cast_ofNat_Int,simprocAttr]
  refine hK _ ?_;clear hK K
  cases hu:dY t[i].1 p with
 |true =>
   have e2:aG out ++ [[FV.v (.string t[i].1),.v (.int .i64 t[i].2.1),.v (.string t[i].2.2)]]=aG (out ++ [t[i]]):=mR out _ _ _
   refine yD rfl ?_;refine zJ (fun K hK=>?_);simp (disch:=omega) only [push_cast,↓Int.cast_ofNat_Int,simprocAttr,yV,yU,yW hlt,e2];(repeat refine ⟨by first|omega|decide|((repeat' apply And.intro) <;> first|omega|decide),?_⟩);refine hK _ ?_;clear hK K
   refine zB ?_;refine zA ?_;refine zJ (fun K hK=>?_);simp (disch:=omega) only [push_cast,↓Int.cast_ofNat_Int,simprocAttr];refine hK _ ?_;clear hK K
   refine zA ?_;refine ⟨(i + 1,out ++ [t[i]]),by simp only [zZ,zR,zP,zQ,zN,zS,zM,zX,zU,Nat.reduceEqDiff,reduceIte];try rfl,⟨hlt,?_⟩,by dsimp only;omega⟩
   dsimp only;rw [List.take_succ_eq_append_getElem hlt,List.filter_append,← ho];simp [hu]
 |false =>
   refine yC rfl ?_;refine zC ?_;refine zB ?_;refine zA ?_;refine zJ (fun K hK=>?_);simp (disch:=omega) only [push_cast,↓Int.cast_ofNat_Int,simprocAttr];refine hK _ ?_;clear hK K
   refine zA ?_;refine ⟨(i + 1,out),by simp only [zZ,zR,zP,zQ,zN,zS,zM,zX,zU,Nat.reduceEqDiff,reduceIte];try rfl,⟨hlt,?_⟩,by dsimp only;omega⟩
   dsimp only;rw [List.take_succ_eq_append_getElem hlt,List.filter_append,← ho];simp [hu]
 ·have hne:i=t.length:=by omega
  subst hne;rw [List.take_length] at ho;rw [ho];refine zE ?_;refine zE ?_;refine zJ (fun K hK=>?_);simp (disch:=omega) only [push_cast,↓Int.cast_ofNat_Int,simprocAttr,yV];refine hK _ ?_;clear hK K
  refine zA ?_;refine yC rfl ?_;refine zT ?_;refine zG ?_;refine zG ?_;refine zH ?_;refine zE ?_;refine zJ (fun K hK=>?_);simp (disch:=omega) only [push_cast,↓Int.cast_ofNat_Int,simprocAttr];refine hK _ ?_;clear hK K
  refine zA ?_;refine zW ?_;simp only [yA,yM,yH,yE,aA,aC,yK,yJ,zS,zM,Nat.reduceEqDiff,reduceIte,reduceCtorEq];exact xX rfl (aP _) ⟨rfl,rfl⟩
end Go.Proofs.YtbdomkfdkfdfgaaGreatDoor
end
section
namespace Go.Eng
open Go Go.RowKit
section
variable {P:Program} {N:Nat} {Q:gG} {c:Ctx} {S:HS}
def zU0:HV→Bool
|.v _=>true
|.own _=>true
|.vw _ _ _ _=>true
|.ptr _ _ _ _=>true
|_=>false
structure HeadO (P:Program) (N:Nat) (ops:List Oper) (E0:aK) (st st':aD) (hs:Nat→HV) (k i:Nat) (o:Oper):Prop where
 guard:o.guard=none
 lt:jT N o.dst
 zU0:zU0 (hs i)=true
 head:∃ T:aK,FrOk ops E0 hs i T∧(∀ t x,hlk T t=some x→t ∈ bY o.op) ∧
  (i≠k→eT o.op=true∧(∃ cnd,cnd∧hop P ⟨T,st⟩ 0 o.op=.go cnd (hs i) ⟨T,st⟩)∧∃ cnd,cnd∧hop P ⟨T,st'⟩ 0 o.op=.go cnd (hs i) ⟨T,st'⟩) ∧
  (i=k→∃ args ats,o.op=.call ⟨.builtin .copy,args,ats⟩∧(∃ cnd,cnd∧wV ⟨T,st⟩ (ats == #[eN ats,eN ats]) (bG P (eN ats)) (lL T args.toList)=.go cnd (hs i) ⟨T,st'⟩) ∧
   ∃ cnd,cnd∧wV ⟨T,st'⟩ (ats == #[eN ats,eN ats]) (bG P (eN ats)) (lL T args.toList)=.go cnd (hs i) ⟨T,st'⟩)
end
end Go.Eng
end
