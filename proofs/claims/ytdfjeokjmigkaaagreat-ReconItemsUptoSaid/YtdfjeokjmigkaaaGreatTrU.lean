/-
  Plain: where two trees differ.
-/
import Derived.Test.YtdfjeokjmigkaaaGreatTrK
import Derived.Test.YtdfjeokjmigkaaaGreatUpt
import Derived.Test.YtdfjeokjmigkaaaGreatTrC
set_option linter.unusedSimpArgs false
set_option linter.unusedVariables false
section
set_option maxRecDepth 20000
namespace Go.Tr
open Go
def sR (n:Int × ByteArray):Bool:=if n.1=2 then decide (n.2.size≤4096) else (decide (n.1=0) || decide (n.1=1)) && decide (n.2.size=0)
end Go.Tr
namespace Go.Proofs.YtdfjeokjmigkaaaGreat
open Go Go.Eng Go.RowKit Go.Tr
set_option maxHeartbeats 2000000 in
theorem qFl (n:Int × ByteArray):HFun Tryz.prog 16 [fE n] (fun h st=>h=.v (.bool (sR n))):=by
 obtain ⟨k,d⟩:=n;refine eF (N:=24) Tryz.func16 rfl Tryz.ntmps16 Tryz.results16 (by simp) ?_
 unfold sR;dsimp only;refine zE ?_;refine zJ (fun K hK=>?_);simp (disch:=omega) only [push_cast,↓Int.cast_ofNat_Int,simprocAttr];refine hK _ ?_
 have e:decide ((d.size:Int)=0)=decide (d.size=0):=by rw [decide_eq_decide];omega
 by_cases h2:k=2
 ·subst h2;rw [if_pos rfl];refine zE ?_;refine zE ?_;refine zJ (fun K hK=>?_);simp (disch:=omega) only [push_cast,↓Int.cast_ofNat_Int,simprocAttr];refine hK _ ?_
  refine yD rfl ?_;refine zE ?_;refine zJ (fun K hK=>?_);simp (disch:=omega) only [push_cast,↓Int.cast_ofNat_Int,simprocAttr];refine hK _ ?_
  refine zA ?_;refine zW ?_;refine zK ?_;simp only [yA,yM,yH,yE,aA,aC,yK,yJ,zS,zM,Nat.reduceEqDiff,reduceIte,reduceCtorEq];exact aL (by first|(simp;done)|(simp;omega))
 rw [if_neg h2];refine zE ?_;refine zE ?_;refine zJ (fun K hK=>?_);simp (disch:=omega) only [push_cast,↓Int.cast_ofNat_Int,simprocAttr];refine hK _ ?_
 refine yC rfl ?_;refine zC ?_;refine zE ?_
 by_cases h0:k=0
 ·subst h0;refine zJ (fun K hK=>?_);simp (disch:=omega) only [push_cast,↓Int.cast_ofNat_Int,simprocAttr,e];refine hK _ ?_
  refine zA ?_;refine zW ?_;simp only [yA,yM,yH,yE,aA,aC,yK,yJ,zS,zM,Nat.reduceEqDiff,reduceIte,reduceCtorEq];exact aL (by first|(simp;done)|(simp;omega))
 by_cases h1:k=1
 ·subst h1;refine zJ (fun K hK=>?_);simp (disch:=omega) only [push_cast,↓Int.cast_ofNat_Int,simprocAttr,e];refine hK _ ?_
  refine zA ?_;refine zW ?_;simp only [yA,yM,yH,yE,aA,aC,yK,yJ,zS,zM,Nat.reduceEqDiff,reduceIte,reduceCtorEq];exact aL (by first|(simp;done)|(simp;omega))
 ·refine zJ (fun K hK=>?_);simp (disch:=omega) only [push_cast,↓Int.cast_ofNat_Int,simprocAttr];refine hK _ ?_
  refine zA ?_;refine zW ?_;simp only [yA,yM,yH,yE,aA,aC,yK,yJ,zS,zM,Nat.reduceEqDiff,reduceIte,reduceCtorEq];exact aL (by simp [h0,h1])
set_option maxHeartbeats 2000000 in
theorem qHf (t:List Ent) (p:ByteArray) (hl:t.length≤140737488355328):HFun Tryz.prog 26 [.lst false (aQ t),.v (.string p)] (fun h st=>h=fE (eH t p)∧st=[]):=by
 refine eF (N:=25) Tryz.func26 rfl Tryz.ntmps26 Tryz.results26 (by simp) ?_
 refine zE ?_;refine zJ (fun K hK=>?_);simp (disch:=omega) only [push_cast,↓Int.cast_ofNat_Int,simprocAttr];refine hK _ ?_
 refine zE ?_;refine zE ?_;refine zJ (fun K hK=>?_);simp (disch:=omega) only [push_cast,↓Int.cast_ofNat_Int,simprocAttr];refine hK _ ?_
 refine zA ?_;refine zD ?_;refine bR (fun i:Nat=>⟨[(0,.lst false (aQ t)),(1,.v (.string p)),(4,.ptr 32 2 0 0),(5,.v (.int .i64 i))],[(32,.bx true 33 [.v (.int .i64 0),.v (.string ByteArray.empty)])]⟩) (fun i=>i≤t.length∧eH t p=eH (t.drop i) p) (fun i=>t.length - i) [0,1,4,5] [32] 0 rfl ⟨Nat.zero_le _,rfl⟩ ?_
 rintro i ⟨hi,hg⟩
 by_cases hlt:i < t.length
 ·rw [List.drop_eq_getElem_cons hlt] at hg;refine zE ?_;refine zE ?_;refine zJ (fun K hK=>?_);simp (disch:=omega) only [push_cast,↓Int.cast_ofNat_Int,simprocAttr,yV];refine hK _ ?_
  refine zA ?_;refine yD rfl ?_;refine zC ?_;refine zE ?_
  by_cases he:t[i].1=p
  ·have hd:decide (t[i].1=p)=true:=decide_eq_true he
   have hg2:eH t p=t[i].2:=by rw [hg,eH,List.find?_cons,hd];rfl
   rw [hg2];refine zD ?_;refine zE ?_;refine zJ (fun K hK=>?_);simp (disch:=omega) only [push_cast,↓Int.cast_ofNat_Int,simprocAttr,yV,yU,yW hlt,hd];refine hK _ ?_
   refine yD rfl ?_;refine zE ?_;refine zJ (fun K hK=>?_);simp (disch:=omega) only [push_cast,↓Int.cast_ofNat_Int,simprocAttr,yV,yU,yW hlt];refine hK _ ?_
   refine zA ?_;refine zW ?_;refine zL ?_;refine zK ?_;refine zK ?_;refine zL ?_;refine zK ?_;simp (disch:=omega) only [yA,yM,yH,yE,aA,aC,yK,yJ,push_cast,↓Int.cast_ofNat_Int,Nat.reduceBEq,Nat.reduceAdd,Nat.reduceLT,Nat.reduceEqDiff,reduceIte,reduceCtorEq,Nat.reduceLeDiff,Nat.reduceSub,List.reduceReplicate,Nat.reduceMul,Int.reduceToNat,Int.toNat_natCast,Nat.reducePow,reduceIte];exact qDw (n:=t[i].2) ⟨rfl,rfl⟩
  ·have hd:decide (t[i].1=p)=false:=decide_eq_false he
   have hg2:eH t p=eH (t.drop (i + 1)) p:=by rw [hg,eH,List.find?_cons,hd];rfl
   refine zD ?_;refine zE ?_;refine zJ (fun K hK=>?_);simp (disch:=omega) only [push_cast,↓Int.cast_ofNat_Int,simprocAttr,yV,yU,yW hlt,hd];refine hK _ ?_
   refine yC rfl ?_;refine zC ?_;refine zB ?_;refine zA ?_;refine zJ (fun K hK=>?_);simp (disch:=omega) only [push_cast,↓Int.cast_ofNat_Int,simprocAttr];refine hK _ ?_
   refine zA ?_;exact ⟨i + 1,rfl,⟨hlt,hg2⟩,by omega⟩
 ·rw [List.drop_of_length_le (by omega)] at hg
  have hg2:eH t p=qX5:=hg
  rw [hg2];refine zE ?_;refine zE ?_;refine zJ (fun K hK=>?_);simp (disch:=omega) only [push_cast,↓Int.cast_ofNat_Int,simprocAttr,yV];refine hK _ ?_
  refine zA ?_;refine yC rfl ?_;refine zT ?_;refine zG ?_;refine zG ?_;refine zH ?_;refine zE ?_;refine zJ (fun K hK=>?_);simp (disch:=omega) only [push_cast,↓Int.cast_ofNat_Int,simprocAttr];refine hK _ ?_
  refine zA ?_;refine zW ?_;simp (disch:=omega) only [yA,yM,yH,yE,aA,aC,yK,yJ,push_cast,↓Int.cast_ofNat_Int,Nat.reduceBEq,Nat.reduceAdd,Nat.reduceLT,Nat.reduceEqDiff,reduceIte,reduceCtorEq,Nat.reduceLeDiff,Nat.reduceSub,List.reduceReplicate,Nat.reduceMul,Int.reduceToNat,Int.toNat_natCast,Nat.reducePow,reduceIte];exact qDw (n:=qX5) ⟨rfl,rfl⟩
theorem qN5 {α:Type} {a b:List α} {i:Nat} (h:a.take i=b.take i) (h1:i < a.length) (h2:i < b.length) (he:a[i]=b[i]):a.take (i + 1)=b.take (i + 1):=by
 rw [List.take_succ_eq_append_getElem h1,List.take_succ_eq_append_getElem h2,h,he]
set_option maxHeartbeats 2000000 in
theorem qFm (a b:List Ent) (ha:a.length≤140737488355328):HFun Tryz.prog 24 [.lst false (aQ a),.lst false (aQ b)] (fun h st=>h=.v (.bool (decide (a=b)))):=by
 refine eF (N:=26) Tryz.func24 rfl Tryz.ntmps24 Tryz.results24 (by simp) ?_
 refine zE ?_;refine zJ (fun K hK=>?_);simp (disch:=omega) only [push_cast,↓Int.cast_ofNat_Int,simprocAttr];refine hK _ ?_
 by_cases hl:a.length=b.length
 ·refine zE ?_;refine zE ?_;refine zJ (fun K hK=>?_);simp (disch:=omega) only [push_cast,↓Int.cast_ofNat_Int,simprocAttr,yV];refine hK _ ?_
  refine zA ?_;refine yC rfl ?_;refine zC ?_;refine zE ?_;refine zE ?_;refine zJ (fun K hK=>?_);simp (disch:=omega) only [push_cast,↓Int.cast_ofNat_Int,simprocAttr];refine hK _ ?_
  refine zA ?_;refine zD ?_;refine bR (fun i:Nat=>⟨[(0,.lst false (aQ a)),(1,.lst false (aQ b)),(5,.v (.int .i64 i))],[]⟩) (fun i=>i≤a.length∧a.take i=b.take i) (fun i=>a.length - i) [0,1,5] [] 0 rfl ⟨Nat.zero_le _,rfl⟩ ?_
  rintro i ⟨hi,hp⟩
  by_cases hia:i < a.length
  ·have hib:i < b.length:=by omega
   refine zE ?_;refine zE ?_;refine zJ (fun K hK=>?_);simp (disch:=omega) only [push_cast,↓Int.cast_ofNat_Int,simprocAttr,yV];refine hK _ ?_
   refine zA ?_;refine yD rfl ?_;refine zC ?_;refine zE ?_
   by_cases he:a[i]=b[i]
   ·have he':decide ((a[i].1,a[i].2.1,a[i].2.2)=(b[i].1,b[i].2.1,b[i].2.2))=true:=by rw [he];simp
    refine zD ?_;refine zE ?_;refine HW_drw 9 mixed (by kernel_rfl) (fun K hK=>?_);simp (disch:=omega) only [push_cast,↓Int.cast_ofNat_Int,simprocAttr,yV,yU,yW hia,yW hib,he']
    refine ⟨_,eqE _ _ _ _ _ _,?_⟩;with_reducible refine aB ?_;simp (disch:=omega) only [push_cast,↓Int.cast_ofNat_Int,simprocAttr,he']
    with_reducible refine aB ?_;simp (disch:=omega) only [push_cast,↓Int.cast_ofNat_Int,simprocAttr]
    refine hK _ ?_;refine yC rfl ?_;refine zC ?_;refine zB ?_;refine zA ?_;refine zJ (fun K hK=>?_);simp (disch:=omega) only [push_cast,↓Int.cast_ofNat_Int,simprocAttr];refine hK _ ?_
    refine zA ?_;exact ⟨i + 1,rfl,⟨hia,qN5 hp hia hib he⟩,by omega⟩
   ·have he':decide ((a[i].1,a[i].2.1,a[i].2.2)=(b[i].1,b[i].2.1,b[i].2.2))=false:=decide_eq_false he
    refine zD ?_;refine zE ?_;refine HW_drw 9 mixed (by kernel_rfl) (fun K hK=>?_);simp (disch:=omega) only [push_cast,↓Int.cast_ofNat_Int,simprocAttr,yV,yU,yW hia,yW hib,he']
    refine ⟨_,eqE _ _ _ _ _ _,?_⟩;with_reducible refine aB ?_;simp (disch:=omega) only [push_cast,↓Int.cast_ofNat_Int,simprocAttr,he']
    with_reducible refine aB ?_;simp (disch:=omega) only [push_cast,↓Int.cast_ofNat_Int,simprocAttr]
    refine hK _ ?_;refine yD rfl ?_;refine zE ?_;refine zJ (fun K hK=>?_);simp (disch:=omega) only [push_cast,↓Int.cast_ofNat_Int,simprocAttr];refine hK _ ?_
    refine zA ?_;refine zW ?_;refine zL ?_;refine zK ?_;refine zK ?_;refine zL ?_;refine zK ?_;simp only [yA,yM,yH,yE,aA,aC,yK,yJ,zS,zM,Nat.reduceEqDiff,reduceIte,reduceCtorEq];refine aL ?_;rw [decide_eq_false (fun e=>he (by subst e;rfl))]
  ·refine zE ?_;refine zE ?_;refine zJ (fun K hK=>?_);simp (disch:=omega) only [push_cast,↓Int.cast_ofNat_Int,simprocAttr,yV];refine hK _ ?_
   refine zA ?_;refine yC rfl ?_;refine zT ?_;refine zG ?_;refine zG ?_;refine zH ?_;refine zE ?_;refine zJ (fun K hK=>?_);simp (disch:=omega) only [push_cast,↓Int.cast_ofNat_Int,simprocAttr];refine hK _ ?_
   refine zA ?_;refine zW ?_;simp only [yA,yM,yH,yE,aA,aC,yK,yJ,zS,zM,Nat.reduceEqDiff,reduceIte,reduceCtorEq];refine aL ?_;rw [List.take_of_length_le (by omega),List.take_of_length_le (by omega)] at hp
   rw [decide_eq_true hp]
 ·refine zE ?_;refine zE ?_;refine zJ (fun K hK=>?_);simp (disch:=omega) only [push_cast,↓Int.cast_ofNat_Int,simprocAttr,yV];refine hK _ ?_
  refine zA ?_;refine yD rfl ?_;refine zE ?_;refine zJ (fun K hK=>?_);simp (disch:=omega) only [push_cast,↓Int.cast_ofNat_Int,simprocAttr];refine hK _ ?_
  refine zA ?_;refine zW ?_;refine zK ?_;simp only [yA,yM,yH,yE,aA,aC,yK,yJ,zS,zM,Nat.reduceEqDiff,reduceIte,reduceCtorEq];refine aL ?_;rw [decide_eq_false (fun e=>hl (by rw [e]))]
end Go.Proofs.YtdfjeokjmigkaaaGreat
end
section
namespace Go.Eng
open Go Go.RowKit
section
variable {P:Program} {N:Nat} {x:Code} {Q:gE} {c:Ctx} {S S':HS} {look:Nat→Option Value} {w:World}
theorem zCj (id:Nat) {ty sz:Nat} {nw:Bool} {els:List (List HV)} (ys:List (List FV)) (he:els=ys.map (List.map FV.h)) (hr:rlk S.st id=some (.hl nw ty sz els)) (hs:(⟨S.env,jG id (.sl nw ty sz ys) S.st⟩:HS)=S') (h:HW P N x Q S'):HW P N x Q S:=fun c l w I=>by
 subst hs he;refine h c l w ?_;obtain ⟨ρ,xs,G⟩:=I
 have hl:=jN id (.sl nw ty sz ys) S.st _ hr
 have hA:∀ b,c.A ρ (jG id (.sl nw ty sz ys) S.st) b→c.A ρ S.st b:=by
  rintro b (h0|⟨i,s,hi,hb⟩)
  ·exact .inl h0
  ·rw [hl] at hi
   by_cases e:i=id
   ·subst e;exact .inr ⟨_,_,hr,hb⟩
   ·rw [if_neg e] at hi;exact .inr ⟨i,s,hi,hb⟩
 have back:∀ i r,rlk (jG id (.sl nw ty sz ys) S.st) i=some r→∃ r0,rlk S.st i=some r0:=by
  intro i r hi;rw [hl] at hi
  by_cases e:i=id
  ·subst e;exact ⟨_,hr⟩
  ·rw [if_neg e] at hi;exact ⟨r,hi⟩
 refine ⟨ρ,xs,fun i r hi=>?_,fun i j r s b hne hi hj=>?_,fun k y hk=>?_,G.kept,G.a0⟩
 ·dsimp only at hi;rw [hl] at hi
  by_cases e:i=id
  ·subst e;rw [if_pos rfl] at hi;simp only [Option.some.injEq] at hi;subst hi
   have R:=G.rows i _ hr
   refine ⟨by simpa [Row.ty,Row.sz,Row.len] using R.own,⟨fun y hy=>?_,fun p k hp hk=>?_⟩,R.new⟩
   ·have:=R.rep.1 _ (List.mem_map.2 ⟨y,hy,rfl⟩)
    rwa [List.length_map] at this
   ·obtain ⟨u,u1,u2,u3⟩:=R.rep.2 p k (by rw [List.length_map];exact hp) (by rw [List.getElem_map,List.length_map];exact hk)
    simp only [List.getElem_map] at u3;exact ⟨u,u1,u2,(qXh u3).up (Nat.le_refl _) (fun _ _ _=>rfl) (fun b _=>hA b) (Nat.le_refl _)⟩
  ·rw [if_neg e] at hi;exact (G.rows i r hi).up (Nat.le_refl _) (fun _ _ _=>rfl) (fun b _=>hA b) (fun _ _=>rfl)
 ·obtain ⟨r0,h1⟩:=back i r hi;obtain ⟨s0,h2⟩:=back j s hj;exact G.apart i j r0 s0 b hne h1 h2
 ·obtain ⟨v,h1,h2⟩:=G.env k y hk;exact ⟨v,h1,h2.up (Nat.le_refl _) (fun _ _ _=>rfl) (fun b _=>hA b) (Nat.le_refl _)⟩
theorem qWg {id:Nat} {ops:List Oper} (n:Nat) (hm:P.follows .mixedOrders=true) (hok:xH (bD S.env) ops n=true)
  (h:∀ K:HS→Prop,(∀ S',Q .normal S'→K S')→∀ K1:HS→Prop,(∀ S',mR (HV2 P N (cT ops) K (ops.drop n)) S'→K1 S')→HVr P N (cT ops) K1 (ops.take n) S):HW P N (.region id ops.toArray true) Q S :=
 zQx n hm hok fun K hK=>h K hK _ fun _ h=>h
theorem qG2 {id:Nat} {ops:List Oper} (n:Nat) (hm:P.follows .mixedOrders=true) (hok:xH (bD S.env) ops n=true)
  (h:∀ K:HS→Prop,(∀ S',Q .normal S'→K S')→∀ K1:HS→Prop,(∀ S',mR (HV2 P N (cT ops) K (ops.drop n)) S'→K1 S')→HVq P N (cT ops) K1 (ops.take n) S):HW P N (.region id ops.toArray true) Q S :=
 HW_drw n hm hok fun K hK=>h K hK _ fun _ h=>h
end
end Go.Eng
end
section
set_option maxRecDepth 20000
namespace Go.Tr
open Go Go.Eng
def spare:Ent:=({ data:=#[115,112,97,114,101] },0,ByteArray.empty)
abbrev rowE (t:List Ent):Row:=.sl true 50 3 (aQ t)
theorem zPe {S:HS} {id sz n:Nat} {ty:Nat} {els:List (List FV)} {Q:HV→aD→Prop} (hr:rlk S.st id=some (.sl true ty sz els)) (hf:∀ x ∈ els,∀ f ∈ x,FreshF f) (q:Q (.vw 0 sz 0 n) [(0,.sl true ty sz els)]):qG3 S (.vw id sz 0 n) Q :=
 ⟨[id],by simp,by simp [dup],.vw ..,fun i h r hr'=>by
  simp at h;subst h;rw [hr] at hr';simp only [Option.some.injEq] at hr';subst hr';exact ⟨rfl,hf⟩,by
  rw [HV.ren];simp only [pos,if_true,lN,hr,Row.ren];exact q⟩
end Go.Tr
namespace Go.Proofs.YtdfjeokjmigkaaaGreat
open Go Go.Eng Go.RowKit Go.Tr
set_option maxHeartbeats 2000000 in
theorem qRg (t:List Ent) (hl:t.length≤1048576):HFun Tryz.prog 11 [.lst false (aQ t)] (fun h st=>h=.vw 0 3 0 t.length∧st=[(0,rowE (t ++ [spare]))]):=by
 refine eF (N:=12) Tryz.func11 rfl Tryz.ntmps11 Tryz.results11 (by simp) ?_
 refine zE ?_;refine zJ (fun K hK=>?_);simp (disch:=omega) only [push_cast,↓Int.cast_ofNat_Int,simprocAttr];refine hK _ ?_
 have e1:aQ t ++ [[FV.v (.string { data:=#[115,112,97,114,101] }),.v (.int .i64 0),.v (.string ByteArray.empty)]]=aQ (t ++ [spare]):=qAs t _ _ _
 refine zE ?_;refine zJ (fun K hK=>?_);simp (disch:=omega) only [push_cast,↓Int.cast_ofNat_Int,simprocAttr,yV,yU,Nat.sub_zero,e1];refine hK _ ?_
 refine zA ?_;refine zW ?_;simp only [yA,yM,yH,yE,aA,aC,yK,yJ,zS,zM,Nat.reduceEqDiff,reduceIte,reduceCtorEq];exact zPe rfl (qBo _) ⟨rfl,rfl⟩
set_option maxHeartbeats 4000000 in
theorem zHe (t:List Ent) (p:ByteArray) (hl:t.length≤1048576) (hs:∀ e ∈ t,e.1.size≤1048576) (hp:p.size≤1048576):HFun Tryz.prog 59 [.lst false (aQ t),.v (.string p)] (fun h st=>h=.own 0∧st=[(0,rowE (t.filter fun e=>gF e.1 p))]):=by
 refine eF (N:=25) Tryz.func59 rfl Tryz.ntmps59 Tryz.results59 (by simp) ?_
 refine zE ?_;refine zJ (fun K hK=>?_);simp (disch:=omega) only [push_cast,↓Int.cast_ofNat_Int,simprocAttr];refine hK _ ?_
 refine zE ?_;refine zJ (fun K hK=>?_);simp (disch:=omega) only [push_cast,↓Int.cast_ofNat_Int,simprocAttr];refine hK _ ?_
 refine zE ?_;refine zE ?_;refine zJ (fun K hK=>?_);simp (disch:=omega) only [push_cast,↓Int.cast_ofNat_Int,simprocAttr,yV];refine hK _ ?_
 refine zA ?_;refine zD ?_;refine bR (fun x:Nat × List Ent=>⟨[(1,.v (.string p)),(5,.own 64),(9,.lst false (aQ t)),(10,.v (.int .i64 t.length)),(11,.v (.int .i64 x.1))],[(64,rowE x.2)]⟩) (fun x=>x.1≤t.length∧x.2=(t.take x.1).filter fun e=>gF e.1 p) (fun x=>t.length - x.1) [1,5,9,10,11] [64] (0,[]) (by simp only [zZ,zR,zP,zQ,zN,zS,zM,zX,zU,Nat.reduceEqDiff,reduceIte];rfl) ⟨Nat.zero_le _,rfl⟩ ?_
 rintro ⟨i,out⟩ ⟨hi,ho⟩;simp only at hi ho
 by_cases hlt:i < t.length
 ·have hsz:=hs _ (List.getElem_mem hlt)
  have hol:out.length≤i:=by
   rw [ho];refine Nat.le_trans (List.length_filter_le ..) ?_;rw [List.length_take];omega
  have cu:=zBd t[i].1 p hsz hp
  refine zE ?_;refine zJ (fun K hK=>?_);simp (disch:=omega) only [push_cast,↓Int.cast_ofNat_Int,simprocAttr];refine hK _ ?_
  refine zE ?_;refine yD rfl ?_;refine zC ?_;refine zE ?_;refine zD ?_;refine zE ?_;refine zJ (fun K hK=>?_);simp (disch:=omega) only [push_cast,↓Int.cast_ofNat_Int,simprocAttr,yV,yU,yW hlt];refine hK _ ?_
  refine zE ?_;refine zJ (fun K hK=>?_);simp (disch:=omega) only [push_cast,↓Int.cast_ofNat_Int,simprocAttr]
  refine aW zT8 cu (.cons (.v _) (.cons (.v _) .nil)) ?_;with_reducible refine aB ?_;simp (disch:=omega) only [push_cast,↓Int.cast_ofNat_Int,simprocAttr]
  refine hK _ ?_
  cases hu:gF t[i].1 p with
 |true =>
   have e2:aQ out ++ [[FV.v (.string t[i].1),.v (.int .i64 t[i].2.1),.v (.string t[i].2.2)]]=aQ (out ++ [t[i]]):=qAs out _ _ _
   refine yD rfl ?_;refine zJ (fun K hK=>?_);simp (disch:=omega) only [push_cast,↓Int.cast_ofNat_Int,simprocAttr,yV,e2];(repeat refine ⟨by first|omega|decide|((repeat' apply And.intro) <;> first|omega|decide),?_⟩);refine hK _ ?_
   refine zB ?_;refine zA ?_;refine zJ (fun K hK=>?_);simp (disch:=omega) only [push_cast,↓Int.cast_ofNat_Int,simprocAttr];refine hK _ ?_
   refine zA ?_;refine ⟨(i + 1,out ++ [t[i]]),by simp only [zZ,zR,zP,zQ,zN,zS,zM,zX,zU,Nat.reduceEqDiff,reduceIte];rfl,⟨hlt,?_⟩,by dsimp only;omega⟩
   dsimp only;rw [List.take_succ_eq_append_getElem hlt,List.filter_append,← ho];simp [hu]
 |false =>
   refine yC rfl ?_;refine zC ?_;refine zB ?_;refine zA ?_;refine zJ (fun K hK=>?_);simp (disch:=omega) only [push_cast,↓Int.cast_ofNat_Int,simprocAttr];refine hK _ ?_
   refine zA ?_;refine ⟨(i + 1,out),by simp only [zZ,zR,zP,zQ,zN,zS,zM,zX,zU,Nat.reduceEqDiff,reduceIte];rfl,⟨hlt,?_⟩,by dsimp only;omega⟩
   dsimp only;rw [List.take_succ_eq_append_getElem hlt,List.filter_append,← ho];simp [hu]
 ·have hne:i=t.length:=by omega
  subst hne;rw [List.take_length] at ho;rw [ho];refine zE ?_;refine zJ (fun K hK=>?_);simp (disch:=omega) only [push_cast,↓Int.cast_ofNat_Int,simprocAttr];refine hK _ ?_
  refine zE ?_;refine yC rfl ?_;refine zT ?_;refine zG ?_;refine zG ?_;refine zH ?_;refine zE ?_;refine zJ (fun K hK=>?_);simp (disch:=omega) only [push_cast,↓Int.cast_ofNat_Int,simprocAttr];refine hK _ ?_
  refine zA ?_;refine zW ?_;simp only [yA,yM,yH,yE,aA,aC,yK,yJ,zS,zM,Nat.reduceEqDiff,reduceIte,reduceCtorEq];exact lW rfl (qBo _) ⟨rfl,rfl⟩
end Go.Proofs.YtdfjeokjmigkaaaGreat
end
section
namespace Go.Tr
open Go
def above (p:ByteArray) (t:List Ent):Prop:=∀ e ∈ t,blt p e.1=true
end Go.Tr
end
