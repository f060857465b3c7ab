/-
  Scan: paths below one another: plain.
-/
import Derived.Test.YtlihpgmgiehjkaaGreatDoorSrp
import Derived.Test.YtlihpgmgiehjkaaGreatDoorMu
import Derived.Test.YtlihpgmgiehjkaaGreatDoorApe
import Derived.Test.YtlihpgmgiehjkaaGreatDoorDk
set_option linter.unusedSimpArgs false
set_option linter.unusedVariables false
section
set_option maxRecDepth 20000
namespace Go.Proofs.YtlihpgmgiehjkaaGreatDoor
open Go Go.Eng Go.RowKit Go.Tr Go.Dk
set_option maxHeartbeats 1000000 in
theorem zQw (d:Dk) (p:ByteArray) (r1 r2:Nat) (hs:p.size≤1048576):HFunM Tryz.prog 75 [.ptr 0 6 0 0,.v (.string p)] [(0,.bx false 64 (d.cells r1 r2))] (d.maps kS r1 r2) (fun h st g=>h=.v (.int .i64 (file d p))∧st=[(0,.bx false 64 (d.cells r1 r2))]∧g=d.maps kS r1 r2):=by
 refine kC (N:=29) Tryz.func75 rfl Tryz.ntmps75 Tryz.results75 (by simp) ?_
 have hm:=zBa d p 1 r1 r2 hs
 simp only [bM] at hm ⊢;rw [cJ];refine aA ?_;refine aC (fun K hK=>?_);simp (disch:=omega) only [push_cast,↓iC9,simprocAttr];refine hK _ ?_;clear hK K
 refine aA ?_;refine aA ?_;refine aC (fun K hK=>?_);simp (disch:=omega) only [push_cast,↓iC9,simprocAttr]
 refine qTl 80 [0] zNi (hm) rfl (by decide) (by decide) (by simp only [push_cast,simprocAttr];try rfl) (by simp only [push_cast,simprocAttr];try rfl) ?_
 rintro _ _ ⟨rfl,rfl⟩;refine aU ?_;simp (disch:=omega) only [push_cast,↓iC9,simprocAttr];refine hK _ ?_;clear hK K;refine aA ?_;refine aC (fun K hK=>?_);simp (disch:=omega) only [push_cast,↓iC9,simprocAttr];refine hK _ ?_;clear hK K
 refine bC [0,1,5,12] [0] (by simp only [zZ,zR,zP,zQ,zN,zS,zM,zX,zU,Nat.reduceEqDiff,reduceIte];exact rfl) ?_
 rcases (Decidable.em (may d p 1=0)).symm with h0|h0
 ·have hr:file d p=may d p 1:=by simp [file,h0]
  rw [hr];refine bA rfl (fun _=>?_) (fun h=>by simp [h0] at h)
  refine aA ?_;refine aC (fun K hK=>?_);simp (disch:=omega) only [push_cast,↓iC9,simprocAttr];refine hK _ ?_;clear hK K
  refine aB ?_;refine bB ?_;refine cH ?_;simp only [aJ,aP,yH,yE,yK,yJ,aS,zS,zM,Nat.reduceEqDiff,reduceIte,reduceCtorEq];refine cE [0] [] (by first|rfl|simp [bsL,MO.bs]) (by decide) (by decide) (by simp only [push_cast,simprocAttr]) (by simp only [push_cast,simprocAttr]) (by simp only [push_cast,simprocAttr];rfl) (by simp only [push_cast,simprocAttr];rfl) ?_
  exact ⟨rfl,rfl,rfl⟩
 refine bA rfl (fun h=>by simp [h0] at h) (fun _=>?_)
 refine aN ?_;refine aA ?_;refine aX ?_;refine aG 5 (fun K1 hK1=>?_);simp (disch:=omega) only [push_cast,↓iC9,simprocAttr];refine hK1 _ ?_;(try clear hK1 K1)
 refine fA (i:=0) mtI rfl rfl rfl rfl rfl rfl (mx hs) ?_;refine aG 6 (fun K1 hK1=>?_);simp (disch:=omega) only [push_cast,↓iC9,simprocAttr,aE,aD,iG,oH,iV];refine hK1 _ ?_;(try clear hK1 K1)
 refine aR ?_
 have hxd:(aH d.L p).getD itm0=aT d p:=rfl
 have hxs:(aH d.L p).isSome=has d p:=rfl
 rw [hxd,hxs];refine bC [0,1,6,7] [0,48] (by simp only [zZ,zR,zP,zQ,zN,zS,zM,zX,zU,Nat.reduceEqDiff,reduceIte];exact rfl) ?_
 refine aA ?_;refine bG ?_;refine aA ?_
 cases h1:has d p with
|false =>
  have hr:file d p=11:=by simp [file,h0,h1]
  rw [hr];refine aC (fun K hK=>?_);simp (disch:=omega) only [push_cast,↓iC9,simprocAttr];refine hK _ ?_;clear hK K
  refine aB ?_;refine bX rfl ?_;refine aA ?_;refine aC (fun K hK=>?_);simp (disch:=omega) only [push_cast,↓iC9,simprocAttr];refine hK _ ?_;clear hK K
  refine aB ?_;refine bB ?_;refine fJ ?_;refine cH ?_;simp only [aJ,aP,yH,yE,yK,yJ,aS,zS,zM,Nat.reduceEqDiff,reduceIte,reduceCtorEq];refine cE [0] [] (by first|rfl|simp [bsL,MO.bs]) (by decide) (by decide) (by simp only [push_cast,simprocAttr]) (by simp only [push_cast,simprocAttr]) (by simp only [push_cast,simprocAttr];rfl) (by simp only [push_cast,simprocAttr];rfl) ?_
  exact ⟨rfl,rfl,rfl⟩
|true =>
  refine aC (fun K hK=>?_);simp (disch:=omega) only [push_cast,↓iC9,simprocAttr];refine hK _ ?_;clear hK K
  refine aB ?_;refine aW rfl ?_;refine aA ?_;refine aC (fun K hK=>?_);simp (disch:=omega) only [push_cast,↓iC9,simprocAttr];refine hK _ ?_;clear hK K
  refine aB ?_
  cases h2:(aT d p).dir with
 |true =>
   have hr:file d p=12:=by simp [file,h0,h1,h2]
   rw [hr];refine bX rfl ?_;refine aA ?_;refine aC (fun K hK=>?_);simp (disch:=omega) only [push_cast,↓iC9,simprocAttr];refine hK _ ?_;clear hK K
   refine aB ?_;refine bB ?_;refine fJ ?_;refine cH ?_;simp only [aJ,aP,yH,yE,yK,yJ,aS,zS,zM,Nat.reduceEqDiff,reduceIte,reduceCtorEq];refine cE [0] [] (by first|rfl|simp [bsL,MO.bs]) (by decide) (by decide) (by simp only [push_cast,simprocAttr]) (by simp only [push_cast,simprocAttr]) (by simp only [push_cast,simprocAttr];rfl) (by simp only [push_cast,simprocAttr];rfl) ?_
   exact ⟨rfl,rfl,rfl⟩
 |false =>
   have hr:file d p=0:=by simp [file,h0,h1,h2]
   rw [hr];refine aW rfl ?_;refine aN ?_;refine aZ ?_;refine aA ?_;refine aC (fun K hK=>?_);simp (disch:=omega) only [push_cast,↓iC9,simprocAttr];refine hK _ ?_;clear hK K
   refine aB ?_;refine bB ?_;simp only [aJ,aP,yH,yE,yK,yJ,aS,zS,zM,Nat.reduceEqDiff,reduceIte,reduceCtorEq];refine cE [0] [] (by first|rfl|simp [bsL,MO.bs]) (by decide) (by decide) (by simp only [push_cast,simprocAttr]) (by simp only [push_cast,simprocAttr]) (by simp only [push_cast,simprocAttr];rfl) (by simp only [push_cast,simprocAttr];rfl) ?_
   exact ⟨rfl,rfl,rfl⟩
set_option maxHeartbeats 2000000 in
theorem zP3 (d:Dk) (B:Int) (hd:d.Ok B) (hB:B≤1099511627776) (p:ByteArray) (r1 r2:Nat) (hs:p.size≤1048576):HFunM Tryz.prog 54 [.ptr 0 6 0 0,.v (.string p)] [(0,.bx false 64 (d.cells r1 r2))] (d.maps kS r1 r2) (fun h st g=>h=.v (.int .i64 (nG d p).1)∧st=[(0,.bx false 64 ((nG d p).2.cells r1 r2))]∧g=(nG d p).2.maps kS r1 r2):=by
 refine kC (N:=36) Tryz.func54 rfl Tryz.ntmps54 Tryz.results54 (by simp) ?_
 have hf:=zQw d p r1 r2 hs
 have ht:=qSs d r1 r2 ⟨hd.steps.1,by have:=hd.steps.2;omega⟩ hd.armed
 have hn:d.n < maxLen:=by have:=hd.n;simp only [maxLen];omega
 obtain ⟨a1,a2,a3,a4,a5⟩:=jQ d;simp only [bM] at hf ht ⊢;rw [cJ] at hf ⊢;refine aA ?_;refine aC (fun K hK=>?_);simp (disch:=omega) only [push_cast,↓iC9,simprocAttr];refine hK _ ?_;clear hK K
 refine aA ?_;refine aA ?_;refine aX ?_;refine aG 2 (fun K1 hK1=>?_);simp (disch:=omega) only [push_cast,↓iC9,simprocAttr];refine hK1 _ ?_;(try clear hK1 K1)
 refine bN 80 [0] zUg (hf) rfl rfl rfl rfl (by simp only [push_cast,simprocAttr];exact rfl) (by decide) (by decide) (by decide) (by simp only [push_cast,simprocAttr];try rfl) (by simp only [push_cast,simprocAttr];try rfl) ?_
 rintro _ _ _ ⟨rfl,rfl,rfl⟩;refine aG 1 (fun K1 hK1=>?_);simp (disch:=omega) only [push_cast,↓iC9,simprocAttr,aE,aD];refine hK1 _ ?_;(try clear hK1 K1)
 refine aR ?_;refine aA ?_;refine aC (fun K hK=>?_);simp (disch:=omega) only [push_cast,↓iC9,simprocAttr];refine hK _ ?_;clear hK K
 refine bC [0,1,5,12] [0] (by simp only [zZ,zR,zP,zQ,zN,zS,zM,zX,zU,Nat.reduceEqDiff,reduceIte];exact rfl) ?_
 rcases (Decidable.em (file d p=0)).symm with h0|h0
 ·have hr:nG d p=(file d p,d):=by simp [nG,h0]
  rw [hr];refine bA rfl (fun _=>?_) (fun h=>by simp [h0] at h)
  refine aA ?_;refine aC (fun K hK=>?_);simp (disch:=omega) only [push_cast,↓iC9,simprocAttr];refine hK _ ?_;clear hK K
  refine aB ?_;refine bB ?_;refine cH ?_;simp only [aJ,aP,yH,yE,yK,yJ,aS,zS,zM,Nat.reduceEqDiff,reduceIte,reduceCtorEq];refine cE [0] [] (by first|rfl|simp [bsL,MO.bs]) (by decide) (by decide) (by simp only [push_cast,simprocAttr]) (by simp only [push_cast,simprocAttr]) (by simp only [push_cast,simprocAttr];rfl) (by simp only [push_cast,simprocAttr];rfl) ?_
  exact ⟨rfl,rfl,rfl⟩
 refine bA rfl (fun h=>by simp [h0] at h) (fun _=>?_)
 refine aN ?_;refine aA ?_;refine aA ?_;refine aC (fun K hK=>?_);simp (disch:=omega) only [push_cast,↓iC9,simprocAttr]
 refine qTl 120 [0] zNh (ht) rfl (by decide) (by decide) (by simp only [push_cast,simprocAttr];try rfl) (by simp only [push_cast,simprocAttr];try rfl) ?_
 rintro _ _ ⟨rfl,rfl⟩;refine aU ?_;simp (disch:=omega) only [push_cast,↓iC9,simprocAttr];refine hK _ ?_;clear hK K;refine aA ?_;refine aC (fun K hK=>?_);simp (disch:=omega) only [push_cast,↓iC9,simprocAttr];refine hK _ ?_;clear hK K
 refine bC [0,1,6,17] [0] (by simp only [zZ,zR,zP,zQ,zN,zS,zM,zX,zU,Nat.reduceEqDiff,reduceIte];exact rfl) ?_
 rcases (qBx d).symm with ⟨h4,h5⟩|⟨h4,h5⟩
 ·have hr:nG d p=bJ d:=by simp [nG,h0,h4]
  rw [hr];refine bA rfl (fun _=>?_) (fun h=>by simp [h4] at h)
  refine aA ?_;refine aC (fun K hK=>?_);simp (disch:=omega) only [push_cast,↓iC9,simprocAttr];refine hK _ ?_;clear hK K
  refine aB ?_;refine bB ?_;refine cH ?_;simp only [aJ,aP,yH,yE,yK,yJ,aS,zS,zM,Nat.reduceEqDiff,reduceIte,reduceCtorEq];refine cE [0] [] (by first|rfl|simp [bsL,MO.bs]) (by decide) (by decide) (by simp only [push_cast,simprocAttr]) (by simp only [push_cast,simprocAttr]) (by simp only [push_cast,simprocAttr];rfl) (by simp only [push_cast,simprocAttr];rfl) ?_
  exact ⟨rfl,rfl,by rw [sJ];rfl⟩
 have hr:nG d p=(0,{ (bJ d).2 with L:=put p { aT d p with kept:=(aT d p).data,loose:=false,anew:=false } d.L,n:=d.n + 1 }):=by simp [nG,h0,h4]
 rw [hr];refine bA rfl (fun h=>by simp [h4] at h) (fun _=>?_)
 refine aN ?_;refine aA ?_;refine aX ?_;refine aG 5 (fun K1 hK1=>?_);simp (disch:=omega) only [push_cast,↓iC9,simprocAttr];refine hK1 _ ?_;(try clear hK1 K1)
 refine fA (i:=0) mtI rfl rfl rfl rfl rfl rfl (mx hs) ?_;refine aG 2 (fun K1 hK1=>?_);simp (disch:=omega) only [push_cast,↓iC9,simprocAttr,aE,aD,iG,iV];refine hK1 _ ?_;(try clear hK1 K1)
 refine aR ?_
 have hxd:(aH d.L p).getD itm0=aT d p:=rfl
 rw [hxd];refine bC [0,1,7] [0,56] (by simp only [zZ,zR,zP,zQ,zN,zS,zM,zX,zU,Nat.reduceEqDiff,reduceIte];exact rfl) ?_
 refine aA ?_;refine aC (fun K hK=>?_);simp (disch:=omega) only [push_cast,↓iC9,simprocAttr];refine hK _ ?_;clear hK K
 refine aA ?_;refine qHe 6 mixed (by kernel_rfl) (fun K1 hK1=>?_)
 simp (disch:=omega) only [push_cast,↓iC9,simprocAttr];refine hK1 _ ?_;(try clear hK1 K1);refine qHf (i:=0) mtI rfl rfl rfl rfl (hn) rfl rfl (mx hs) rfl rfl ?_;refine aR ?_;refine aA ?_;refine aC (fun K hK=>?_);simp (disch:=omega) only [push_cast,↓iC9,simprocAttr];refine hK _ ?_;clear hK K
 refine aB ?_;refine bB ?_;simp only [aJ,aP,yH,yE,yK,yJ,aS,zS,zM,Nat.reduceEqDiff,reduceIte,reduceCtorEq];refine cE [0] [] (by first|rfl|simp [bsL,MO.bs]) (by decide) (by decide) (by simp only [push_cast,simprocAttr]) (by simp only [push_cast,simprocAttr]) (by simp only [push_cast,simprocAttr];rfl) (by simp only [push_cast,simprocAttr];rfl) ?_
 refine ⟨rfl,rfl,?_⟩;simp only [Dk.maps,a2,a4];rw [← zAl];rfl
end Go.Proofs.YtlihpgmgiehjkaaGreatDoor
end
section
namespace Go.Eng
open Go Go.RowKit Go.Maps
inductive SK where
|mv (d k:Nat)
|fa (d off:Nat)
|ld (d j off:Nat)
|go
def zPx (P:Program) (ke:List Nat) (ops:List Oper) (ks0:List SK) (v sz i:Nat):SK→Prop
|.mv d k=>∃ o,ops[i]?=some o∧o.op=.move (.tmp k)∧o.guard=none∧o.dst=some d∧ke.contains k=true
|.fa d off=>∃ o T f,ops[i]?=some o∧o.op=.fieldAddr T (.tmp v) f∧o.guard=none∧o.dst=some d∧dS P T f=some off
|.ld d j off=>∃ o T t,ops[i]?=some o∧o.op=.load T (.tmp t)∧o.guard=none∧o.dst=some d∧bW P T=some none∧ks0[j]?=some (.fa t off)∧off < sz∧j < i
|.go=>True
def SkOk (P:Program) (ke:List Nat) (ops:List Oper) (ks0:List SK) (v sz:Nat):List SK→Nat→Prop
|[],_=>True
|k :: r,i=>zPx P ke ops ks0 v sz i k∧SkOk P ke ops ks0 v sz r (i + 1)
theorem SkOk.get {P:Program} {ke:List Nat} {ops:List Oper} {ks0:List SK} {v sz:Nat}:∀ {ks:List SK} {i j:Nat} {k:SK},SkOk P ke ops ks0 v sz ks i→ks[j]?=some k→zPx P ke ops ks0 v sz (i + j) k
|[],i,j,k,_,h=>by simp at h
|a :: r,i,0,k,H,h=>by
  simp only [List.getElem?_cons_zero,Option.some.injEq] at h;subst h;exact H.1
|a :: r,i,j + 1,k,H,h=>by
  have:=SkOk.get (j:=j) H.2 (by simpa using h)
  rw [show i + 1 + j=i + (j + 1) by omega] at this;exact this
section
variable {P:Program} {N:Nat} {S:HS} {g:MS} {Q:iK}
end
end Go.Eng
end
section
namespace Go.Sw
open Go Go.Tr Go.Eng Go.Dk
theorem qDo (s:ByteArray) (i j:Nat):(s.extract i j).data.toList=(s.data.toList.drop i).take (j - i):=by
 rw [ByteArray.data_extract,Array.toList_extract,List.extract_eq_take_drop]
theorem jA {p q:ByteArray} (h:eE p q=true) (hq:q≠{ data:=#[] }):∃ t,p.data.toList=q.data.toList ++ t∧(t=[]∨∃ r,t=47 :: r):=by
 unfold eE at h;simp only [Bool.or_eq_true,decide_eq_true_eq] at h
 rcases h with (h|h)|h
 ·exact absurd h hq
 ·subst h;exact ⟨[],by simp,.inl rfl⟩
 ·obtain ⟨r,hr⟩:=List.isPrefixOf_iff_prefix.1 h;refine ⟨47 :: r,?_,.inr ⟨r,rfl⟩⟩;rw [← hr];simp [stroke]
theorem fE {p q:ByteArray} {t:List UInt8} (h:p.data.toList=q.data.toList ++ t) (ht:t=[]∨∃ r,t=47 :: r):eE p q=true:=by
 unfold eE
 rcases ht with rfl|⟨r,rfl⟩
 ·have:p=q:=eM (by rw [h,List.append_nil])
  rw [decide_eq_true this];simp
 ·have:(q ++ stroke).data.toList.isPrefixOf p.data.toList=true:=by
   rw [List.isPrefixOf_iff_prefix];exact ⟨r,by rw [h];simp [stroke]⟩
  rw [this];simp
theorem qHo (p:ByteArray):eE p { data:=#[] }=true:=by
 unfold eE
 have:({ data:=#[] }:ByteArray)=ByteArray.empty:=rfl
 rw [decide_eq_true this];rfl
theorem zC6 (p:ByteArray):eE p p=true:=fE (t:=[]) (by simp) (.inl rfl)
theorem qHn {a b c:ByteArray} (h1:eE a b=true) (h2:eE b c=true):eE a c=true:=by
 by_cases hc:c={ data:=#[] }
 ·rw [hc];exact qHo a
 ·obtain ⟨t2,e2,k2⟩:=jA h2 hc
  have hb:b≠{ data:=#[] }:=fun h=>by
   rw [h] at e2
   have e3:=congrArg List.length e2
   rw [List.length_append] at e3
   have e4:c.data.toList.length=0:=by
    have:(({ data:=#[] }:ByteArray).data.toList).length=0:=rfl
    omega
   exact hc (eM (by rw [List.length_eq_zero_iff.1 e4]))
  obtain ⟨t1,e1,k1⟩:=jA h1 hb;refine fE (t:=t2 ++ t1) (by rw [e1,e2,List.append_assoc]) ?_
  rcases k2 with rfl|⟨r,rfl⟩
  ·exact k1
  ·exact .inr ⟨r ++ t1,rfl⟩
theorem qN3 {p q:ByteArray} (h:eE p q=true):q.size≤p.size:=by
 by_cases hq:q={ data:=#[] }
 ·subst hq;exact Nat.zero_le _
 ·obtain ⟨t,ht,-⟩:=jA h hq;rw [Lib.size_eq p,ht,List.length_append,← Lib.size_eq];omega
theorem sB (p:ByteArray):(par p).data.toList=p.data.toList.take (pY p):=by
 rw [par,qDo,List.drop_zero,Nat.sub_zero]
theorem qJ2 {p:ByteArray} (h:¬ par p={ data:=#[] }):(par p).size < p.size:=by
 have hp:p≠ByteArray.empty:=fun e=>by
  subst e;exact h rfl
 have:=qTa hp
 rw [par,ByteArray.size_extract];omega
theorem qKt:∀ (l r:List UInt8),cU (l ++ 47 :: r)=some (l.length + (match cU r with|some i=>i + 1|none=>0))
|[],r=>by
  rw [List.nil_append,cU]
  cases cU r with
 |none=>rfl
 |some i=>simp
|c :: l,r=>by
  rw [List.cons_append,cU,qKt l r];simp only [List.length_cons]
  congr 1
  omega
theorem qTy {p:ByteArray}:eE p (par p)=true:=by
 by_cases h:par p={ data:=#[] }
 ·rw [h];exact qHo p
 ·cases hl:cU p.data.toList with
 |none =>
   have:pY p=0:=by rw [pY,hl];rfl
   exact absurd (eM (by rw [sB,this];rfl)) h
 |some i =>
   have hn:pY p=i:=by rw [pY,hl];rfl
   obtain ⟨h1,h2⟩:=oE hl;refine fE (t:=p.data.toList.drop i) (by rw [sB,hn,List.take_append_drop]) (.inr ⟨p.data.toList.drop (i + 1),?_⟩)
   rw [List.drop_eq_getElem_cons h1];rw [List.getElem?_eq_getElem h1] at h2;rw [Option.some.inj h2]
theorem qJ1 {p q:ByteArray} (h:eE p q=true) (hn:p≠q) (hq:q≠{ data:=#[] }):eE (par p) q=true:=by
 obtain ⟨t,ht,hs⟩:=jA h hq
 rcases hs with rfl|⟨r,rfl⟩
 ·exact absurd (eM (by rw [ht,List.append_nil])) hn
 ·obtain ⟨m,hm⟩:∃ m,cU p.data.toList=some (q.data.toList.length + m):=⟨_,by rw [ht];exact qKt _ _⟩
  have hp:(par p).data.toList=q.data.toList ++ (47 :: r).take m:=by
   rw [sB,pY,hm,Option.getD_some,ht,List.take_append,List.take_of_length_le (by omega),Nat.add_sub_cancel_left]
  refine fE hp ?_
  cases m with
 |zero=>exact .inl rfl
 |succ m=>exact .inr ⟨r.take m,rfl⟩
end Go.Sw
end
