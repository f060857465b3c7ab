/-
  A row whose elements name no rows, ay such; which operations store. Of no program.
-/
import Derived.Test.YtlihpgmgiehjkaaGreatDoorSwE
import Derived.Test.YtlihpgmgiehjkaaGreatDoorDww
import Derived.Test.YtlihpgmgiehjkaaGreatDoorTrB
set_option linter.unusedSimpArgs false
set_option linter.unusedVariables false
section
set_option maxRecDepth 20000
namespace Go.Proofs.YtlihpgmgiehjkaaGreatDoor
open Go Go.Eng Go.RowKit Go.Maps Go.Tr Go.Dk Go.Sw
set_option maxHeartbeats 4000000 in
theorem zGt (d:Dk) (B:Int) (hd:d.Ok B) (hB:B≤1099511627776) (hl:d.L.length≤4194304) (hst:∀ e ∈ d.L,0≤e.2.stamp∧e.2.stamp≤1099511627776) (v:ByteArray) (hv:v.size≤1048576) (l:List Sn) (fs:Bool) (hsn:∀ x ∈ l,zF0 x) (hll:l.length≤1099511627776) (hvis0:pOk v 1=true→(vis d 1048577 v).length≤1099511627776) (r1 r2:Nat) :
  HFunM Tryz.prog 11 [.ptr 0 6 0 0,.v (.string v),.lst fs (dY l)] [(0,.bx false 64 (d.cells r1 r2))] (d.maps kS r1 r2)
   (fun h st g=>g=d.maps kS r1 r2∧if gY d v=0 then h=.tup [.own 1,.own 2,.v (.int .i64 (mD d v l).reads),.v (.int .i64 0)]∧st=[(0,.bx false 64 (d.cells r1 r2)),(1,.sl true 54 3 (jR (mD d v l).F)),(2,.sl true 83 4 (dY (qFa (mD d v l))))]
    else h=.tup [.v (.slice none 0 0),.v (.slice none 0 0),.v (.int .i64 0),.v (.int .i64 (gY d v))]∧st=[(0,.bx false 64 (d.cells r1 r2))]):=by
 refine kC (N:=94) Tryz.func11 rfl Tryz.ntmps11 Tryz.results11 (by simp) ?_
 have hkind:=zJh d v r1 r2 hv
 have hdown:=zQs d r1 r2
 simp only [bM,cS] at hkind hdown ⊢;unfold gY;refine aA ?_;refine aC (fun K hK=>?_);simp (disch:=omega) only [push_cast,↓iC9,simprocAttr];refine hK _ ?_;clear hK K
 have hpc:=qVw v 1 hv (by decide)
 rw [show ((1:Nat):Int)=1 from rfl] at hpc
 cases hpk:pOk v 1 with
|false =>
  rw [hpk,show okN false=10 from rfl] at hpc
  refine aA ?_;refine aA ?_;refine aC (fun K hK=>?_);simp (disch:=omega) only [push_cast,↓iC9,simprocAttr]
  refine cK zNy hpc (.cons (.v _) (.cons (.v _) .nil)) ?_;with_reducible refine aM ?_;simp (disch:=omega) only [push_cast,↓iC9,simprocAttr]
  refine hK _ ?_;clear hK K;refine aB ?_;refine bW rfl ?_;refine aA ?_;refine aC (fun K hK=>?_);simp (disch:=omega) only [push_cast,↓iC9,simprocAttr];refine hK _ ?_;clear hK K
  refine aB ?_;refine bB ?_;refine bR ?_;simp only [aF,aN,yH,yE,yK,yJ,aH,zS,zM,Nat.reduceEqDiff,reduceIte,reduceCtorEq];refine bV [0] [] (by first|rfl|simp [bsL,MO.bs]) (by decide) (by decide) (by simp only [push_cast,simprocAttr]) (by simp only [push_cast,simprocAttr]) (by simp only [push_cast,simprocAttr];rfl) (by simp only [push_cast,simprocAttr];rfl) ?_
  exact ⟨rfl,rfl,rfl⟩
|true =>
  have hvis:=hvis0 hpk
  rw [hpk,show okN true=0 from rfl] at hpc
  refine aA ?_;refine aA ?_;refine aC (fun K hK=>?_);simp (disch:=omega) only [push_cast,↓iC9,simprocAttr]
  refine cK zNy hpc (.cons (.v _) (.cons (.v _) .nil)) ?_;with_reducible refine aM ?_;simp (disch:=omega) only [push_cast,↓iC9,simprocAttr]
  refine hK _ ?_;clear hK K;refine aB ?_;refine bA rfl ?_;refine aT ?_;refine aA ?_;refine aA ?_;refine aC (fun K hK=>?_);simp (disch:=omega) only [push_cast,↓iC9,simprocAttr];refine hK _ ?_;clear hK K
  refine aB ?_;refine bA rfl ?_;refine aT ?_;refine aA ?_;refine aA ?_;refine aC (fun K hK=>?_);simp (disch:=omega) only [push_cast,↓iC9,simprocAttr]
  refine gW 176 [0] zUk (hdown) rfl (by decide) (by decide) (by simp only [push_cast,simprocAttr];try rfl) (by simp only [push_cast,simprocAttr];try rfl) ?_
  rintro _ _ ⟨rfl,rfl⟩;refine aM ?_;simp (disch:=omega) only [push_cast,↓iC9,simprocAttr];refine hK _ ?_;clear hK K;refine aB ?_
  cases hdn:d.down with
 |true =>
   refine bW rfl ?_;refine aA ?_;refine aC (fun K hK=>?_);simp (disch:=omega) only [push_cast,↓iC9,simprocAttr];refine hK _ ?_;clear hK K
   refine aB ?_;refine bB ?_;refine bR ?_;simp only [aF,aN,yH,yE,yK,yJ,aH,zS,zM,Nat.reduceEqDiff,reduceIte,reduceCtorEq];refine bV [0] [] (by first|rfl|simp [bsL,MO.bs]) (by decide) (by decide) (by simp only [push_cast,simprocAttr]) (by simp only [push_cast,simprocAttr]) (by simp only [push_cast,simprocAttr];rfl) (by simp only [push_cast,simprocAttr];rfl) ?_
   exact ⟨rfl,rfl,rfl⟩
 |false =>
   refine bA rfl ?_;refine aT ?_;refine aA ?_;refine aA ?_;rw [hdn] at hkind;refine bD ?_;refine aG 2 (fun K1 hK1=>?_);simp (disch:=omega) only [push_cast,↓iC9,simprocAttr];refine hK1 _ ?_;(try clear hK1 K1)
   refine bT 200 [0] zS9 (hkind) rfl rfl rfl rfl (by simp only [push_cast,simprocAttr];exact rfl) (by decide) (by decide) (by decide) (by simp only [push_cast,simprocAttr];try rfl) (by simp only [push_cast,simprocAttr];try rfl) ?_
   rintro _ _ _ ⟨rfl,rfl,rfl⟩;refine aG 1 (fun K1 hK1=>?_);simp (disch:=omega) only [push_cast,↓iC9,simprocAttr,aE,aD];refine hK1 _ ?_;(try clear hK1 K1)
   refine aV ?_;refine aB ?_
   by_cases hk:fD d v=1
   ·refine bC rfl (fun h=>by simp [hk] at h) (fun _=>?_)
    refine aT ?_;refine aA ?_;simp only [hk,ne_eq,not_true_eq_false,if_false,if_true,Bool.true_eq_false,Bool.false_eq_true];refine bD ?_;refine aG 2 (fun K1 hK1=>?_);simp (disch:=omega) only [push_cast,↓iC9,simprocAttr];refine hK1 _ ?_;(try clear hK1 K1)
    refine xJ (cp:=none) rfl rfl rfl 85 (fun r3=>?_)
    refine xJ (cp:=none) rfl rfl rfl kS (fun r4=>?_)
    refine xJ (cp:=none) rfl rfl rfl kS (fun r5=>?_)
    refine aG 3 (fun K1 hK1=>?_);simp (disch:=omega) only [push_cast,↓iC9,simprocAttr,aE,aD,qMn,zBq];refine hK1 _ ?_;(try clear hK1 K1)
    refine aV ?_;refine aA ?_;refine aA ?_;refine aC (fun K hK=>?_);simp (disch:=omega) only [push_cast,↓iC9,simprocAttr,cY];refine hK _ ?_;clear hK K
    refine aB ?_;refine bL ?_;refine qF (ι:=Nat × Nat) (fun q=>⟨[(0,.ptr 0 6 0 0),(1,.v (.string v)),(6,.v (.slice none 0 0)),(7,.v (.slice none 0 0)),(8,.v (.int .i64 0)),(9,.v (.int .i64 0)),(10,.ptr 80 6 0 0),(33,.lst fs (dY l)),(34,.v (.int .i64 l.length)),(35,.v (.int .i64 q.1))],
      [(0,.bx false 64 [.v (.map (some r1)),.v (.map (some r2)),.v (.int .i64 d.steps),.v (.int .i64 d.stamps),.v (.int .i64 d.armed),.v (.bool false)]),(80,.bx true 81 [.ptr 0 6 0 0,.v (.string v),.v (.map (some r3)),.v (.map (some r4)),.v (.map (some r5)),.v (.int .i64 0)])]⟩)
     (fun q=>[.map r1 kS d.n (tab Itm.val d.L),.map r2 kS d.m (tab jL d.R),.map r3 85 q.2 (kmS (l.take q.1)),.map r4 kS 0 (fun _=>none),.map r5 kS 0 (fun _=>none)]) (fun q=>q.1≤l.length∧q.2≤q.1) (fun q=>l.length - q.1) [0,1,6,7,8,9,10,33,34,35] [0,80] (0,0) rfl rfl ⟨Nat.zero_le _,Nat.le_refl _⟩ ?_
    rintro ⟨i,n3⟩ ⟨hi,hn3⟩;dsimp only at hi hn3 ⊢
    by_cases hil:i < l.length
    ·refine aA ?_;refine aC (fun K hK=>?_);simp (disch:=omega) only [push_cast,↓iC9,simprocAttr];refine hK _ ?_;clear hK K
     refine aA ?_;refine bW rfl ?_;refine aT ?_;refine aA ?_;refine bL ?_;refine aA ?_;refine aC (fun K hK=>?_);simp (disch:=omega) only [push_cast,↓iC9,simprocAttr,cY,lA,mH hil];refine hK _ ?_;clear hK K
     refine aA ?_;refine aC (fun K hK=>?_);simp (disch:=omega) only [push_cast,↓iC9,simprocAttr];refine hK _ ?_;clear hK K
     have hkm:kmS (l.take (i + 1))=qFh (kmS (l.take i)) l[i]:=by
      unfold kmS;rw [List.take_succ_eq_append_getElem hil,List.foldl_append];rfl
     by_cases hk2:l[i].2.2.1=2
     ·refine bC rfl (fun _=>?_) (fun h=>by simp [hk2] at h)
      obtain ⟨hsz,hwf⟩:=hsn _ (List.getElem_mem hil)
      have hmx:(1099511627776:Nat) < maxLen:=by decide
      refine bD ?_;refine aG 9 (fun K1 hK1=>?_);simp (disch:=omega) only [push_cast,↓iC9,simprocAttr];refine hK1 _ ?_;(try clear hK1 K1)
      refine qUr rfl rfl (zMh (i:=2) (r:=r3) (n:=n3) (M:=kmS (l.take i)) (v:=nL l[i].2.2) mtK rfl rfl (by omega) rfl rfl rfl (qDp (Nat.le_trans hsz (by decide)) hwf) rfl rfl ?_)
      refine aV ?_;refine bS ?_;refine aB ?_;refine aC (fun K hK=>?_);simp (disch:=omega) only [push_cast,↓iC9,simprocAttr];refine hK _ ?_;clear hK K
      refine aB ?_;refine ⟨(i + 1,n3 + 1),rfl,?_,⟨hil,by dsimp only;omega⟩,by dsimp only;omega⟩
      dsimp only;rw [hkm,qFh,if_pos hk2];rfl
     ·refine bC rfl (fun h=>by simp [hk2] at h) (fun _=>?_)
      refine aT ?_;refine bS ?_;refine aB ?_;refine aC (fun K hK=>?_);simp (disch:=omega) only [push_cast,↓iC9,simprocAttr];refine hK _ ?_;clear hK K
      refine aB ?_;refine ⟨(i + 1,n3),rfl,?_,⟨hil,by dsimp only;omega⟩,by dsimp only;omega⟩
      dsimp only;rw [hkm,qFh,if_neg hk2]
    ·have hil':i=l.length:=by omega
     refine aA ?_;refine aC (fun K hK=>?_);simp (disch:=omega) only [push_cast,↓iC9,simprocAttr];refine hK _ ?_;clear hK K
     refine aA ?_;refine bA rfl ?_;refine fR ?_;refine cW ?_;refine cW ?_;refine fN ?_;refine aA ?_;refine aA ?_;rw [hil',List.take_length]
     have hfold:=qX7 d B hd hB hl hst hdn v (knS l) (kmS l) (zQi hsn) n3 r1 r2 r3 r4 r5 1048577 v wk0 (by omega) hv (Nat.le_refl _) (nZ hpk) (by show 0 + _≤_;omega) (by show 0 + _≤_;omega) (Int.le_refl _) (by show (0:Int) + _≤_;omega)
     rw [show eM d v (knS l) wk0 (vis d 1048577 v)=mD d v l from rfl] at hfold
     obtain ⟨W,hW⟩:∃ W,mD d v l=W:=⟨_,rfl⟩;rw [hW] at hfold ⊢;simp only [bM,cS,qB7,qB8,hdn] at hfold;refine bD ?_;refine aG 1 (fun K1 hK1=>?_);simp (disch:=omega) only [push_cast,↓iC9,simprocAttr];refine hK1 _ ?_;(try clear hK1 K1)
     refine bT 432 [80,0] zS8 (hfold) rfl rfl rfl rfl (by simp only [push_cast,simprocAttr];exact rfl) (by decide) (by decide) (by decide) (by simp only [push_cast,simprocAttr];try rfl) (by simp only [push_cast,simprocAttr];try rfl) ?_
     rintro _ _ _ ⟨rfl,rfl,rfl⟩;refine aG 1 (fun K1 hK1=>?_);simp (disch:=omega) only [push_cast,↓iC9,simprocAttr,aE,aD];refine hK1 _ ?_;(try clear hK1 K1)
     refine aV ?_;simp only [List.cons_append,List.nil_append];refine aA ?_;refine aC (fun K hK=>?_);simp (disch:=omega) only [push_cast,↓iC9,simprocAttr];refine hK _ ?_;clear hK K
     refine aB ?_;refine bA rfl ?_;refine aT ?_;refine aA ?_;refine aA ?_
     have hFr:eU W.F:=by rw [← hW];exact qEr _ _ _ _ _ List.Pairwise.nil
     have hFl:W.F.length≤1099511627776:=by rw [← hW];exact Nat.le_trans (qPf _ _ _ _ _) (by show 0 + _≤_;omega)
     have hkz:∀ e ∈ W.F,e.1.size≤maxLen:=fun e he=>by
      rw [← hW] at he;refine Nat.le_trans (qPg d v (knS l) (B:=1048576) _ _ (fun q hq=>?_) (by simp [wk0]) e he) (by decide)
      obtain ⟨x,hx⟩:=Option.isSome_iff_exists.1 (xM hd.rise _ v q (nZ hpk) hq).1;exact hd.keys _ (cP hx)
     have hnu:=qEs d v (knS l) (vis d 1048577 v) wk0
     rw [show eM d v (knS l) wk0 (vis d 1048577 v)=mD d v l from rfl,hW] at hnu
     have hnf:W.nf≤1099511627776:=by have:=hnu.1;rw [show wk0.nf=0 from rfl] at this;omega
     refine bD ?_;refine aG 2 (fun K1 hK1=>?_);simp (disch:=omega) only [push_cast,↓iC9,simprocAttr];refine hK1 _ ?_;(try clear hK1 K1)
     refine qY0 (i:=3) (fI:=87) (tM:=79) 488 hFr hnf (by kernel_rfl) rfl rfl rfl rfl rfl rfl rfl rfl zUj zS7 (fun b W=>(callsIn_wide.1 (Tryz.mapsKeysN (some b) W))) (fun b nn D0 w hown hmax hbytes=>callsIn_wide.1 (Tryz.sortedKeysN b nn D0 _ w hown hmax hbytes)) rfl rfl ?_
     refine aG 2 (fun K1 hK1=>?_);simp (disch:=omega) only [push_cast,↓iC9,simprocAttr,aE,aD,cT];refine hK1 _ ?_;(try clear hK1 K1)
     refine aV ?_;refine qN7 6 9000 54 3 rfl (by simp only [lK,pH,pK,fC,dV,eV,dS,iS,eZ,fA,eY,eX,gC,fB,eW,dU,fW,fY,fX,iR,jB,gU,Nat.reduceBEq,Nat.reduceEqDiff,reduceIte,cond_true,cond_false,List.map_cons,List.map_nil];exact rfl) ?_
     refine qN7 7 9001 83 4 rfl (by simp only [lK,pH,pK,fC,dV,eV,dS,iS,eZ,fA,eY,eX,gC,fB,eW,dU,fW,fY,fX,iR,jB,gU,Nat.reduceBEq,Nat.reduceEqDiff,reduceIte,cond_true,cond_false,List.map_cons,List.map_nil];exact rfl) ?_
     refine bL ?_;obtain ⟨ks,hks⟩:∃ ks,dG W.F=ks:=⟨_,rfl⟩
     have hkl:ks.length=W.F.length:=by rw [← hks];simp [dG]
     rw [hks];refine qF (ι:=Nat) (fun i=>⟨[(0,.ptr 0 6 0 0),(1,.v (.string v)),(6,.own 9000),(7,.own 9001),(8,.v (.int .i64 0)),(9,.v (.int .i64 0)),(10,.ptr 80 6 0 0),(61,.own 488),(62,.v (.int .i64 W.F.length)),(63,.v (.int .i64 i))],
       [(0,.bx false 64 [.v (.map (some r1)),.v (.map (some r2)),.v (.int .i64 d.steps),.v (.int .i64 d.stamps),.v (.int .i64 d.armed),.v (.bool false)]),(80,.bx true 81 [.ptr 0 6 0 0,.v (.string v),.v (.map (some r3)),.v (.map (some r4)),.v (.map (some r5)),.v (.int .i64 W.reads)]),(488,.sl true 9 1 (dP ks)),(9000,.sl true 54 3 (jR (W.F.take i))),(9001,.sl true 83 4 (dY ((qFa W).take i)))]⟩)
      (fun _=>[.map r1 kS d.n (tab Itm.val d.L),.map r2 kS d.m (tab jL d.R),.map r3 85 n3 (kmS l),.map r4 kS W.nf (tab nL W.F),.map r5 kS W.nt (tab jL W.T)]) (fun i=>i≤W.F.length) (fun i=>W.F.length - i) [0,1,6,7,8,9,10,61,62,63] [0,80,488,9000,9001] 0 (by simp only [zZ,zR,zP,zQ,zN,zS,zM,zX,zU,Nat.reduceEqDiff,reduceIte,hkl];rfl) rfl (Nat.zero_le _) ?_
     intro i hi
     by_cases hiF:i < W.F.length
     ·have hp:(W.F[i].1).size≤maxLen:=hkz _ (List.getElem_mem hiF)
      have hgp:(dP ks).getD i []=[FV.v (.string W.F[i].1)]:=by
       rw [← hks,dP,dG,List.getD_eq_getElem?_getD,List.getElem?_map,List.getElem?_map,List.getElem?_eq_getElem hiF];rfl
      have hlF:qDv ((tab nL W.F W.F[i].1.data.toList).getD (nL (0,ByteArray.empty)))=.agg [.v (.int .i64 W.F[i].2.1),.v (.string W.F[i].2.2)]:=by
       rw [qBq,dX hFr (show (W.F[i].1,W.F[i].2) ∈ W.F from List.getElem_mem hiF)];rfl
      refine aA ?_;refine aC (fun K hK=>?_);simp (disch:=omega) only [push_cast,↓iC9,simprocAttr];refine hK _ ?_;clear hK K
      refine aA ?_;refine bW rfl ?_;refine aT ?_;refine aA ?_;refine bL ?_;refine aA ?_;refine aC (fun K hK=>?_);simp (disch:=omega) only [push_cast,↓iC9,simprocAttr,cT,sJ,hgp,hkl];(repeat refine ⟨by first|omega|decide|((repeat' apply And.intro) <;> first|omega|decide),?_⟩);refine hK _ ?_;clear hK K
      refine aA ?_;refine bD ?_;refine aG 5 (fun K1 hK1=>?_);simp (disch:=omega) only [push_cast,↓iC9,simprocAttr];refine hK1 _ ?_;(try clear hK1 K1)
      refine fH (i:=3) mtF rfl rfl rfl rfl rfl rfl (hp) ?_;refine aG 4 (fun K1 hK1=>?_);simp (disch:=omega) only [push_cast,↓iC9,simprocAttr,aE,aD,hlF,yV,List.length_take];refine hK1 _ ?_;(try clear hK1 K1)
      refine aV ?_;refine aX [0,1,6,7,8,9,10,15,61,62,63] [0,80,488,9000,9001] (by simp only [zZ,zR,zP,zQ,zN,zS,zM,zX,zU,Nat.reduceEqDiff,reduceIte];exact rfl) ?_
      have hiN:i < (qFa W).length:=by rw [qFa,List.length_map];exact hiF
      have hnow:(qFa W)[i]=(W.F[i].1,(aS W.T W.F[i].1).getD 0,W.F[i].2):=by simp [qFa]
      refine bD ?_;refine aG 5 (fun K1 hK1=>?_);simp (disch:=omega) only [push_cast,↓iC9,simprocAttr];refine hK1 _ ?_;(try clear hK1 K1)
      refine fH (i:=4) mtT rfl rfl rfl rfl rfl rfl (hp) ?_;refine aG 3 (fun K1 hK1=>?_);simp (disch:=omega) only [push_cast,↓iC9,simprocAttr,aE,aD,qV7];refine hK1 _ ?_;(try clear hK1 K1)
      refine fH (i:=3) mtF rfl rfl rfl rfl rfl rfl (hp) ?_;refine aG 4 (fun K1 hK1=>?_);simp (disch:=omega) only [push_cast,↓iC9,simprocAttr,aE,aD,hlF,cY,List.length_take];refine hK1 _ ?_;(try clear hK1 K1)
      refine aV ?_;refine bS ?_;refine aB ?_;refine aC (fun K hK=>?_);simp (disch:=omega) only [push_cast,↓iC9,simprocAttr];refine hK _ ?_;clear hK K
      refine aB ?_;refine ⟨i + 1,?_,rfl,hiF,by omega⟩
      simp only [zZ,zR,zP,zQ,zN,zS,zM,zX,zU,Nat.reduceEqDiff,reduceIte];rw [List.take_succ_eq_append_getElem hiF,List.take_succ_eq_append_getElem hiN,hnow,← qSo,← qJ8];rfl
     ·have hie:i=W.F.length:=by omega
      have hnl:(qFa W).length=W.F.length:=by rw [qFa,List.length_map]
      refine aA ?_;refine aC (fun K hK=>?_);simp (disch:=omega) only [push_cast,↓iC9,simprocAttr];refine hK _ ?_;clear hK K
      refine aA ?_;refine bA rfl ?_;refine fR ?_;refine cW ?_;refine cW ?_;refine fN ?_;refine aA ?_;rw [hie,List.take_length,show (qFa W).take W.F.length=qFa W by rw [← hnl,List.take_length]]
      refine aX [0,1,6,7,10] [0,80,9000,9001] (by simp only [zZ,zR,zP,zQ,zN,zS,zM,zX,zU,Nat.reduceEqDiff,reduceIte];exact rfl) ?_
      skip
      refine qEn ?_;refine zN5 6 mixed (by kernel_rfl) (fun K hK K1 hK1=>?_);simp (disch:=omega) only [push_cast,↓iC9,simprocAttr]
      refine hK1 _ ?_;(try clear hK1 K1);with_reducible refine aM ?_;simp (disch:=omega) only [push_cast,↓iC9,simprocAttr]
      refine hK _ ?_;clear hK K;refine aB ?_;refine zMf 2 rfl ?_;refine bB ?_;simp only [aF,aN,yH,yE,yK,yJ,aH,zS,zM,Nat.reduceEqDiff,reduceIte,reduceCtorEq];refine bV [0,9000,9001] [] (by first|rfl|simp [bsL,MO.bs]) (by decide) (by decide) (by simp only [push_cast,simprocAttr]) (by simp only [push_cast,simprocAttr]) (by simp only [push_cast,simprocAttr];rfl) (by simp only [push_cast,simprocAttr];rfl) ?_
      exact ⟨rfl,rfl,rfl⟩
   ·refine bC rfl (fun _=>?_) (fun h=>by simp [hk] at h)
    refine aA ?_;refine aC (fun K hK=>?_);simp (disch:=omega) only [push_cast,↓iC9,simprocAttr];refine hK _ ?_;clear hK K
    refine aB ?_;refine bB ?_;refine bR ?_;simp only [aF,aN,yH,yE,yK,yJ,aH,zS,zM,Nat.reduceEqDiff,reduceIte,reduceCtorEq];refine bV [0] [] (by first|rfl|simp [bsL,MO.bs]) (by decide) (by decide) (by simp only [push_cast,simprocAttr]) (by simp only [push_cast,simprocAttr]) (by simp only [push_cast,simprocAttr];rfl) (by simp only [push_cast,simprocAttr];rfl) ?_
    refine ⟨rfl,?_⟩;simp [hk]
end Go.Proofs.YtlihpgmgiehjkaaGreatDoor
end
section
set_option maxRecDepth 20000
namespace Go.Eng
open Go Go.RowKit Go.Maps
section
variable {P:Program}
theorem zG6 (w:World) (A:Nat→Prop) (n:Nat) (ρ:Nat→Value):RepH w A n ρ (.slice none 0 0) (.lst false []) :=
 .lst (.lst 0 (fun _ _=>.bool false) rfl (Nat.le_refl _) (Nat.zero_le _) (fun _=>rfl) (by simp) (fun h=>absurd h (Nat.lt_irrefl _)) (fun i k hi=>absurd hi (Nat.not_lt_zero _)) (fun i k hi=>absurd hi (by simp)))
theorem zF2 {f:FuncId} {args args':List HV} {st:aJ} {g:MS} {R:HV→aJ→MS→Prop} (hlen:args'.length=args.length) (harg:∀ i (a:i < args.length) (b:i < args'.length),(args[i]=.v (.slice none 0 0)∧args'[i]=.lst false [])∨args'[i]=args[i])
  (H:HFunM P f args' st g R):HFunM P f args st g R:=fun c w ρ xs vs hw G M hr=>H c w ρ xs vs hw G M ⟨by rw [hlen];exact hr.1,fun i h1 h2=>by
   have h3:i < args.length:=by rw [← hlen];exact h2
   have hv:=hr.2 i h1 h3
   rcases harg i h3 h2 with ⟨e1,e2⟩|e
   ·rw [e1] at hv
    have hv:=bN hv
    rw [e2,hv];exact zG6 _ _ _ _
   ·rw [e];exact hv⟩
end
end Go.Eng
namespace Go.Proofs.YtlihpgmgiehjkaaGreatDoor
open Go Go.Eng Go.RowKit Go.Maps Go.Tr Go.Dk Go.Sw
theorem zEi (d:Dk) (B:Int) (hd:d.Ok B) (hB:B≤1099511627776) (hl:d.L.length≤4194304) (hst:∀ e ∈ d.L,0≤e.2.stamp∧e.2.stamp≤1099511627776) (v:ByteArray) (hv:v.size≤1048576) (hvis:pOk v 1=true→(vis d 1048577 v).length≤1099511627776) (r1 r2:Nat) :
  HFunM Tryz.prog 11 [.ptr 0 6 0 0,.v (.string v),.v (.slice none 0 0)] [(0,.bx false 64 (d.cells r1 r2))] (d.maps kS r1 r2)
   (fun h st g=>g=d.maps kS r1 r2∧if gY d v=0 then h=.tup [.own 1,.own 2,.v (.int .i64 (mD d v []).reads),.v (.int .i64 0)]∧st=[(0,.bx false 64 (d.cells r1 r2)),(1,.sl true 54 3 (jR (mD d v []).F)),(2,.sl true 83 4 (dY (qFa (mD d v []))))]
    else h=.tup [.v (.slice none 0 0),.v (.slice none 0 0),.v (.int .i64 0),.v (.int .i64 (gY d v))]∧st=[(0,.bx false 64 (d.cells r1 r2))]):=by
 have h0:=zGt d B hd hB hl hst v hv [] false (fun x hx=>by simp at hx) (by decide) hvis r1 r2
 rw [show dY []=[] from rfl] at h0
 refine zF2 (args':=[.ptr 0 6 0 0,.v (.string v),.lst false []]) rfl (fun i a b=>?_) h0
 match i,a with
|0,_=>exact .inr rfl
|1,_=>exact .inr rfl
|2,_=>exact .inl ⟨rfl,rfl⟩
set_option maxHeartbeats 1000000 in
theorem zPy (d:Dk) (B:Int) (hd:d.Ok B) (hB:B≤1099511627776) (hl:d.L.length≤4194304) (hst:∀ e ∈ d.L,0≤e.2.stamp∧e.2.stamp≤1099511627776) (v:ByteArray) (hv:v.size≤1048576) (hvis:pOk v 1=true→(vis d 1048577 v).length≤1099511627776) (r1 r2:Nat) :
  HFunM Tryz.prog 9 [.ptr 0 6 0 0,.v (.string v)] [(0,.bx false 64 (d.cells r1 r2))] (d.maps kS r1 r2)
   (fun h st g=>g=d.maps kS r1 r2∧if gY d v=0 then h=.tup [.own 1,.v (.int .i64 0)]∧st=[(0,.bx false 64 (d.cells r1 r2)),(1,.sl true 54 3 (jR (mD d v []).F))]
    else h=.tup [.v (.slice none 0 0),.v (.int .i64 (gY d v))]∧st=[(0,.bx false 64 (d.cells r1 r2))]):=by
 refine kC (N:=20) Tryz.func9 rfl Tryz.ntmps9 Tryz.results9 (by simp) ?_
 have hs:=zEi d B hd hB hl hst v hv hvis r1 r2
 simp only [bM,cS] at hs ⊢;refine aA ?_;refine aC (fun K hK=>?_);simp (disch:=omega) only [push_cast,↓iC9,simprocAttr];refine hK _ ?_;clear hK K
 by_cases h0:gY d v=0
 ·simp only [h0,if_true] at hs ⊢;refine aA ?_;refine bD ?_;refine aG 2 (fun K1 hK1=>?_);simp (disch:=omega) only [push_cast,↓iC9,simprocAttr];refine hK1 _ ?_;(try clear hK1 K1)
  refine bT 104 [0] zN1 (hs) rfl rfl rfl rfl (by simp only [push_cast,simprocAttr];exact rfl) (by decide) (by decide) (by decide) (by simp only [push_cast,simprocAttr];try rfl) (by simp only [push_cast,simprocAttr];try rfl) ?_
  rintro _ _ _ ⟨rfl,rfl,rfl⟩;refine aG 9 (fun K1 hK1=>?_);simp (disch:=omega) only [push_cast,↓iC9,simprocAttr,aE,aD];refine hK1 _ ?_;(try clear hK1 K1)
  refine aV ?_;refine aA ?_;refine aC (fun K hK=>?_);simp (disch:=omega) only [push_cast,↓iC9,simprocAttr];refine hK _ ?_;clear hK K
  refine aB ?_;refine bB ?_;simp only [aF,aN,yH,yE,yK,yJ,aH,zS,zM,Nat.reduceEqDiff,reduceIte,reduceCtorEq];refine bV [0,105] [] (by first|rfl|simp [bsL,MO.bs]) (by decide) (by decide) (by simp only [push_cast,simprocAttr]) (by simp only [push_cast,simprocAttr]) (by simp only [push_cast,simprocAttr];rfl) (by simp only [push_cast,simprocAttr];rfl) ?_
  exact ⟨rfl,rfl,rfl⟩
 ·simp only [h0,if_false] at hs ⊢;refine aA ?_;refine bD ?_;refine aG 2 (fun K1 hK1=>?_);simp (disch:=omega) only [push_cast,↓iC9,simprocAttr];refine hK1 _ ?_;(try clear hK1 K1)
  refine bT 104 [0] zN1 (hs) rfl rfl rfl rfl (by simp only [push_cast,simprocAttr];exact rfl) (by decide) (by decide) (by decide) (by simp only [push_cast,simprocAttr];try rfl) (by simp only [push_cast,simprocAttr];try rfl) ?_
  rintro _ _ _ ⟨rfl,rfl,rfl⟩;refine aG 9 (fun K1 hK1=>?_);simp (disch:=omega) only [push_cast,↓iC9,simprocAttr,aE,aD];refine hK1 _ ?_;(try clear hK1 K1)
  refine aV ?_;refine aA ?_;refine aC (fun K hK=>?_);simp (disch:=omega) only [push_cast,↓iC9,simprocAttr];refine hK _ ?_;clear hK K
  refine aB ?_;refine bB ?_;simp only [aF,aN,yH,yE,yK,yJ,aH,zS,zM,Nat.reduceEqDiff,reduceIte,reduceCtorEq];refine bV [0] [] (by first|rfl|simp [bsL,MO.bs]) (by decide) (by decide) (by simp only [push_cast,simprocAttr]) (by simp only [push_cast,simprocAttr]) (by simp only [push_cast,simprocAttr];rfl) (by simp only [push_cast,simprocAttr];rfl) ?_
  exact ⟨rfl,rfl,rfl⟩
end Go.Proofs.YtlihpgmgiehjkaaGreatDoor
end
section
namespace Go.Eng
open Go Go.RowKit
section
variable {P:Program} {N:Nat} {x:Code} {Q:gF} {c:Ctx} {S S':HS} {look:Nat→Option Value} {w:World}
theorem qYw {id:Nat} {ops:List Oper} (n:Nat) (hm:P.follows .mixedOrders=true) (hok:pM (bH S.env) ops n=true)
  (h:∀ K:HS→Prop,(∀ S',Q .normal S'→K S')→∀ K1:HS→Prop,(∀ S',lY (HV2 P N (cN ops) K (ops.drop n)) S'→K1 S')→HVr P N (cN ops) K1 (ops.take n) S):HW P N (.region id ops.toArray true) Q S :=
 kL n hm hok fun K hK=>h K hK _ fun _ h=>h
theorem qH8 {id:Nat} {ops:List Oper} (n:Nat) (hm:P.follows .mixedOrders=true) (hok:pM (bH S.env) ops n=true)
  (h:∀ K:HS→Prop,(∀ S',Q .normal S'→K S')→∀ K1:HS→Prop,(∀ S',lY (HV2 P N (cN ops) K (ops.drop n)) S'→K1 S')→HVq P N (cN ops) K1 (ops.take n) S):HW P N (.region id ops.toArray true) Q S :=
 HW_drw n hm hok fun K hK=>h K hK _ fun _ h=>h
end
end Go.Eng
end
