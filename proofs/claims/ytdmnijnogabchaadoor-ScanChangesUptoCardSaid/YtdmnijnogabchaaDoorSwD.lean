/-
  Scan: the scan.
-/
import Derived.Test.YtdmnijnogabchaaDoorSwE
import Derived.Test.YtdmnijnogabchaaDoorDww
set_option linter.unusedSimpArgs false
set_option linter.unusedVariables false
set_option maxRecDepth 20000
namespace Go.Proofs.YtdmnijnogabchaaDoor
open Go Go.Eng Go.RowKit Go.Maps Go.Tr Go.Dk Go.Sw
set_option maxHeartbeats 4000000 in
theorem zHz (d:Dk) (B:Int) (hd:d.Ok B) (hB:B≤1099511627776) (hl:d.L.length≤4194304) (hst:∀ e ∈ d.L,0≤e.2.stamp∧e.2.stamp≤1099511627776) (v:ByteArray) (hv:v.size≤1048576) (l:List Sn) (fs:Bool) (hsn:∀ x ∈ l,zJt x) (hll:l.length≤1099511627776) (hvis0:pOk v 1=true→(vis d 1048577 v).length≤1099511627776) (r1 r2:Nat) :
  HFunM Tryd.prog 25 [.ptr 0 6 0 0,.v (.string v),.lst fs (nA l)] [(0,.bx false 50 (d.cells r1 r2))] (d.maps kS r1 r2)
   (fun h st g=>g=d.maps kS r1 r2∧if xD d v=0 then h=.tup [.own 1,.own 2,.v (.int .i64 (qN d v l).reads),.v (.int .i64 0)]∧st=[(0,.bx false 50 (d.cells r1 r2)),(1,.sl true 42 3 (cX (qN d v l).F)),(2,.sl true 68 4 (nA (qGb (qN d v l))))]
    else h=.tup [.v (.slice none 0 0),.v (.slice none 0 0),.v (.int .i64 0),.v (.int .i64 (xD d v))]∧st=[(0,.bx false 50 (d.cells r1 r2))]):=by
 refine nH (N:=94) Tryd.func25 rfl Tryd.ntmps25 Tryd.results25 (by simp) ?_
 have hkind:=zDg d v r1 r2 hv
 have hdown:=zJh d r1 r2
 simp only [bW,eE] at hkind hdown ⊢;unfold xD;refine aA ?_;refine aD (fun K hK=>?_);simp (disch:=omega) only [push_cast,↓iC9,simprocAttr];refine hK _ ?_;clear hK K
 have hpc:=qSg v 1 hv (by decide)
 rw [show ((1:Nat):Int)=1 from rfl] at hpc
 cases hpk:pOk v 1 with
|false =>
  rw [hpk,show okN false=10 from rfl] at hpc
  refine aA ?_;refine aA ?_;refine aD (fun K hK=>?_);simp (disch:=omega) only [push_cast,↓iC9,simprocAttr]
  refine cU zGv hpc (.cons (.v _) (.cons (.v _) .nil)) ?_;with_reducible refine aP ?_;simp (disch:=omega) only [push_cast,↓iC9,simprocAttr]
  refine hK _ ?_;clear hK K;refine aB ?_;refine dP rfl ?_;refine aA ?_;refine aD (fun K hK=>?_);simp (disch:=omega) only [push_cast,↓iC9,simprocAttr];refine hK _ ?_;clear hK K
  refine aB ?_;refine bN ?_;refine dQ ?_;simp only [aN,aU,yH,yE,yK,yJ,aW,zS,zM,Nat.reduceEqDiff,reduceIte,reduceCtorEq];refine dA [0] [] (by first|rfl|simp [bsL,MO.bs]) (by decide) (by decide) (by simp only [push_cast,simprocAttr]) (by simp only [push_cast,simprocAttr]) (by simp only [push_cast,simprocAttr];rfl) (by simp only [push_cast,simprocAttr];rfl) ?_
  exact ⟨rfl,rfl,rfl⟩
|true =>
  have hvis:=hvis0 hpk
  rw [hpk,show okN true=0 from rfl] at hpc
  refine aA ?_;refine aA ?_;refine aD (fun K hK=>?_);simp (disch:=omega) only [push_cast,↓iC9,simprocAttr]
  refine cU zGv hpc (.cons (.v _) (.cons (.v _) .nil)) ?_;with_reducible refine aP ?_;simp (disch:=omega) only [push_cast,↓iC9,simprocAttr]
  refine hK _ ?_;clear hK K;refine aB ?_;refine bT rfl ?_;refine aY ?_;refine aA ?_;refine aA ?_;refine aD (fun K hK=>?_);simp (disch:=omega) only [push_cast,↓iC9,simprocAttr];refine hK _ ?_;clear hK K
  refine aB ?_;refine bT rfl ?_;refine aY ?_;refine aA ?_;refine aA ?_;refine aD (fun K hK=>?_);simp (disch:=omega) only [push_cast,↓iC9,simprocAttr]
  refine zD1 176 [0] zMm (hdown) rfl (by decide) (by decide) (by simp only [push_cast,simprocAttr];try rfl) (by simp only [push_cast,simprocAttr];try rfl) ?_
  rintro _ _ ⟨rfl,rfl⟩;refine aP ?_;simp (disch:=omega) only [push_cast,↓iC9,simprocAttr];refine hK _ ?_;clear hK K;refine aB ?_
  cases hdn:d.down with
 |true =>
   refine dP rfl ?_;refine aA ?_;refine aD (fun K hK=>?_);simp (disch:=omega) only [push_cast,↓iC9,simprocAttr];refine hK _ ?_;clear hK K
   refine aB ?_;refine bN ?_;refine dQ ?_;simp only [aN,aU,yH,yE,yK,yJ,aW,zS,zM,Nat.reduceEqDiff,reduceIte,reduceCtorEq];refine dA [0] [] (by first|rfl|simp [bsL,MO.bs]) (by decide) (by decide) (by simp only [push_cast,simprocAttr]) (by simp only [push_cast,simprocAttr]) (by simp only [push_cast,simprocAttr];rfl) (by simp only [push_cast,simprocAttr];rfl) ?_
   exact ⟨rfl,rfl,rfl⟩
 |false =>
   refine bT rfl ?_;refine aY ?_;refine aA ?_;refine aA ?_;rw [hdn] at hkind;refine bK ?_;refine aQ 2 (fun K1 hK1=>?_);simp (disch:=omega) only [push_cast,↓iC9,simprocAttr];refine hK1 _ ?_;(try clear hK1 K1)
   refine dF 200 [0] zLj (hkind) rfl rfl rfl rfl (by simp only [push_cast,simprocAttr];exact rfl) (by decide) (by decide) (by decide) (by simp only [push_cast,simprocAttr];try rfl) (by simp only [push_cast,simprocAttr];try rfl) ?_
   rintro _ _ _ ⟨rfl,rfl,rfl⟩;refine aQ 1 (fun K1 hK1=>?_);simp (disch:=omega) only [push_cast,↓iC9,simprocAttr,aF,aE];refine hK1 _ ?_;(try clear hK1 K1)
   refine bA ?_;refine aB ?_
   by_cases hk:tN d v=1
   ·refine bS rfl (fun h=>by simp [hk] at h) (fun _=>?_)
    refine aY ?_;refine aA ?_;simp only [hk,ne_eq,not_true_eq_false,if_false,if_true,Bool.true_eq_false,Bool.false_eq_true];refine bK ?_;refine aQ 2 (fun K1 hK1=>?_);simp (disch:=omega) only [push_cast,↓iC9,simprocAttr];refine hK1 _ ?_;(try clear hK1 K1)
    refine sP (cp:=none) rfl rfl rfl 70 (fun r3=>?_)
    refine sP (cp:=none) rfl rfl rfl kS (fun r4=>?_)
    refine sP (cp:=none) rfl rfl rfl kS (fun r5=>?_)
    refine aQ 3 (fun K1 hK1=>?_);simp (disch:=omega) only [push_cast,↓iC9,simprocAttr,aF,aE,qH2,qX7];refine hK1 _ ?_;(try clear hK1 K1)
    refine bA ?_;refine aA ?_;refine aA ?_;refine aD (fun K hK=>?_);simp (disch:=omega) only [push_cast,↓iC9,simprocAttr,qAy];refine hK _ ?_;clear hK K
    refine aB ?_;refine bR ?_;refine sN (ι:=Nat × Nat) (fun q=>⟨[(0,.ptr 0 6 0 0),(1,.v (.string v)),(6,.v (.slice none 0 0)),(7,.v (.slice none 0 0)),(8,.v (.int .i64 0)),(9,.v (.int .i64 0)),(10,.ptr 80 6 0 0),(33,.lst fs (nA l)),(34,.v (.int .i64 l.length)),(35,.v (.int .i64 q.1))],
      [(0,.bx false 50 [.v (.map (some r1)),.v (.map (some r2)),.v (.int .i64 d.steps),.v (.int .i64 d.stamps),.v (.int .i64 d.armed),.v (.bool false)]),(80,.bx true 66 [.ptr 0 6 0 0,.v (.string v),.v (.map (some r3)),.v (.map (some r4)),.v (.map (some r5)),.v (.int .i64 0)])]⟩)
     (fun q=>[.map r1 kS d.n (tab Itm.val d.L),.map r2 kS d.m (tab gN d.R),.map r3 70 q.2 (kmS (l.take q.1)),.map r4 kS 0 (fun _=>none),.map r5 kS 0 (fun _=>none)]) (fun q=>q.1≤l.length∧q.2≤q.1) (fun q=>l.length - q.1) [0,1,6,7,8,9,10,33,34,35] [0,80] (0,0) rfl rfl ⟨Nat.zero_le _,Nat.le_refl _⟩ ?_
    rintro ⟨i,n3⟩ ⟨hi,hn3⟩;dsimp only at hi hn3 ⊢
    by_cases hil:i < l.length
    ·refine aA ?_;refine aD (fun K hK=>?_);simp (disch:=omega) only [push_cast,↓iC9,simprocAttr];refine hK _ ?_;clear hK K
     refine aA ?_;refine dP rfl ?_;refine aY ?_;refine aA ?_;refine bR ?_;refine aA ?_;refine aD (fun K hK=>?_);simp (disch:=omega) only [push_cast,↓iC9,simprocAttr,qAy,zAn,zAo hil];refine hK _ ?_;clear hK K
     refine aA ?_;refine aD (fun K hK=>?_);simp (disch:=omega) only [push_cast,↓iC9,simprocAttr];refine hK _ ?_;clear hK K
     have hkm:kmS (l.take (i + 1))=qBk (kmS (l.take i)) l[i]:=by
      unfold kmS;rw [List.take_succ_eq_append_getElem hil,List.foldl_append];rfl
     by_cases hk2:l[i].2.2.1=2
     ·refine bS rfl (fun _=>?_) (fun h=>by simp [hk2] at h)
      obtain ⟨hsz,hwf⟩:=hsn _ (List.getElem_mem hil)
      have hmx:(1099511627776:Nat) < maxLen:=by decide
      refine bK ?_;refine aQ 9 (fun K1 hK1=>?_);simp (disch:=omega) only [push_cast,↓iC9,simprocAttr];refine hK1 _ ?_;(try clear hK1 K1)
      refine qRo rfl rfl (zFt (i:=2) (r:=r3) (n:=n3) (M:=kmS (l.take i)) (v:=kB l[i].2.2) mtK rfl rfl (by omega) rfl rfl rfl (xV (Nat.le_trans hsz (by decide)) hwf) rfl rfl ?_)
      refine bA ?_;refine bP ?_;refine aB ?_;refine aD (fun K hK=>?_);simp (disch:=omega) only [push_cast,↓iC9,simprocAttr];refine hK _ ?_;clear hK K
      refine aB ?_;refine ⟨(i + 1,n3 + 1),rfl,?_,⟨hil,by dsimp only;omega⟩,by dsimp only;omega⟩
      dsimp only;rw [hkm,qBk,if_pos hk2];rfl
     ·refine bS rfl (fun h=>by simp [hk2] at h) (fun _=>?_)
      refine aY ?_;refine bP ?_;refine aB ?_;refine aD (fun K hK=>?_);simp (disch:=omega) only [push_cast,↓iC9,simprocAttr];refine hK _ ?_;clear hK K
      refine aB ?_;refine ⟨(i + 1,n3),rfl,?_,⟨hil,by dsimp only;omega⟩,by dsimp only;omega⟩
      dsimp only;rw [hkm,qBk,if_neg hk2]
    ·have hil':i=l.length:=by omega
     refine aA ?_;refine aD (fun K hK=>?_);simp (disch:=omega) only [push_cast,↓iC9,simprocAttr];refine hK _ ?_;clear hK K
     refine aA ?_;refine bT rfl ?_;refine kL ?_;refine eJ ?_;refine eJ ?_;refine kC ?_;refine aA ?_;refine aA ?_;rw [hil',List.take_length]
     have hfold:=qUu d B hd hB hl hst hdn v (knS l) (kmS l) (zH9 hsn) n3 r1 r2 r3 r4 r5 1048577 v wk0 (by omega) hv (Nat.le_refl _) (qQz hpk) (by show 0 + _≤_;omega) (by show 0 + _≤_;omega) (Int.le_refl _) (by show (0:Int) + _≤_;omega)
     rw [show eF d v (knS l) wk0 (vis d 1048577 v)=qN d v l from rfl] at hfold
     obtain ⟨W,hW⟩:∃ W,qN d v l=W:=⟨_,rfl⟩;rw [hW] at hfold ⊢;simp only [bW,eE,wL,wM,hdn] at hfold;refine bK ?_;refine aQ 1 (fun K1 hK1=>?_);simp (disch:=omega) only [push_cast,↓iC9,simprocAttr];refine hK1 _ ?_;(try clear hK1 K1)
     refine dF 432 [80,0] zLi (hfold) rfl rfl rfl rfl (by simp only [push_cast,simprocAttr];exact rfl) (by decide) (by decide) (by decide) (by simp only [push_cast,simprocAttr];try rfl) (by simp only [push_cast,simprocAttr];try rfl) ?_
     rintro _ _ _ ⟨rfl,rfl,rfl⟩;refine aQ 1 (fun K1 hK1=>?_);simp (disch:=omega) only [push_cast,↓iC9,simprocAttr,aF,aE];refine hK1 _ ?_;(try clear hK1 K1)
     refine bA ?_;simp only [List.cons_append,List.nil_append];refine aA ?_;refine aD (fun K hK=>?_);simp (disch:=omega) only [push_cast,↓iC9,simprocAttr];refine hK _ ?_;clear hK K
     refine aB ?_;refine bT rfl ?_;refine aY ?_;refine aA ?_;refine aA ?_
     have hFr:pM W.F:=by rw [← hW];exact qK5 _ _ _ _ _ List.Pairwise.nil
     have hFl:W.F.length≤1099511627776:=by rw [← hW];exact Nat.le_trans (qK6 _ _ _ _ _) (by show 0 + _≤_;omega)
     have hkz:∀ e ∈ W.F,e.1.size≤maxLen:=fun e he=>by
      rw [← hW] at he;refine Nat.le_trans (qK7 d v (knS l) (B:=1048576) _ _ (fun q hq=>?_) (by simp [wk0]) e he) (by decide)
      obtain ⟨x,hx⟩:=Option.isSome_iff_exists.1 (qXp hd.rise _ v q (qQz hpk) hq).1;exact hd.keys _ (fX hx)
     have hnu:=qAt d v (knS l) (vis d 1048577 v) wk0
     rw [show eF d v (knS l) wk0 (vis d 1048577 v)=qN d v l from rfl,hW] at hnu
     have hnf:W.nf≤1099511627776:=by have:=hnu.1;rw [show wk0.nf=0 from rfl] at this;omega
     refine bK ?_;refine aQ 2 (fun K1 hK1=>?_);simp (disch:=omega) only [push_cast,↓iC9,simprocAttr];refine hK1 _ ?_;(try clear hK1 K1)
     refine zFs (i:=3) (fI:=47) (tM:=64) 488 hFr hnf (by kernel_rfl) rfl rfl rfl rfl rfl rfl rfl rfl zMk zMl (fun b W=>(callsIn_wide.1 (Tryd.mapsKeysN (some b) W))) (fun b nn D0 w hown hmax hbytes=>callsIn_wide.1 (Tryd.sortedKeysN b nn D0 _ w hown hmax hbytes)) rfl rfl ?_
     refine aQ 2 (fun K1 hK1=>?_);simp (disch:=omega) only [push_cast,↓iC9,simprocAttr,aF,aE,aM];refine hK1 _ ?_;(try clear hK1 K1)
     refine bA ?_;refine qVj 6 9000 42 3 rfl (by simp only [xU,qE9,qFe,pA,mP,oF,lY,zF,oT,oU,oS,oR,rY,oV,oQ,mJ,rB,rD,rC,xR,rX,oP,Nat.reduceBEq,Nat.reduceEqDiff,reduceIte,cond_true,cond_false,List.map_cons,List.map_nil];exact rfl) ?_
     refine qVj 7 9001 68 4 rfl (by simp only [xU,qE9,qFe,pA,mP,oF,lY,zF,oT,oU,oS,oR,rY,oV,oQ,mJ,rB,rD,rC,xR,rX,oP,Nat.reduceBEq,Nat.reduceEqDiff,reduceIte,cond_true,cond_false,List.map_cons,List.map_nil];exact rfl) ?_
     refine bR ?_;obtain ⟨ks,hks⟩:∃ ks,eK W.F=ks:=⟨_,rfl⟩
     have hkl:ks.length=W.F.length:=by rw [← hks];simp [eK]
     rw [hks];refine sN (ι:=Nat) (fun i=>⟨[(0,.ptr 0 6 0 0),(1,.v (.string v)),(6,.own 9000),(7,.own 9001),(8,.v (.int .i64 0)),(9,.v (.int .i64 0)),(10,.ptr 80 6 0 0),(61,.own 488),(62,.v (.int .i64 W.F.length)),(63,.v (.int .i64 i))],
       [(0,.bx false 50 [.v (.map (some r1)),.v (.map (some r2)),.v (.int .i64 d.steps),.v (.int .i64 d.stamps),.v (.int .i64 d.armed),.v (.bool false)]),(80,.bx true 66 [.ptr 0 6 0 0,.v (.string v),.v (.map (some r3)),.v (.map (some r4)),.v (.map (some r5)),.v (.int .i64 W.reads)]),(488,.sl true 9 1 (bZ ks)),(9000,.sl true 42 3 (cX (W.F.take i))),(9001,.sl true 68 4 (nA ((qGb W).take i)))]⟩)
      (fun _=>[.map r1 kS d.n (tab Itm.val d.L),.map r2 kS d.m (tab gN d.R),.map r3 70 n3 (kmS l),.map r4 kS W.nf (tab kB W.F),.map r5 kS W.nt (tab gN W.T)]) (fun i=>i≤W.F.length) (fun i=>W.F.length - i) [0,1,6,7,8,9,10,61,62,63] [0,80,488,9000,9001] 0 (by simp only [zZ,zR,zP,zQ,zN,zS,zM,zX,zU,Nat.reduceEqDiff,reduceIte,hkl];rfl) rfl (Nat.zero_le _) ?_
     intro i hi
     by_cases hiF:i < W.F.length
     ·have hp:(W.F[i].1).size≤maxLen:=hkz _ (List.getElem_mem hiF)
      have hgp:(bZ ks).getD i []=[FV.v (.string W.F[i].1)]:=by
       rw [← hks,bZ,eK,List.getD_eq_getElem?_getD,List.getElem?_map,List.getElem?_map,List.getElem?_eq_getElem hiF];rfl
      have hlF:xX ((tab kB W.F W.F[i].1.data.toList).getD (kB (0,ByteArray.empty)))=.agg [.v (.int .i64 W.F[i].2.1),.v (.string W.F[i].2.2)]:=by
       rw [uK,jE hFr (show (W.F[i].1,W.F[i].2) ∈ W.F from List.getElem_mem hiF)];rfl
      refine aA ?_;refine aD (fun K hK=>?_);simp (disch:=omega) only [push_cast,↓iC9,simprocAttr];refine hK _ ?_;clear hK K
      refine aA ?_;refine dP rfl ?_;refine aY ?_;refine aA ?_;refine bR ?_;refine aA ?_;refine aD (fun K hK=>?_);simp (disch:=omega) only [push_cast,↓iC9,simprocAttr,aM,dD,hgp,hkl];(repeat refine ⟨by first|omega|decide|((repeat' apply And.intro) <;> first|omega|decide),?_⟩);refine hK _ ?_;clear hK K
      refine aA ?_;refine bK ?_;refine aQ 5 (fun K1 hK1=>?_);simp (disch:=omega) only [push_cast,↓iC9,simprocAttr];refine hK1 _ ?_;(try clear hK1 K1)
      refine iP (i:=3) mtF rfl rfl rfl rfl rfl rfl (hp) ?_;refine aQ 4 (fun K1 hK1=>?_);simp (disch:=omega) only [push_cast,↓iC9,simprocAttr,aF,aE,hlF,yV,List.length_take];refine hK1 _ ?_;(try clear hK1 K1)
      refine bA ?_;refine cP [0,1,6,7,8,9,10,15,61,62,63] [0,80,488,9000,9001] (by simp only [zZ,zR,zP,zQ,zN,zS,zM,zX,zU,Nat.reduceEqDiff,reduceIte];exact rfl) ?_
      have hiN:i < (qGb W).length:=by rw [qGb,List.length_map];exact hiF
      have hnow:(qGb W)[i]=(W.F[i].1,(bM W.T W.F[i].1).getD 0,W.F[i].2):=by simp [qGb]
      refine bK ?_;refine aQ 5 (fun K1 hK1=>?_);simp (disch:=omega) only [push_cast,↓iC9,simprocAttr];refine hK1 _ ?_;(try clear hK1 K1)
      refine iP (i:=4) mtT rfl rfl rfl rfl rfl rfl (hp) ?_;refine aQ 3 (fun K1 hK1=>?_);simp (disch:=omega) only [push_cast,↓iC9,simprocAttr,aF,aE,qSs];refine hK1 _ ?_;(try clear hK1 K1)
      refine iP (i:=3) mtF rfl rfl rfl rfl rfl rfl (hp) ?_;refine aQ 4 (fun K1 hK1=>?_);simp (disch:=omega) only [push_cast,↓iC9,simprocAttr,aF,aE,hlF,qAy,List.length_take];refine hK1 _ ?_;(try clear hK1 K1)
      refine bA ?_;refine bP ?_;refine aB ?_;refine aD (fun K hK=>?_);simp (disch:=omega) only [push_cast,↓iC9,simprocAttr];refine hK _ ?_;clear hK K
      refine aB ?_;refine ⟨i + 1,?_,rfl,hiF,by omega⟩
      simp only [zZ,zR,zP,zQ,zN,zS,zM,zX,zU,Nat.reduceEqDiff,reduceIte];rw [List.take_succ_eq_append_getElem hiF,List.take_succ_eq_append_getElem hiN,hnow,← zBh,← qV6];rfl
     ·have hie:i=W.F.length:=by omega
      have hnl:(qGb W).length=W.F.length:=by rw [qGb,List.length_map]
      refine aA ?_;refine aD (fun K hK=>?_);simp (disch:=omega) only [push_cast,↓iC9,simprocAttr];refine hK _ ?_;clear hK K
      refine aA ?_;refine bT rfl ?_;refine kL ?_;refine eJ ?_;refine eJ ?_;refine kC ?_;refine aA ?_;rw [hie,List.take_length,show (qGb W).take W.F.length=qGb W by rw [← hnl,List.take_length]]
      refine cP [0,1,6,7,10] [0,80,9000,9001] (by simp only [zZ,zR,zP,zQ,zN,zS,zM,zX,zU,Nat.reduceEqDiff,reduceIte];exact rfl) ?_
      skip
      refine qVk ?_;refine zG1 6 mixed (by kernel_rfl) (fun K hK K1 hK1=>?_);simp (disch:=omega) only [push_cast,↓iC9,simprocAttr]
      refine hK1 _ ?_;(try clear hK1 K1);with_reducible refine aP ?_;simp (disch:=omega) only [push_cast,↓iC9,simprocAttr]
      refine hK _ ?_;clear hK K;refine aB ?_;refine zFo 2 rfl ?_;refine bN ?_;simp only [aN,aU,yH,yE,yK,yJ,aW,zS,zM,Nat.reduceEqDiff,reduceIte,reduceCtorEq];refine dA [0,9000,9001] [] (by first|rfl|simp [bsL,MO.bs]) (by decide) (by decide) (by simp only [push_cast,simprocAttr]) (by simp only [push_cast,simprocAttr]) (by simp only [push_cast,simprocAttr];rfl) (by simp only [push_cast,simprocAttr];rfl) ?_
      exact ⟨rfl,rfl,rfl⟩
   ·refine bS rfl (fun _=>?_) (fun h=>by simp [hk] at h)
    refine aA ?_;refine aD (fun K hK=>?_);simp (disch:=omega) only [push_cast,↓iC9,simprocAttr];refine hK _ ?_;clear hK K
    refine aB ?_;refine bN ?_;refine dQ ?_;simp only [aN,aU,yH,yE,yK,yJ,aW,zS,zM,Nat.reduceEqDiff,reduceIte,reduceCtorEq];refine dA [0] [] (by first|rfl|simp [bsL,MO.bs]) (by decide) (by decide) (by simp only [push_cast,simprocAttr]) (by simp only [push_cast,simprocAttr]) (by simp only [push_cast,simprocAttr];rfl) (by simp only [push_cast,simprocAttr];rfl) ?_
    refine ⟨rfl,?_⟩;simp [hk]
end Go.Proofs.YtdmnijnogabchaaDoor
