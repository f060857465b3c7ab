/-
  Plain: texts put in their places (ay the library's merge puts them).
-/
import Derived.Test.YtlihpgmgiehjkaaGreatDoorDkE
import Derived.Test.YtlihpgmgiehjkaaGreatDoorDk
import Derived.KernelRfl
import Derived.Test.YtlihpgmgiehjkaaGreatDoorTrC
import Derived.Sort.KeysCollected
import Derived.Sort.Walk0
set_option linter.unusedSimpArgs false
set_option linter.unusedVariables false
section
set_option maxRecDepth 20000
namespace Go.Proofs.YtlihpgmgiehjkaaGreatDoor
open Go Go.Eng Go.RowKit Go.Tr Go.Dk
set_option maxHeartbeats 1000000 in
theorem zPi:HFunM Tryz.prog 5 [] [] [] (fun h st g=>∃ r1 r2,h=.ptr 0 6 0 0∧st=[(0,.bx true 64 (Dk.new.cells r1 r2))]∧g=Dk.new.maps kS r1 r2):=by
 refine kC (N:=5) Tryz.func5 rfl Tryz.ntmps5 Tryz.results5 (by simp) ?_
 refine aA ?_;refine aC (fun K hK=>?_);simp (disch:=omega) only [push_cast,↓iC9,simprocAttr];refine hK _ ?_;clear hK K
 refine aA ?_;refine aX ?_;refine xV (cp:=none) rfl rfl rfl kS fun r1=>?_
 refine xV (cp:=none) rfl rfl rfl kS fun r2=>?_
 refine aG 3 (fun K1 hK1=>?_);simp (disch:=omega) only [push_cast,↓iC9,simprocAttr,aE,aD,qL0,zA2];refine hK1 _ ?_;(try clear hK1 K1)
 refine aR ?_;refine aB ?_;refine bB ?_;simp only [aJ,aP,yH,yE,yK,yJ,aS,zS,zM,Nat.reduceEqDiff,reduceIte,reduceCtorEq];refine cE [32] [r1,r2] (by first|rfl|simp [bsL,MO.bs]) (by decide) (by decide) (by simp only [push_cast,simprocAttr]) (by simp only [push_cast,simprocAttr]) (by simp only [push_cast,simprocAttr];rfl) (by simp only [push_cast,simprocAttr];rfl) ?_
 exact ⟨r1,r2,rfl,rfl,rfl⟩
set_option maxHeartbeats 1000000 in
theorem zQb (d:Dk) (p:ByteArray) (r1 r2:Nat) (hs:p.size≤1048576):HFunM Tryz.prog 85 [.ptr 0 6 0 0,.v (.string p)] [(0,.bx false 64 (d.cells r1 r2))] (d.maps kS r1 r2) (fun h st g=>h=.tup [.v (.string (lP d p).1),.v (.int .i64 (lP d p).2)]∧st=[(0,.bx false 64 (d.cells r1 r2))]∧g=d.maps kS r1 r2):=by
 refine kC (N:=32) Tryz.func85 rfl Tryz.ntmps85 Tryz.results85 (by simp) ?_
 simp only [bM];rw [cJ];refine aA ?_;refine aC (fun K hK=>?_);simp (disch:=omega) only [push_cast,↓iC9,simprocAttr];refine hK _ ?_;clear hK K
 refine aA ?_;refine aA ?_;refine aC (fun K hK=>?_);simp (disch:=omega) only [push_cast,↓iC9,simprocAttr];refine hK _ ?_;clear hK K
 refine aB ?_;refine aW rfl ?_;refine aN ?_;refine aA ?_;refine aX ?_;refine aG 5 (fun K1 hK1=>?_);simp (disch:=omega) only [push_cast,↓iC9,simprocAttr];refine hK1 _ ?_;(try clear hK1 K1)
 refine fA (i:=0) mtI rfl rfl rfl rfl rfl rfl (mx hs) ?_;refine aG 6 (fun K1 hK1=>?_);simp (disch:=omega) only [push_cast,↓iC9,simprocAttr,aE,aD,iG,oH,iV];refine hK1 _ ?_;(try clear hK1 K1)
 refine aR ?_
 have hxd:(aH d.L p).getD itm0=aT d p:=rfl
 have hxs:(aH d.L p).isSome=has d p:=rfl
 rw [hxd,hxs];refine bC [0,1,6,7] [0,48] (by simp only [zZ,zR,zP,zQ,zN,zS,zM,zX,zU,Nat.reduceEqDiff,reduceIte];exact rfl) ?_
 refine aA ?_;refine bG ?_;refine aA ?_;refine aC (fun K hK=>?_);simp (disch:=omega) only [push_cast,↓iC9,simprocAttr];refine hK _ ?_;clear hK K
 refine aB ?_
 cases h0:d.down with
|true =>
  have hr:lP d p=(ByteArray.empty,14):=by simp [lP,h0]
  rw [hr];refine bX rfl ?_;refine aA ?_;refine aC (fun K hK=>?_);simp (disch:=omega) only [push_cast,↓iC9,simprocAttr];refine hK _ ?_;clear hK K
  refine aB ?_;refine bB ?_;refine fJ ?_;refine cH ?_;simp only [aJ,aP,yH,yE,yK,yJ,aS,zS,zM,Nat.reduceEqDiff,reduceIte,reduceCtorEq];refine cE [0] [] (by first|rfl|simp [bsL,MO.bs]) (by decide) (by decide) (by simp only [push_cast,simprocAttr]) (by simp only [push_cast,simprocAttr]) (by simp only [push_cast,simprocAttr];rfl) (by simp only [push_cast,simprocAttr];rfl) ?_
  exact ⟨rfl,rfl,rfl⟩
|false =>
  refine aW rfl ?_
  cases h1:has d p with
 |false =>
   have hr:lP d p=(ByteArray.empty,11):=by simp [lP,h0,h1]
   rw [hr];refine aA ?_;refine aC (fun K hK=>?_);simp (disch:=omega) only [push_cast,↓iC9,simprocAttr];refine hK _ ?_;clear hK K
   refine aB ?_;refine bX rfl ?_;refine aA ?_;refine aC (fun K hK=>?_);simp (disch:=omega) only [push_cast,↓iC9,simprocAttr];refine hK _ ?_;clear hK K
   refine aB ?_;refine bB ?_;refine fJ ?_;refine cH ?_;simp only [aJ,aP,yH,yE,yK,yJ,aS,zS,zM,Nat.reduceEqDiff,reduceIte,reduceCtorEq];refine cE [0] [] (by first|rfl|simp [bsL,MO.bs]) (by decide) (by decide) (by simp only [push_cast,simprocAttr]) (by simp only [push_cast,simprocAttr]) (by simp only [push_cast,simprocAttr];rfl) (by simp only [push_cast,simprocAttr];rfl) ?_
   exact ⟨rfl,rfl,rfl⟩
 |true =>
   refine aA ?_;refine aC (fun K hK=>?_);simp (disch:=omega) only [push_cast,↓iC9,simprocAttr];refine hK _ ?_;clear hK K
   refine aB ?_;refine aW rfl ?_;refine aA ?_;refine aC (fun K hK=>?_);simp (disch:=omega) only [push_cast,↓iC9,simprocAttr];refine hK _ ?_;clear hK K
   refine aB ?_
   cases h2:(aT d p).dir with
  |true =>
    have hr:lP d p=(ByteArray.empty,12):=by simp [lP,h0,h1,h2]
    rw [hr];refine bX rfl ?_;refine aA ?_;refine aC (fun K hK=>?_);simp (disch:=omega) only [push_cast,↓iC9,simprocAttr];refine hK _ ?_;clear hK K
    refine aB ?_;refine bB ?_;refine fJ ?_;refine cH ?_;simp only [aJ,aP,yH,yE,yK,yJ,aS,zS,zM,Nat.reduceEqDiff,reduceIte,reduceCtorEq];refine cE [0] [] (by first|rfl|simp [bsL,MO.bs]) (by decide) (by decide) (by simp only [push_cast,simprocAttr]) (by simp only [push_cast,simprocAttr]) (by simp only [push_cast,simprocAttr];rfl) (by simp only [push_cast,simprocAttr];rfl) ?_
    exact ⟨rfl,rfl,rfl⟩
  |false =>
    have hr:lP d p=((aT d p).data,0):=by simp [lP,h0,h1,h2]
    rw [hr];refine aW rfl ?_;refine aN ?_;refine aZ ?_;refine aA ?_;refine aC (fun K hK=>?_);simp (disch:=omega) only [push_cast,↓iC9,simprocAttr];refine hK _ ?_;clear hK K
    refine aB ?_;refine bB ?_;simp only [aJ,aP,yH,yE,yK,yJ,aS,zS,zM,Nat.reduceEqDiff,reduceIte,reduceCtorEq];refine cE [0] [] (by first|rfl|simp [bsL,MO.bs]) (by decide) (by decide) (by simp only [push_cast,simprocAttr]) (by simp only [push_cast,simprocAttr]) (by simp only [push_cast,simprocAttr];rfl) (by simp only [push_cast,simprocAttr];rfl) ?_
    exact ⟨rfl,rfl,rfl⟩
set_option maxHeartbeats 1000000 in
theorem zHs (d:Dk) (p:ByteArray) (r1 r2:Nat) (hs:p.size≤1048576):HFunM Tryz.prog 45 [.ptr 0 6 0 0,.v (.string p)] [(0,.bx false 64 (d.cells r1 r2))] (d.maps kS r1 r2) (fun h st g=>h=.v (.int .i64 (iF d p))∧st=[(0,.bx false 64 (d.cells r1 r2))]∧g=d.maps kS r1 r2):=by
 refine kC (N:=24) Tryz.func45 rfl Tryz.ntmps45 Tryz.results45 (by simp) ?_
 simp only [bM];rw [cJ];refine aA ?_;refine aC (fun K hK=>?_);simp (disch:=omega) only [push_cast,↓iC9,simprocAttr];refine hK _ ?_;clear hK K
 refine aA ?_;refine aA ?_;refine aC (fun K hK=>?_);simp (disch:=omega) only [push_cast,↓iC9,simprocAttr];refine hK _ ?_;clear hK K
 refine aB ?_;refine aW rfl ?_;refine aN ?_;refine aA ?_;refine aX ?_;refine aG 5 (fun K1 hK1=>?_);simp (disch:=omega) only [push_cast,↓iC9,simprocAttr];refine hK1 _ ?_;(try clear hK1 K1)
 refine fA (i:=0) mtI rfl rfl rfl rfl rfl rfl (mx hs) ?_;refine aG 6 (fun K1 hK1=>?_);simp (disch:=omega) only [push_cast,↓iC9,simprocAttr,aE,aD,iG,oH,iV];refine hK1 _ ?_;(try clear hK1 K1)
 refine aR ?_
 have hxd:(aH d.L p).getD itm0=aT d p:=rfl
 have hxs:(aH d.L p).isSome=has d p:=rfl
 rw [hxd,hxs];refine bC [0,1,5,6] [0,40] (by simp only [zZ,zR,zP,zQ,zN,zS,zM,zX,zU,Nat.reduceEqDiff,reduceIte];exact rfl) ?_
 refine aA ?_;refine bG ?_;refine aA ?_
 cases h1:has d p with
|false =>
  have hr:iF d p=0:=by simp [iF,h1]
  rw [hr];refine aC (fun K hK=>?_);simp (disch:=omega) only [push_cast,↓iC9,simprocAttr];refine hK _ ?_;clear hK K
  refine aB ?_;refine bX rfl ?_;refine aA ?_;refine aC (fun K hK=>?_);simp (disch:=omega) only [push_cast,↓iC9,simprocAttr];refine hK _ ?_;clear hK K
  refine aB ?_;refine bB ?_;refine fJ ?_;refine cH ?_;simp only [aJ,aP,yH,yE,yK,yJ,aS,zS,zM,Nat.reduceEqDiff,reduceIte,reduceCtorEq];refine cE [0] [] (by first|rfl|simp [bsL,MO.bs]) (by decide) (by decide) (by simp only [push_cast,simprocAttr]) (by simp only [push_cast,simprocAttr]) (by simp only [push_cast,simprocAttr];rfl) (by simp only [push_cast,simprocAttr];rfl) ?_
  exact ⟨rfl,rfl,rfl⟩
|true =>
  refine aC (fun K hK=>?_);simp (disch:=omega) only [push_cast,↓iC9,simprocAttr];refine hK _ ?_;clear hK K
  refine aB ?_;refine aW rfl ?_;refine aA ?_;refine aC (fun K hK=>?_);simp (disch:=omega) only [push_cast,↓iC9,simprocAttr];refine hK _ ?_;clear hK K
  refine aB ?_
  cases h2:(aT d p).dir with
 |true =>
   have hr:iF d p=1:=by simp [iF,h1,h2]
   rw [hr];refine bX rfl ?_;refine aA ?_;refine aC (fun K hK=>?_);simp (disch:=omega) only [push_cast,↓iC9,simprocAttr];refine hK _ ?_;clear hK K
   refine aB ?_;refine bB ?_;refine fJ ?_;refine cH ?_;simp only [aJ,aP,yH,yE,yK,yJ,aS,zS,zM,Nat.reduceEqDiff,reduceIte,reduceCtorEq];refine cE [0] [] (by first|rfl|simp [bsL,MO.bs]) (by decide) (by decide) (by simp only [push_cast,simprocAttr]) (by simp only [push_cast,simprocAttr]) (by simp only [push_cast,simprocAttr];rfl) (by simp only [push_cast,simprocAttr];rfl) ?_
   exact ⟨rfl,rfl,rfl⟩
 |false =>
   have hr:iF d p=2:=by simp [iF,h1,h2]
   rw [hr];refine aW rfl ?_;refine aN ?_;refine aZ ?_;refine aA ?_;refine aC (fun K hK=>?_);simp (disch:=omega) only [push_cast,↓iC9,simprocAttr];refine hK _ ?_;clear hK K
   refine aB ?_;refine bB ?_;simp only [aJ,aP,yH,yE,yK,yJ,aS,zS,zM,Nat.reduceEqDiff,reduceIte,reduceCtorEq];refine cE [0] [] (by first|rfl|simp [bsL,MO.bs]) (by decide) (by decide) (by simp only [push_cast,simprocAttr]) (by simp only [push_cast,simprocAttr]) (by simp only [push_cast,simprocAttr];rfl) (by simp only [push_cast,simprocAttr];rfl) ?_
   exact ⟨rfl,rfl,rfl⟩
theorem zQz (d:Dk) (r1 r2:Nat):HFunS Tryz.prog 44 [.ptr 0 6 0 0] [(0,.bx false 64 (d.cells r1 r2))] (fun h st=>h=.v (.bool d.down)∧st=[(0,.bx false 64 (d.cells r1 r2))]):=by
 refine zJb (N:=11) Tryz.func44 rfl Tryz.ntmps44 Tryz.results44 (by simp) ?_
 simp only [bM];refine zE ?_;refine zJ (fun K hK=>?_);simp (disch:=omega) only [push_cast,↓iC9,simprocAttr];refine hK _ ?_;clear hK K
 refine zE ?_;refine zJ (fun K hK=>?_);simp (disch:=omega) only [push_cast,↓iC9,simprocAttr];refine hK _ ?_;clear hK K
 refine zA ?_;refine zW ?_;simp only [dR,fL,yH,yE,yK,yJ,aS,zS,zM,Nat.reduceEqDiff,reduceIte,reduceCtorEq];refine qF7 [0] (by decide) (by decide) (by simp only [push_cast,simprocAttr]) (by simp only [push_cast,simprocAttr]) (by simp only [push_cast,simprocAttr];rfl) (by simp only [push_cast,simprocAttr];rfl) ?_
 exact ⟨rfl,rfl⟩
def zTz (d:Dk) (n:Int):Dk:={ d with armed:=if -1 < n then n else -1 }
end Go.Proofs.YtlihpgmgiehjkaaGreatDoor
end
section
namespace Go.Dk
open Go Go.Tr Go.Eng
theorem qY5 {α:Type} {p t:ByteArray} {y:α} {r:List (ByteArray × α)} (h:dW ((t,y) :: r)) (hb:blt p t=true):aH ((t,y) :: r) p=none:=by
 cases e:aH ((t,y) :: r) p with
|none=>rfl
|some x =>
  have hm:=cB e
  obtain ⟨h1,h2⟩:=List.pairwise_cons.1 h
  rcases List.mem_cons.1 hm with hm|hm
  ·cases hm;rw [eD] at hb;cases hb
  ·have:=jL hb (h1 _ hm);rw [eD] at this;cases this
theorem zAc (p:ByteArray) (x:Itm):∀ {L:List (ByteArray × Itm)},dW L→tot (put p x L)=tot L + x.data.size - ((aH L p).getD itm0).data.size
|[],_=>by
  simp only [put,tot,aH,Option.getD]
  have:itm0.data.size=0:=rfl
  omega
|(t,y) :: r,h=>by
  obtain ⟨h1,h2⟩:=List.pairwise_cons.1 h;simp only [put]
  by_cases e:t=p
  ·subst e;rw [if_pos rfl]
   have e0:aH ((t,y) :: r) t=some y:=by simp [aH]
   rw [e0,tot,tot];show _=_ + (x.data.size:Int) - (y.data.size:Nat)
   omega
  ·rw [if_neg e];split
   ·rename_i hb;rw [lL] at hb;rw [qY5 h hb,tot]
    have:((none:Option Itm).getD itm0).data.size=0:=rfl
    omega
   ·rw [tot,tot,zAc p x h2];simp only [aH,if_neg e];omega
theorem uK {d:Dk} {B B':Int} (h:d.Ok B) (hB:B≤B'):d.Ok B' :=
 ⟨h.rise,h.keys,Int.le_trans h.size hB,Int.le_trans h.n hB,Int.le_trans h.m hB,⟨h.steps.1,Int.le_trans h.steps.2 hB⟩,⟨h.stamps.1,Int.le_trans h.stamps.2 hB⟩,h.armed⟩
theorem zMs {d:Dk} {B:Int} (h:d.Ok B):(bJ d).2.Ok (B + 1):=by
 have h1:=h.steps
 have h2:=h.stamps
 have h3:=h.armed
 have h4:=h.size
 have h5:=h.n
 have h6:=h.m
 unfold bJ;split
 ·exact ⟨h.rise,h.keys,by dsimp only;omega,by dsimp only;omega,by dsimp only;omega,by dsimp only;omega,by dsimp only;omega,by dsimp only;omega⟩
 ·refine ⟨h.rise,h.keys,by dsimp only;omega,by dsimp only;omega,by dsimp only;omega,by dsimp only;omega,by dsimp only;omega,?_⟩
  dsimp only;split <;> omega
theorem zEl (d:Dk) (p:ByteArray):aT (bJ d).2 p=aT d p:=by unfold aT bJ;split <;> rfl
theorem qC1 (d:Dk) (p:ByteArray) (x:Itm) (q:ByteArray):aT (pW d p x) q=if q=p then { x with stamp:=d.stamps + 1 } else aT d q:=by
 show (aH (put p _ d.L) q).getD itm0=_
 rw [eX];split <;> rfl
def tV:ByteArray:={ data:=#[118] }
def tW:ByteArray:={ data:=#[119] }
structure NameOk (p:ByteArray):Prop where
 ok:pOk p 6=true
 qDx:qDx p=2
 par:par p=tV
 vol:vol p=tV
 ne:p≠tV
 size:p.size≤1048576
structure Fi (d:Dk) (n:Int):Prop where
 down:d.down=false
 armed:d.armed=-1
 rooms:d.R=[(tV,n)]
 home:(aT d tV).dir=true
 file:∀ p,NameOk p→(aT d p).dir=false
 used:used d tV≤n
 other:Go.Dk.used d tW=4
end Go.Dk
end
section
namespace Go.Tr
open Go Go.Sort Go.Proofs
def qZh (out:List ByteArray) (s:ByteArray):List ByteArray:=out.takeWhile (fun x=>!blt s x) ++ s :: out.dropWhile (fun x=>!blt s x)
def qAn (l:List ByteArray):List ByteArray:=l.foldl qZh []
def rF (t:List ByteArray):Prop:=t.Pairwise fun x y=>blt y x=false
theorem zD9 {a b c:ByteArray} (h1:blt b a=false) (h2:blt c b=false):blt c a=false:=by
 cases e:blt c a with
|false=>rfl
|true =>
  rcases qHc a b with h|h|h
  ·rw [jL e h] at h2;cases h2
  ·rw [← h,e] at h2;cases h2
  ·rw [h] at h1;cases h1
theorem qZg {s:ByteArray}:∀ {out:List ByteArray},rF out→rF (qZh out s):=by
 intro out h;unfold qZh
 induction out with
|nil=>simp [rF]
|cons x r ih =>
  obtain ⟨hx,hr⟩:=List.pairwise_cons.1 h
  cases hb:blt s x with
 |false =>
   simp only [List.takeWhile_cons,List.dropWhile_cons,hb,Bool.not_false,if_true,List.cons_append];refine List.pairwise_cons.2 ⟨fun y hy=>?_,ih hr⟩
   rcases List.mem_append.1 hy with hy|hy
   ·exact hx y ((List.takeWhile_sublist _).subset hy)
   ·rcases List.mem_cons.1 hy with rfl|hy
    ·exact hb
    ·exact hx y ((List.dropWhile_sublist _).subset hy)
 |true =>
   simp only [List.takeWhile_cons,List.dropWhile_cons,hb,Bool.not_true,Bool.false_eq_true,if_false,List.nil_append];refine List.pairwise_cons.2 ⟨fun y hy=>?_,h⟩
   rcases List.mem_cons.1 hy with rfl|hy
   ·exact gG hb
   ·exact zD9 (gG hb) (hx y hy)
theorem zEo (out:List ByteArray) (s:ByteArray):(qZh out s).Perm (s :: out):=by
 unfold qZh;refine List.perm_middle.trans (List.Perm.cons s ?_);rw [List.takeWhile_append_dropWhile]
theorem qGu:∀ (t out:List ByteArray),rF out→rF (t.foldl qZh out)
|[],out,h=>h
|e :: t,out,h=>by rw [List.foldl_cons];exact qGu t _ (qZg h)
theorem qM5:∀ (t out:List ByteArray),(t.foldl qZh out).Perm (out ++ t)
|[],out=>by simp
|e :: t,out=>by
  rw [List.foldl_cons];refine (qM5 t _).trans ?_;refine (List.Perm.append_right t (zEo out e)).trans ?_;exact (List.perm_middle (l₁:=out)).symm
theorem qUd (t:List ByteArray):rF (qAn t):=qGu t [] .nil
theorem qH0 (t:List ByteArray):(qAn t).Perm t:=qM5 t []
theorem zDn (t:List ByteArray):(qAn t).length=t.length:=(qH0 t).length_eq
theorem qH1 {l X:List ByteArray} (h:rF X) (hp:X.Perm l):X=qAn l:=by
 refine List.Perm.eq_of_pairwise (le:=fun x y:ByteArray=>blt y x=false) (fun a b ha hb h1 h2=>?_) h (qUd l) (hp.trans (qH0 l).symm)
 rcases qHc a b with h|h|h
 ·rw [h] at h2;cases h2
 ·exact h
 ·rw [h] at h1;cases h1
def byL (l:List ByteArray):List (List UInt8):=l.map fun s=>s.data.toList
theorem zLm (l:List ByteArray):(byL l).map (fun x=>(⟨x.toArray⟩:ByteArray))=l:=by
 unfold byL;rw [List.map_map]
 conv=>rhs;rw [← List.map_id l]
 exact List.map_congr_left fun s _=>rfl
theorem qF4 (l:List ByteArray):((byL l).mergeSort fun x y=>decide (x≤y)).map (fun x=>(⟨x.toArray⟩:ByteArray))=qAn l:=by
 refine qH1 ?_ ?_
 ·unfold rF;rw [List.pairwise_map]
  have h:=List.pairwise_mergeSort (le:=fun x y:List UInt8=>decide (x≤y)) (fun a b c h1 h2=>by
   simp only [decide_eq_true_eq] at *;exact List.le_trans h1 h2) (fun a b=>by
   simp only [Bool.or_eq_true,decide_eq_true_eq];exact List.le_total a b) (byL l)
  refine h.imp fun {a b} hab=>?_
  simp only [decide_eq_true_eq] at hab;rw [blt,Lib.toList_data,Lib.toList_data,bytesLess_eq,decide_eq_false_iff_not];exact List.not_lt.2 hab
 ·have:=(List.mergeSort_perm (byL l) fun x y=>decide (x≤y)).map (fun x=>(⟨x.toArray⟩:ByteArray))
  rwa [zLm] at this
end Go.Tr
end
