/-
  slices.Sorted(maps.Keys(m)) in a region, with maps beside the state: a new row of the keys ay they rise.
-/
import Derived.Test.YtbdomkfdkfdfgaaGreatDoorDkB
import Derived.Test.YtbdomkfdkfdfgaaGreatDoorTrH
import Derived.Test.YtbdomkfdkfdfgaaGreatDoorRcD
import Derived.Test.YtbdomkfdkfdfgaaGreatDoorTrC
import Derived.Sort.KeysCollected
import Derived.Sort.Walk0
import Derived.Test.YtbdomkfdkfdfgaaGreatDoorMs
set_option linter.unusedSimpArgs false
set_option linter.unusedVariables false
section
set_option maxRecDepth 20000
namespace Go.Rc
open Go Go.Eng Go.RowKit Go.Tr Go.Dk
def itl (L:LN):List (List FV):=L.map fun e=>[.v (.string e.1),.v (.int .i64 e.2)]
theorem zEo (L:LN):(itl L).length=L.length:=by simp [itl]
theorem zEn (L:LN):Wid 2 (itl L)=True:=eq_true (qKn L fun _=>rfl)
theorem zLo (L:LN) (p:ByteArray) (n:Int):itl L ++ [[.v (.string p),.v (.int .i64 n)]]=itl (L ++ [(p,n)]):=by simp [itl]
abbrev wgR (A H S:List Ent):Row:=.bx false 92 [.lst false (aG A),.lst false (aG H),.lst false (aG S),.own 1]
abbrev wgS (A H S:List Ent) (out:LN):aD:=[(0,wgR A H S),(1,.sl true 71 2 (itl out))]
end Go.Rc
namespace Go.Proofs.YtbdomkfdkfdfgaaGreatDoor
open Go Go.Eng Go.RowKit Go.Tr Go.Dk Go.Rc
theorem zPr (a b:ByteArray) (ha:a.size≤1048576) (hb:b.size≤1048576):HFun Tryz.prog 75 [.v (.string a),.v (.string b)] (fun h st=>h=.v (.string (qDl a b))):=by
 refine eX (N:=17) Tryz.func75 rfl Tryz.ntmps75 Tryz.results75 (by simp) ?_
 refine zE ?_;refine zJ (fun K hK=>?_);simp (disch:=omega) only [push_cast,↓Int.cast_ofNat_Int,simprocAttr];refine hK _ ?_;clear hK K
 unfold qDl
 cases e1:decide (a={ data:=#[] }) with
|true =>
  rw [if_pos (of_decide_eq_true e1)];refine zE ?_;refine zD ?_;refine zE ?_;refine zJ (fun K hK=>?_);simp (disch:=omega) only [push_cast,↓Int.cast_ofNat_Int,simprocAttr,e1];refine hK _ ?_;clear hK K
  refine zA ?_;refine yD rfl ?_;refine zE ?_;refine zJ (fun K hK=>?_);simp (disch:=omega) only [push_cast,↓Int.cast_ofNat_Int,simprocAttr];refine hK _ ?_;clear hK K
  refine zA ?_;refine zW ?_;refine zL ?_;refine zK ?_;simp only [yA,yM,yH,yE,aA,aC,yK,yJ,zS,zM,Nat.reduceEqDiff,reduceIte,reduceCtorEq];exact aJ rfl
|false =>
  rw [if_neg (of_decide_eq_false e1)];refine zE ?_;refine zD ?_;refine zE ?_;refine zJ (fun K hK=>?_);simp (disch:=omega) only [push_cast,↓Int.cast_ofNat_Int,simprocAttr,e1];refine hK _ ?_;clear hK K
  refine zA ?_;refine yC rfl ?_
  cases e2:decide (b={ data:=#[] }) with
 |true =>
   rw [if_pos (of_decide_eq_true e2)];refine zE ?_;refine zJ (fun K hK=>?_);simp (disch:=omega) only [push_cast,↓Int.cast_ofNat_Int,simprocAttr,e2];refine hK _ ?_;clear hK K
   refine zA ?_;refine yD rfl ?_;refine zE ?_;refine zJ (fun K hK=>?_);simp (disch:=omega) only [push_cast,↓Int.cast_ofNat_Int,simprocAttr];refine hK _ ?_;clear hK K
   refine zA ?_;refine zW ?_;refine zL ?_;refine zK ?_;simp only [yA,yM,yH,yE,aA,aC,yK,yJ,zS,zM,Nat.reduceEqDiff,reduceIte,reduceCtorEq];exact aJ rfl
 |false =>
   rw [if_neg (of_decide_eq_false e2)];refine zE ?_;refine zJ (fun K hK=>?_);simp (disch:=omega) only [push_cast,↓Int.cast_ofNat_Int,simprocAttr,e2];refine hK _ ?_;clear hK K
   refine zA ?_;refine yC rfl ?_;refine zC ?_;refine zB ?_;refine zE ?_
   have h1:({ data:=#[47] }:ByteArray).size=1:=rfl
   have h2:(a ++ ({ data:=#[47] }:ByteArray)).size=a.size + 1:=ByteArray.size_append
   refine zJ (fun K hK=>?_);simp (disch:=omega) only [push_cast,↓Int.cast_ofNat_Int,simprocAttr]
   refine ⟨by omega,by omega,?_⟩
   refine hK _ ?_;clear hK K;refine zA ?_;refine zW ?_;simp only [yA,yM,yH,yE,aA,aC,yK,yJ,zS,zM,Nat.reduceEqDiff,reduceIte,reduceCtorEq];exact aJ rfl
theorem zPb (s:ByteArray):HFun Tryz.prog 103 [.v (.string s),.v (.string { data:=#[47] })] (fun h st=>h=.v (.string (tR s))):=by
 refine eX (N:=13) Tryz.func103 rfl Tryz.ntmps103 Tryz.results103 (by simp) ?_
 have c:=qUd s { data:=#[47] }
 refine zE ?_;refine zJ (fun K hK=>?_);simp (disch:=omega) only [push_cast,↓Int.cast_ofNat_Int,simprocAttr];refine hK _ ?_;clear hK K
 unfold tR
 cases e:pre s { data:=#[47] } with
|true =>
  rw [e] at c
  have e':stroke.data.toList.isPrefixOf s.data.toList=true:=e
  have hs:1≤s.size:=by
   obtain ⟨r,hr⟩:=List.isPrefixOf_iff_prefix.1 e'
   have:=congrArg List.length hr
   rw [Lib.size_eq,← this];simp [stroke]
  rw [if_pos e'];refine zE ?_;refine zE ?_;refine zJ (fun K hK=>?_);simp (disch:=omega) only [push_cast,↓Int.cast_ofNat_Int,simprocAttr]
  refine bE zNj c (.cons (.v _) (.cons (.v _) .nil)) ?_;with_reducible refine aB ?_;simp (disch:=omega) only [push_cast,↓Int.cast_ofNat_Int,simprocAttr]
  refine hK _ ?_;clear hK K;refine zA ?_;refine yD rfl ?_
  have h1:({ data:=#[47] }:ByteArray).size=1:=rfl
  refine zE ?_;refine zJ (fun K hK=>?_);simp (disch:=omega) only [push_cast,↓Int.cast_ofNat_Int,simprocAttr,h1]
  refine ⟨⟨by omega,by omega⟩,?_⟩
  refine hK _ ?_;clear hK K;refine zA ?_;refine zW ?_;refine zK ?_;simp only [yA,yM,yH,yE,aA,aC,yK,yJ,zS,zM,Nat.reduceEqDiff,reduceIte,reduceCtorEq];exact aJ rfl
|false =>
  rw [e] at c;rw [if_neg (fun x=>by have e':stroke.data.toList.isPrefixOf s.data.toList=false:=e;rw [e'] at x;cases x)]
  refine zE ?_;refine zE ?_;refine zJ (fun K hK=>?_);simp (disch:=omega) only [push_cast,↓Int.cast_ofNat_Int,simprocAttr]
  refine bE zNj c (.cons (.v _) (.cons (.v _) .nil)) ?_;with_reducible refine aB ?_;simp (disch:=omega) only [push_cast,↓Int.cast_ofNat_Int,simprocAttr]
  refine hK _ ?_;clear hK K;refine zA ?_;refine yC rfl ?_;refine zC ?_;refine zE ?_;refine zJ (fun K hK=>?_);simp (disch:=omega) only [push_cast,↓Int.cast_ofNat_Int,simprocAttr];refine hK _ ?_;clear hK K
  refine zA ?_;refine zW ?_;simp only [yA,yM,yH,yE,aA,aC,yK,yJ,zS,zM,Nat.reduceEqDiff,reduceIte,reduceCtorEq];exact aJ rfl
theorem zS2 (s:ByteArray):HFun Tryz.prog 73 [.v (.string s),.v (.string { data:=#[47] })] (fun h st=>h=.v (.string (tR s))):=by
 refine eX (N:=8) Tryz.func73 rfl Tryz.ntmps73 Tryz.results73 (by simp) ?_
 refine zE ?_;refine zJ (fun K hK=>?_);simp (disch:=omega) only [push_cast,↓Int.cast_ofNat_Int,simprocAttr];refine hK _ ?_;clear hK K
 refine zE ?_;refine zJ (fun K hK=>?_);simp (disch:=omega) only [push_cast,↓Int.cast_ofNat_Int,simprocAttr]
 refine bE zWc (zPb s) (.cons (.v _) (.cons (.v _) .nil)) ?_;with_reducible refine aB ?_;simp (disch:=omega) only [push_cast,↓Int.cast_ofNat_Int,simprocAttr]
 refine hK _ ?_;clear hK K;refine zA ?_;refine zW ?_;simp only [yA,yM,yH,yE,aA,aC,yK,yJ,zS,zM,Nat.reduceEqDiff,reduceIte,reduceCtorEq];exact aJ rfl
set_option maxHeartbeats 1000000 in
theorem qSa (A H S:List Ent) (out:LN) (p:ByteArray) (n:Int) (hl:out.length≤1000000):HFunS Tryz.prog 107 [.ptr 0 4 0 0,.v (.string p),.v (.int .i64 n)] (wgS A H S out) (fun h st=>h=.tup []∧st=wgS A H S (out ++ [(p,n)])):=by
 refine qT0 (N:=18) Tryz.func107 rfl Tryz.ntmps107 Tryz.results107 (by simp) ?_
 refine zJ (fun K hK=>?_);simp (disch:=omega) only [push_cast,↓Int.cast_ofNat_Int,simprocAttr,zEo,zEn,zLo];(repeat refine ⟨by first|omega|decide|((repeat' apply And.intro) <;> first|omega|decide),?_⟩);refine hK _ ?_;clear hK K
 skip
 simp only [cB,dR,yH,yE,yK,yJ,fQ,zS,zM,Nat.reduceEqDiff,reduceIte,reduceCtorEq];refine pT [0,1] (by decide) (by decide) (by simp only [push_cast,simprocAttr]) (by simp only [push_cast,simprocAttr]) (by simp only [push_cast,simprocAttr];rfl) (by simp only [push_cast,simprocAttr];rfl) ?_
 exact ⟨rfl,rfl⟩
end Go.Proofs.YtbdomkfdkfdfgaaGreatDoor
end
section
namespace Go.Tr
open Go Go.Sort Go.Proofs
def zCb (out:List ByteArray) (s:ByteArray):List ByteArray:=out.takeWhile (fun x=>!blt s x) ++ s :: out.dropWhile (fun x=>!blt s x)
def zDd (l:List ByteArray):List ByteArray:=l.foldl zCb []
def uZ (t:List ByteArray):Prop:=t.Pairwise fun x y=>blt y x=false
theorem zHs {a b c:ByteArray} (h1:blt b a=false) (h2:blt c b=false):blt c a=false:=by
 cases e:blt c a with
|false=>rfl
|true =>
  rcases uS a b with h|h|h
  ·rw [kK e h] at h2;cases h2
  ·rw [← h,e] at h2;cases h2
  ·rw [h] at h1;cases h1
theorem zCa {s:ByteArray}:∀ {out:List ByteArray},uZ out→uZ (zCb out s):=by
 intro out h;unfold zCb
 induction out with
|nil=>simp [uZ]
|cons x r ih =>
  obtain ⟨hx,hr⟩:=List.pairwise_cons.1 h
  cases hb:blt s x with
 |false =>
   simp only [List.takeWhile_cons,List.dropWhile_cons,hb,Bool.not_false,if_true,List.cons_append];refine List.pairwise_cons.2 ⟨fun y hy=>?_,ih hr⟩
   rcases List.mem_append.1 hy with hy|hy
   ·exact hx y ((List.takeWhile_sublist _).subset hy)
   ·rcases List.mem_cons.1 hy with rfl|hy
    ·exact hb
    ·exact hx y ((List.dropWhile_sublist _).subset hy)
 |true =>
   simp only [List.takeWhile_cons,List.dropWhile_cons,hb,Bool.not_true,Bool.false_eq_true,if_false,List.nil_append];refine List.pairwise_cons.2 ⟨fun y hy=>?_,h⟩
   rcases List.mem_cons.1 hy with rfl|hy
   ·exact kL hb
   ·exact zHs (kL hb) (hx y hy)
theorem zH2 (out:List ByteArray) (s:ByteArray):(zCb out s).Perm (s :: out):=by
 unfold zCb;refine List.perm_middle.trans (List.Perm.cons s ?_);rw [List.takeWhile_append_dropWhile]
theorem qKb:∀ (t out:List ByteArray),uZ out→uZ (t.foldl zCb out)
|[],out,h=>h
|e :: t,out,h=>by rw [List.foldl_cons];exact qKb t _ (zCa h)
theorem qQc:∀ (t out:List ByteArray),(t.foldl zCb out).Perm (out ++ t)
|[],out=>by simp
|e :: t,out=>by
  rw [List.foldl_cons];refine (qQc t _).trans ?_;refine (List.Perm.append_right t (zH2 out e)).trans ?_;exact (List.perm_middle (l₁:=out)).symm
theorem qWz (t:List ByteArray):uZ (zDd t):=qKb t [] .nil
theorem zBg (t:List ByteArray):(zDd t).Perm t:=qQc t []
theorem qW0 {l X:List ByteArray} (h:uZ X) (hp:X.Perm l):X=zDd l:=by
 refine List.Perm.eq_of_pairwise (le:=fun x y:ByteArray=>blt y x=false) (fun a b ha hb h1 h2=>?_) h (qWz l) (hp.trans (zBg l).symm)
 rcases uS a b with h|h|h
 ·rw [h] at h2;cases h2
 ·exact h
 ·rw [h] at h1;cases h1
def byL (l:List ByteArray):List (List UInt8):=l.map fun s=>s.data.toList
theorem zNn (l:List ByteArray):(byL l).map (fun x=>(⟨x.toArray⟩:ByteArray))=l:=by
 unfold byL;rw [List.map_map]
 conv=>rhs;rw [← List.map_id l]
 exact List.map_congr_left fun s _=>rfl
theorem qX1 (l:List ByteArray):((byL l).mergeSort fun x y=>decide (x≤y)).map (fun x=>(⟨x.toArray⟩:ByteArray))=zDd l:=by
 refine qW0 ?_ ?_
 ·unfold uZ;rw [List.pairwise_map]
  have h:=List.pairwise_mergeSort (le:=fun x y:List UInt8=>decide (x≤y)) (fun a b c h1 h2=>by
   simp only [decide_eq_true_eq] at *;exact List.le_trans h1 h2) (fun a b=>by
   simp only [Bool.or_eq_true,decide_eq_true_eq];exact List.le_total a b) (byL l)
  refine h.imp fun {a b} hab=>?_
  simp only [decide_eq_true_eq] at hab;rw [blt,Lib.toList_data,Lib.toList_data,bytesLess_eq,decide_eq_false_iff_not];exact List.not_lt.2 hab
 ·have:=(List.mergeSort_perm (byL l) fun x y=>decide (x≤y)).map (fun x=>(⟨x.toArray⟩:ByteArray))
  rwa [zNn] at this
end Go.Tr
end
section
namespace Go.Dk
open Go Go.Tr Go.Eng Go.RowKit Go.Maps Go.Sort Go.Proofs
def iZ {α:Type} (L:List (ByteArray × α)):List ByteArray:=L.map (·.1)
theorem zB7 {α:Type} {L:List (ByteArray × α)} (h:qKm L):uZ (iZ L):=by
 unfold uZ iZ;rw [List.pairwise_map];exact h.imp fun {a b} hab=>by
  cases e:blt b.1 a.1 with
 |false=>rfl
 |true=>have:=kK hab e;rw [fD] at this;cases this
theorem zB6 {α:Type} {L:List (ByteArray × α)} (h:qKm L):(byL (iZ L)).Nodup:=by
 unfold byL iZ;rw [List.map_map];refine List.pairwise_map.2 (h.imp fun {a b} hab e=>?_)
 have:a.1=b.1:=tF e
 rw [this,fD] at hab;cases hab
theorem zLh {α:Type} {f:α→Value} {L:List (ByteArray × α)} {P:Program} {k:TypeId} {w:World} {b n:Nat} {D:DataW Value} (hR:qKm L) (hr:Reads D (tab f L)) (hown:w.ownsMap P k qT4 b n D) (hk:P.underlying k=some .string)
  {ss:List (List UInt8)} (hp:ss.Perm (strKeys D)):(ss.mergeSort fun x y=>decide (x≤y)).map encStr=(iZ L).map (fun s=>Value.string s)∧ss.length=L.length:=by
 have hC:Collected D (fun _=>false) (byL (iZ L)):=⟨zB6 hR,fun x=>by
  rw [hr.has];simp only [and_true];rw [tab,Option.isSome_map];constructor
  ·intro hx;obtain ⟨s,hs,rfl⟩:=List.mem_map.1 hx;obtain ⟨e,he,rfl⟩:=List.mem_map.1 hs;rw [pC,qS5 hR he];rfl
  ·intro hx
   cases hl:iQ L (mkB x) with
  |none=>rw [hl] at hx;cases hx
  |some y =>
    refine List.mem_map.2 ⟨mkB x,List.mem_map.2 ⟨_,qHe hl,rfl⟩,?_⟩;exact (zB2.1 rfl).symm⟩
 have hC2:=hC.perm hown (string_keyed hk) hk fun _=>rfl
 have hpp:=hp.trans hC2.symm
 refine ⟨?_,by rw [hpp.length_eq];simp [byL,iZ]⟩
 have e1:(ss.mergeSort fun x y=>decide (x≤y))=(byL (iZ L)).mergeSort fun x y=>decide (x≤y):=mergeSort_of_perm hpp
 rw [e1]
 have e2:=qX1 (iZ L)
 rw [← qW0 (zB7 hR) (List.Perm.refl _)] at e2
 have e3:=congrArg (List.map fun s:ByteArray=>Value.string s) e2
 rw [List.map_map] at e3;rw [← e3];exact List.map_congr_left fun x _=>rfl
end Go.Dk
namespace Go.Eng
open Go Go.RowKit Go.Maps Go.Sort Go.Dk Go.Proofs
section
variable {P:Program} {N:Nat} {all more:List Oper} {Q:uT} {g:MS} {S:HS}
theorem Good.setE {c:Ctx} {l:Env} {w:World} {ρ:Nat→Value} {xs:Nat→List Value} {v:Value} {h:HV} (G:Good c S (lk l) w ρ xs) (hr:RepH w (c.A ρ S.st) c.n0 ρ v h) (d:Nat):Good c (S.set (some d) h) (lk (stp (some d) v l)) w ρ xs:=by
 refine ⟨G.rows,G.apart,fun k x hk=>?_,G.kept,G.a0⟩
 simp only [HS.set,hlk] at hk;simp only [stp,lk]
 by_cases e:d=k
 ·rw [if_pos e] at hk ⊢;simp only [Option.some.injEq] at hk;subst hk;exact ⟨v,rfl,hr⟩
 ·rw [if_neg e] at hk ⊢;exact G.env k x hk
theorem zN1 {α:Type} {f:α→Value} {L:List (ByteArray × α)} {o1 o2:Oper} {m:Operand} {fK fS fI tM t1 t2 d1 d2 i r n kT:Nat} (nid:Nat) (hR:qKm L) (hn:n≤1099511627776) (hk:P.underlying kT=some .string)
  (h1:o1.op=.call ⟨.value (.func fK),#[m],#[t1]⟩) (h2:o2.op=.call ⟨.value (.func fS),#[.tmp d1],#[t2]⟩) (hg1:o1.guard=none) (hg2:o2.guard=none) (hd1:o1.dst=some d1) (hd2:o2.dst=some d2) (hl1:fW N (some d1)=true) (hl2:fW N (some d2)=true)
  (hc1:aE P fK=true) (hc2:aE P fS=true)
  (hK:∀ (b:Nat) (W:World),Calls P fK #[.map (some b)] W (fun e w'=>e=.returned (.func (.func fI) #[] #[.pointer (some ⟨W.heap.size,0,none⟩)])∧w'=W.alloc (.cells #[.map (some b)] tM)))
  (hS:∀ (b nn:Nat) (D0:DataW Value) (w:World) (hown:w.ownsMap P kT qT4 b nn D0) (hmax:Maps.size D0≤maxLen) (hbytes:Maps.size D0 * 16≤140737488355328),
   Calls P fS #[.func (.func fI) #[] #[.pointer (some ⟨w.heap.size,0,none⟩)]] (w.alloc (.cells #[.map (some b)] tM)) fun e w'=>∃ (v:Value) (ss:List (List UInt8)),e=.returned v∧ss.Perm (strKeys D0) ∧
    w'.ownsRow (w.alloc (.cells #[.map (some b)] tM)).heap.size kT 1 v ss.length ((ss.mergeSort (fun x y=>decide (x≤y))).map encStr)∧(v=.slice none 0 0↔ss=[])∧Below (w.alloc (.cells #[.map (some b)] tM)).heap.size (w.alloc (.cells #[.map (some b)] tM)) w')
  (hi:g[i]?=some (.map r kT n (tab f L))) (hm:hev S.env m=some (.v (.map (some r))))
  (h:HVM P N all Q more g ((((S.kill (only nid)).row nid (.sl true kT 1 (iG (iZ L)))).set (some d1) .junk).set (some d2) (.own nid))):HVM P N all Q (o1 :: o2 :: more) g S:=fun c F l w hkk I M=>by
 have I0:=I
 obtain ⟨ρ,xs,G⟩:=I;obtain ⟨vm,m1,m2⟩:=G.ev (bX _ l) hm
 have:=bL m2;subst this
 obtain ⟨D,hown,hrd⟩:=M.ok i _ hi
 have hsz:=hown.size_le
 have hk':∀ v,bK N (stp (some d1) v l)=true:=fun v=>kB hkk (fun k e=>by cases e;exact jH hl1)
 unfold wpListIn;rw [qEa I0 F hkk (by rw [hg1];rfl),if_pos rfl]
 have hv1:aW P l o1.op o1.type w (fun u w1=>u=.func (.func fI) #[] #[.pointer (some ⟨w.heap.size,0,none⟩)]∧w1=w.alloc (.cells #[.map (some r)] tM)) (fun u w1=>u=.func (.func fI) #[] #[.pointer (some ⟨w.heap.size,0,none⟩)]∧w1=w.alloc (.cells #[.map (some r)] tM)):=by
  rw [h1];unfold aW
  have e1:evs l [m]=some [.map (some r)]:=by simp only [evs,m1]
  simp only [aH,bZ,e1,G.fn (bX _ _) (show fnH (hev S.env (.func fK))=some fK from rfl)]
  exact ⟨hc1,Calls.mono (hK r w) fun e w' ⟨he,hw⟩=>by subst he;exact qA2 ⟨rfl,hw⟩⟩
 refine (fT ((lU (fun x X hx=>qH F hkk hx) hv1).mono fun u w1 ⟨e1,e2⟩=>?_))
 subst e1;subst e2;rw [hd1,uX]
 -- behind the first
 have hB1:Below w.heap.size w (w.alloc (.cells #[.map (some r)] tM)):=(Below.refl _ _).alloc (Nat.le_refl _) _
 have I1:Inv c (S.set (some d1) (.v (.func (.func fI) #[] #[.pointer (some ⟨w.heap.size,0,none⟩)]))) (lk (stp (some d1) (.func (.func fI) #[] #[.pointer (some ⟨w.heap.size,0,none⟩)]) l)) (w.alloc (.cells #[.map (some r)] tM)):=InvV.set ⟨ρ,xs,G.below hB1,.v _⟩ (some d1)
 have hk1:=hk' (.func (.func fI) #[] #[.pointer (some ⟨w.heap.size,0,none⟩)])
 generalize hl':stp (some d1) (.func (.func fI) #[] #[.pointer (some ⟨w.heap.size,0,none⟩)]) l=l1 at I1 hk1 ⊢;unfold wpListIn;rw [qEa I1 F hk1 (by rw [hg2];rfl),if_pos rfl]
 have hv2:aW P l1 o2.op o2.type (w.alloc (.cells #[.map (some r)] tM)) (fun u w2=>Own w2 w.heap.size kT 1 u L.length ((iZ L).map fun s=>Value.string s)∧Below w.heap.size w w2) (fun u w2=>Own w2 w.heap.size kT 1 u L.length ((iZ L).map fun s=>Value.string s)∧Below w.heap.size w w2):=by
  rw [h2];unfold aW
  have e1:evs l1 [.tmp d1]=some [.func (.func fI) #[] #[.pointer (some ⟨w.heap.size,0,none⟩)]]:=by
   subst hl';simp only [evs,ev,stp,lk,if_true]
  obtain ⟨ρ1,xs1,G1⟩:=I1;simp only [aH,bZ,e1,G1.fn (bX _ _) (show fnH (hev _ (.func fS))=some fS from rfl)]
  refine ⟨hc2,Calls.mono (hS r n D w hown (by simp only [maxLen];omega) (by omega)) ?_⟩
  rintro e w2 ⟨v,ss,rfl,hp,hrow,hnil,hB2⟩;obtain ⟨k1,k2⟩:=zLh hR hrd hown hk hp;rw [k1,k2] at hrow;refine qA2 ⟨⟨hrow.1,?_⟩,hB1.trans (hB2.mono (by simp))⟩
  rcases hrow.2 with hx|⟨g',cap,cur,a1,a2,a3⟩
  ·exact .inl hx
  ·exact .inr ⟨g',cap,cur,a1,by simp at a2;omega,a3⟩
 refine (fT ((lU (fun x X hx=>qH F hk1 hx) hv2).mono fun u w2 ⟨hO,hB⟩=>?_))
 rw [hd2,uX]
 have hk2:bK N (stp (some d2) u l1)=true:=kB hk1 (fun k e=>by cases e;exact jH hl2)
 have hlk:∀ b,u.ownBlock=some b→w.heap.size≤b:=fun b hb=>by
  rcases hO.2 with ⟨rfl,_⟩|⟨g',cap,cur,rfl,a2,_⟩
  ·cases hb
  ·simp only [Value.ownBlock,Option.some.injEq] at hb;subst hb;exact a2
 have Gn:=G.new nid (.sl true kT 1 (iG (iZ L))) ((iZ L).map fun s=>Value.string s) u hB hlk (fun _ _=>by
  have hlen:(iG (iZ L)).length=L.length:=by simp [iG,iZ]
  refine ⟨?_,⟨fun x hx=>?_,fun a q ha hq=>?_⟩,fun b hb=>?_⟩
  ·rw [aF];show Own w2 0 kT 1 u (iG (iZ L)).length _
   rw [hlen];refine ⟨hO.1,?_⟩
   rcases hO.2 with hx|⟨g',cap,cur,a1,a2,a3⟩
   ·exact .inl hx
   ·exact .inr ⟨g',cap,cur,a1,Nat.zero_le _,a3⟩
  ·obtain ⟨s,_,rfl⟩:=List.mem_map.1 hx;rfl
  ·have ha':a < (iZ L).length:=by simpa [iG] using ha
   have hg:(iG (iZ L))[a]=[FV.v (.string (iZ L)[a])]:=by simp [iG,zA9]
   have hq0:q=0:=by simp only [hg,List.length_cons,List.length_nil] at hq;omega
   subst hq0;refine ⟨.string (iZ L)[a],by simp [ha'],rfl,?_⟩
   simp only [hg,List.getElem_cons_zero];exact .v _
  ·rw [aF] at hb
   have:=hlk b hb
   have hw0:=G.kept.size
   have:=c.hn
   exact ⟨.inl (by omega),fun _=>by omega⟩)
 subst hl'
 have Ga:=Gn.setE (v:=.func (.func fI) #[] #[.pointer (some ⟨w.heap.size,0,none⟩)]) (.junk _) d1
 have ro:RepH w2 (c.A (eZ ρ nid u) ((((S.kill (only nid)).row nid (.sl true kT 1 (iG (iZ L)))).set (some d1) .junk)).st) c.n0 (eZ ρ nid u) u (.own nid):=by
  have:=RepH.own (w:=w2) (A:=c.A (eZ ρ nid u) ((((S.kill (only nid)).row nid (.sl true kT 1 (iG (iZ L)))).set (some d1) .junk)).st) (n0:=c.n0) (ρ:=eZ ρ nid u) nid (by
   rw [aF]
   rcases hO.2 with ⟨rfl,_⟩|⟨g',cap,cur,rfl,_⟩ <;> rfl)
  rw [aF] at this;exact this
 have Gb:=Ga.setE ro d2
 exact h c F _ _ hk2 ⟨_,_,Gb⟩ (M.block fun b hb _=>hB.block b hb.lt)
end
end Go.Eng
end
