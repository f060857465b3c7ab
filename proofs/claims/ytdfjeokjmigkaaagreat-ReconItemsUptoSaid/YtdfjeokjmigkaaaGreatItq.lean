/-
  slices.Sorted(maps.Keys(m)) in a region, with maps beside the state: a new row of the keys ay they rise.
-/
import Derived.Test.YtdfjeokjmigkaaaGreatRcD
import Derived.Test.YtdfjeokjmigkaaaGreatRcv
import Derived.Test.YtdfjeokjmigkaaaGreatTrC
import Derived.Sort.KeysCollected
import Derived.Sort.Walk0
import Derived.Test.YtdfjeokjmigkaaaGreatMt
set_option linter.unusedSimpArgs false
set_option linter.unusedVariables false
section
set_option maxRecDepth 20000
namespace Go.Rc
open Go Go.Eng Go.RowKit Go.Tr Go.Dk
def itl (L:LN):List (List FV):=L.map fun e=>[.v (.string e.1),.v (.int .i64 e.2)]
theorem qC (L:LN):(itl L).length=L.length:=by simp [itl]
theorem qDt (L:LN):Wid 2 (itl L)=True:=eq_true (vK L fun _=>rfl)
theorem qUo (L:LN) (p:ByteArray) (n:Int):itl L ++ [[.v (.string p),.v (.int .i64 n)]]=itl (L ++ [(p,n)]):=by simp [itl]
theorem qDu (L:LN):oJ (itl L)=itl L:=by
 unfold oJ itl;rw [List.map_map];apply List.map_congr_left;intro s _;simp [FV.old]
theorem zB2 {L:LN} {i:Nat} {d:List FV} (h:i < L.length):(itl L).getD i d=[.v (.string L[i].1),.v (.int .i64 L[i].2)]:=by unfold itl;rw [jT h]
abbrev wgR (A H S:List Ent):Row:=.bx false 53 [.lst false (aQ A),.lst false (aQ H),.lst false (aQ S),.own 1]
abbrev wgS (A H S:List Ent) (out:LN):aD:=[(0,wgR A H S),(1,.sl true 31 2 (itl out))]
end Go.Rc
namespace Go.Proofs.YtdfjeokjmigkaaaGreat
open Go Go.Eng Go.RowKit Go.Tr Go.Dk Go.Rc
theorem zNl (a b:ByteArray) (ha:a.size≤1048576) (hb:b.size≤1048576):HFun Tryz.prog 40 [.v (.string a),.v (.string b)] (fun h st=>h=.v (.string (qEn a b))):=by
 refine eF (N:=17) Tryz.func40 rfl Tryz.ntmps40 Tryz.results40 (by simp) ?_
 refine zE ?_;refine zJ (fun K hK=>?_);simp (disch:=omega) only [push_cast,↓Int.cast_ofNat_Int,simprocAttr];refine hK _ ?_
 unfold qEn
 cases e1:decide (a={ data:=#[] }) with
|true =>
  rw [if_pos (of_decide_eq_true e1)];refine zE ?_;refine zD ?_;refine zE ?_;refine zJ (fun K hK=>?_);simp (disch:=omega) only [push_cast,↓Int.cast_ofNat_Int,simprocAttr,e1];refine hK _ ?_
  refine zA ?_;refine yD rfl ?_;refine zE ?_;refine zJ (fun K hK=>?_);simp (disch:=omega) only [push_cast,↓Int.cast_ofNat_Int,simprocAttr];refine hK _ ?_
  refine zA ?_;refine zW ?_;refine zL ?_;refine zK ?_;simp only [yA,yM,yH,yE,aA,aC,yK,yJ,zS,zM,Nat.reduceEqDiff,reduceIte,reduceCtorEq];exact aL rfl
|false =>
  rw [if_neg (of_decide_eq_false e1)];refine zE ?_;refine zD ?_;refine zE ?_;refine zJ (fun K hK=>?_);simp (disch:=omega) only [push_cast,↓Int.cast_ofNat_Int,simprocAttr,e1];refine hK _ ?_
  refine zA ?_;refine yC rfl ?_
  cases e2:decide (b={ data:=#[] }) with
 |true =>
   rw [if_pos (of_decide_eq_true e2)];refine zE ?_;refine zJ (fun K hK=>?_);simp (disch:=omega) only [push_cast,↓Int.cast_ofNat_Int,simprocAttr,e2];refine hK _ ?_
   refine zA ?_;refine yD rfl ?_;refine zE ?_;refine zJ (fun K hK=>?_);simp (disch:=omega) only [push_cast,↓Int.cast_ofNat_Int,simprocAttr];refine hK _ ?_
   refine zA ?_;refine zW ?_;refine zL ?_;refine zK ?_;simp only [yA,yM,yH,yE,aA,aC,yK,yJ,zS,zM,Nat.reduceEqDiff,reduceIte,reduceCtorEq];exact aL rfl
 |false =>
   rw [if_neg (of_decide_eq_false e2)];refine zE ?_;refine zJ (fun K hK=>?_);simp (disch:=omega) only [push_cast,↓Int.cast_ofNat_Int,simprocAttr,e2];refine hK _ ?_
   refine zA ?_;refine yC rfl ?_;refine zC ?_;refine zB ?_;refine zE ?_
   have h1:({ data:=#[47] }:ByteArray).size=1:=rfl
   have h2:(a ++ ({ data:=#[47] }:ByteArray)).size=a.size + 1:=ByteArray.size_append
   refine zJ (fun K hK=>?_);simp (disch:=omega) only [push_cast,↓Int.cast_ofNat_Int,simprocAttr]
   refine ⟨by omega,by omega,?_⟩
   refine hK _ ?_;refine zA ?_;refine zW ?_;simp only [yA,yM,yH,yE,aA,aC,yK,yJ,zS,zM,Nat.reduceEqDiff,reduceIte,reduceCtorEq];exact aL rfl
theorem zMu (s:ByteArray):HFun Tryz.prog 54 [.v (.string s),.v (.string { data:=#[47] })] (fun h st=>h=.v (.string (vM s))):=by
 refine eF (N:=13) Tryz.func54 rfl Tryz.ntmps54 Tryz.results54 (by simp) ?_
 have c:=qP6 s { data:=#[47] }
 refine zE ?_;refine zJ (fun K hK=>?_);simp (disch:=omega) only [push_cast,↓Int.cast_ofNat_Int,simprocAttr];refine hK _ ?_
 unfold vM
 cases e:pre s { data:=#[47] } with
|true =>
  rw [e] at c
  have e':stroke.data.toList.isPrefixOf s.data.toList=true:=e
  have hs:1≤s.size:=by
   obtain ⟨r,hr⟩:=List.isPrefixOf_iff_prefix.1 e'
   have:=congrArg List.length hr
   rw [Lib.size_eq,← this];simp [stroke]
  rw [if_pos e'];refine zE ?_;refine zE ?_;refine zJ (fun K hK=>?_);simp (disch:=omega) only [push_cast,↓Int.cast_ofNat_Int,simprocAttr]
  refine aW zT0 c (.cons (.v _) (.cons (.v _) .nil)) ?_;with_reducible refine aB ?_;simp (disch:=omega) only [push_cast,↓Int.cast_ofNat_Int,simprocAttr]
  refine hK _ ?_;refine zA ?_;refine yD rfl ?_
  have h1:({ data:=#[47] }:ByteArray).size=1:=rfl
  refine zE ?_;refine zJ (fun K hK=>?_);simp (disch:=omega) only [push_cast,↓Int.cast_ofNat_Int,simprocAttr,h1]
  refine ⟨⟨by omega,by omega⟩,?_⟩
  refine hK _ ?_;refine zA ?_;refine zW ?_;refine zK ?_;simp only [yA,yM,yH,yE,aA,aC,yK,yJ,zS,zM,Nat.reduceEqDiff,reduceIte,reduceCtorEq];exact aL rfl
|false =>
  rw [e] at c;rw [if_neg (fun x=>by have e':stroke.data.toList.isPrefixOf s.data.toList=false:=e;rw [e'] at x;cases x)]
  refine zE ?_;refine zE ?_;refine zJ (fun K hK=>?_);simp (disch:=omega) only [push_cast,↓Int.cast_ofNat_Int,simprocAttr]
  refine aW zT0 c (.cons (.v _) (.cons (.v _) .nil)) ?_;with_reducible refine aB ?_;simp (disch:=omega) only [push_cast,↓Int.cast_ofNat_Int,simprocAttr]
  refine hK _ ?_;refine zA ?_;refine yC rfl ?_;refine zC ?_;refine zE ?_;refine zJ (fun K hK=>?_);simp (disch:=omega) only [push_cast,↓Int.cast_ofNat_Int,simprocAttr];refine hK _ ?_
  refine zA ?_;refine zW ?_;simp only [yA,yM,yH,yE,aA,aC,yK,yJ,zS,zM,Nat.reduceEqDiff,reduceIte,reduceCtorEq];exact aL rfl
theorem zRk (s:ByteArray):HFun Tryz.prog 38 [.v (.string s),.v (.string { data:=#[47] })] (fun h st=>h=.v (.string (vM s))):=by
 refine eF (N:=8) Tryz.func38 rfl Tryz.ntmps38 Tryz.results38 (by simp) ?_
 refine zE ?_;refine zJ (fun K hK=>?_);simp (disch:=omega) only [push_cast,↓Int.cast_ofNat_Int,simprocAttr];refine hK _ ?_
 refine zE ?_;refine zJ (fun K hK=>?_);simp (disch:=omega) only [push_cast,↓Int.cast_ofNat_Int,simprocAttr]
 refine aW zX6 (zMu s) (.cons (.v _) (.cons (.v _) .nil)) ?_;with_reducible refine aB ?_;simp (disch:=omega) only [push_cast,↓Int.cast_ofNat_Int,simprocAttr]
 refine hK _ ?_;refine zA ?_;refine zW ?_;simp only [yA,yM,yH,yE,aA,aC,yK,yJ,zS,zM,Nat.reduceEqDiff,reduceIte,reduceCtorEq];exact aL rfl
set_option maxHeartbeats 1000000 in
theorem qPh (A H S:List Ent) (out:LN) (p:ByteArray) (n:Int) (hl:out.length≤1000000):HFunS Tryz.prog 62 [.ptr 0 4 0 0,.v (.string p),.v (.int .i64 n)] (wgS A H S out) (fun h st=>h=.tup []∧st=wgS A H S (out ++ [(p,n)])):=by
 refine qMc (N:=18) Tryz.func62 rfl Tryz.ntmps62 Tryz.results62 (by simp) ?_
 refine zJ (fun K hK=>?_);simp (disch:=omega) only [push_cast,↓Int.cast_ofNat_Int,simprocAttr,qC,qDt,qUo];(repeat refine ⟨by first|omega|decide|((repeat' apply And.intro) <;> first|omega|decide),?_⟩);refine hK _ ?_
 skip
 simp only [aX,cV,yH,yE,yK,yJ,eM,zS,zM,Nat.reduceEqDiff,reduceIte,reduceCtorEq];refine mG [0,1] (by decide) (by decide) (by simp only [push_cast,simprocAttr]) (by simp only [push_cast,simprocAttr]) (by simp only [push_cast,simprocAttr];rfl) (by simp only [push_cast,simprocAttr];rfl) ?_
 exact ⟨rfl,rfl⟩
end Go.Proofs.YtdfjeokjmigkaaaGreat
end
section
namespace Go.Tr
open Go Go.Sort Go.Proofs
def qYm (out:List ByteArray) (s:ByteArray):List ByteArray:=out.takeWhile (fun x=>!blt s x) ++ s :: out.dropWhile (fun x=>!blt s x)
def zBl (l:List ByteArray):List ByteArray:=l.foldl qYm []
def wT (t:List ByteArray):Prop:=t.Pairwise fun x y=>blt y x=false
theorem zD7 {a b c:ByteArray} (h1:blt b a=false) (h2:blt c b=false):blt c a=false:=by
 cases e:blt c a with
|false=>rfl
|true =>
  rcases qEa a b with h|h|h
  ·rw [pX e h] at h2;cases h2
  ·rw [← h,e] at h2;cases h2
  ·rw [h] at h1;cases h1
theorem qYl {s:ByteArray}:∀ {out:List ByteArray},wT out→wT (qYm out s):=by
 intro out h;unfold qYm
 induction out with
|nil=>simp [wT]
|cons x r ih =>
  obtain ⟨hx,hr⟩:=List.pairwise_cons.1 h
  cases hb:blt s x with
 |false =>
   simp only [List.takeWhile_cons,List.dropWhile_cons,hb,Bool.not_false,if_true,List.cons_append];refine List.pairwise_cons.2 ⟨fun y hy=>?_,ih hr⟩
   rcases List.mem_append.1 hy with hy|hy
   ·exact hx y ((List.takeWhile_sublist _).subset hy)
   ·rcases List.mem_cons.1 hy with rfl|hy
    ·exact hb
    ·exact hx y ((List.dropWhile_sublist _).subset hy)
 |true =>
   simp only [List.takeWhile_cons,List.dropWhile_cons,hb,Bool.not_true,Bool.false_eq_true,if_false,List.nil_append];refine List.pairwise_cons.2 ⟨fun y hy=>?_,h⟩
   rcases List.mem_cons.1 hy with rfl|hy
   ·exact qAz hb
   ·exact zD7 (qAz hb) (hx y hy)
theorem zEs (out:List ByteArray) (s:ByteArray):(qYm out s).Perm (s :: out):=by
 unfold qYm;refine List.perm_middle.trans (List.Perm.cons s ?_);rw [List.takeWhile_append_dropWhile]
theorem qJu:∀ (t out:List ByteArray),wT out→wT (t.foldl qYm out)
|[],out,h=>h
|e :: t,out,h=>by rw [List.foldl_cons];exact qJu t _ (qYl h)
theorem qMi:∀ (t out:List ByteArray),(t.foldl qYm out).Perm (out ++ t)
|[],out=>by simp
|e :: t,out=>by
  rw [List.foldl_cons];refine (qMi t _).trans ?_;refine (List.Perm.append_right t (zEs out e)).trans ?_;exact (List.perm_middle (l₁:=out)).symm
theorem qS6 (t:List ByteArray):wT (zBl t):=qJu t [] .nil
theorem qW3 (t:List ByteArray):(zBl t).Perm t:=qMi t []
theorem qS7 {l X:List ByteArray} (h:wT X) (hp:X.Perm l):X=zBl l:=by
 refine List.Perm.eq_of_pairwise (le:=fun x y:ByteArray=>blt y x=false) (fun a b ha hb h1 h2=>?_) h (qS6 l) (hp.trans (qW3 l).symm)
 rcases qEa a b with h|h|h
 ·rw [h] at h2;cases h2
 ·exact h
 ·rw [h] at h1;cases h1
def byL (l:List ByteArray):List (List UInt8):=l.map fun s=>s.data.toList
theorem zMb (l:List ByteArray):(byL l).map (fun x=>(⟨x.toArray⟩:ByteArray))=l:=by
 unfold byL;rw [List.map_map]
 conv=>rhs;rw [← List.map_id l]
 exact List.map_congr_left fun s _=>rfl
theorem qUc (l:List ByteArray):((byL l).mergeSort fun x y=>decide (x≤y)).map (fun x=>(⟨x.toArray⟩:ByteArray))=zBl l:=by
 refine qS7 ?_ ?_
 ·unfold wT;rw [List.pairwise_map]
  have h:=List.pairwise_mergeSort (le:=fun x y:List UInt8=>decide (x≤y)) (fun a b c h1 h2=>by
   simp only [decide_eq_true_eq] at *;exact List.le_trans h1 h2) (fun a b=>by
   simp only [Bool.or_eq_true,decide_eq_true_eq];exact List.le_total a b) (byL l)
  refine h.imp fun {a b} hab=>?_
  simp only [decide_eq_true_eq] at hab;rw [blt,Lib.toList_data,Lib.toList_data,bytesLess_eq,decide_eq_false_iff_not];exact List.not_lt.2 hab
 ·have:=(List.mergeSort_perm (byL l) fun x y=>decide (x≤y)).map (fun x=>(⟨x.toArray⟩:ByteArray))
  rwa [zMb] at this
end Go.Tr
end
section
namespace Go.Dk
open Go Go.Tr Go.Eng Go.RowKit Go.Maps Go.Sort Go.Proofs
def jS {α:Type} (L:List (ByteArray × α)):List ByteArray:=L.map (·.1)
theorem qYi {α:Type} {L:List (ByteArray × α)} (h:qJ0 L):wT (jS L):=by
 unfold wT jS;rw [List.pairwise_map];exact h.imp fun {a b} hab=>by
  cases e:blt b.1 a.1 with
 |false=>rfl
 |true=>have:=pX hab e;rw [qBq] at this;cases this
theorem qYh {α:Type} {L:List (ByteArray × α)} (h:qJ0 L):(byL (jS L)).Nodup:=by
 unfold byL jS;rw [List.map_map];refine List.pairwise_map.2 (h.imp fun {a b} hab e=>?_)
 have:a.1=b.1:=jF e
 rw [this,qBq] at hab;cases hab
theorem zJ1 {α:Type} {f:α→Value} {L:List (ByteArray × α)} {P:Program} {k:TypeId} {w:World} {b n:Nat} {D:DataW Value} (hR:qJ0 L) (hr:Reads D (tab f L)) (hown:w.ownsMap P k qP5 b n D) (hk:P.underlying k=some .string)
  {ss:List (List UInt8)} (hp:ss.Perm (strKeys D)):(ss.mergeSort fun x y=>decide (x≤y)).map encStr=(jS L).map (fun s=>Value.string s)∧ss.length=L.length:=by
 have hC:Collected D (fun _=>false) (byL (jS L)):=⟨qYh hR,fun x=>by
  rw [hr.has];simp only [and_true];rw [tab,Option.isSome_map];constructor
  ·intro hx;obtain ⟨s,hs,rfl⟩:=List.mem_map.1 hx;obtain ⟨e,he,rfl⟩:=List.mem_map.1 hs;rw [qV,qPz hR he];rfl
  ·intro hx
   cases hl:jJ L (mkB x) with
  |none=>rw [hl] at hx;cases hx
  |some y =>
    refine List.mem_map.2 ⟨mkB x,List.mem_map.2 ⟨_,qHo hl,rfl⟩,?_⟩;exact (qYb.1 rfl).symm⟩
 have hC2:=hC.perm hown (string_keyed hk) hk fun _=>rfl
 have hpp:=hp.trans hC2.symm
 refine ⟨?_,by rw [hpp.length_eq];simp [byL,jS]⟩
 have e1:(ss.mergeSort fun x y=>decide (x≤y))=(byL (jS L)).mergeSort fun x y=>decide (x≤y):=mergeSort_of_perm hpp
 rw [e1]
 have e2:=qUc (jS L)
 rw [← qS7 (qYi hR) (List.Perm.refl _)] at e2
 have e3:=congrArg (List.map fun s:ByteArray=>Value.string s) e2
 rw [List.map_map] at e3;rw [← e3];exact List.map_congr_left fun x _=>rfl
end Go.Dk
namespace Go.Eng
open Go Go.RowKit Go.Maps Go.Sort Go.Dk Go.Proofs
section
variable {P:Program} {N:Nat} {all more:List Oper} {Q:wN} {g:MS} {S:HS}
theorem Good.setE {c:Ctx} {l:Env} {w:World} {ρ:Nat→Value} {xs:Nat→List Value} {v:Value} {h:HV} (G:Good c S (lk l) w ρ xs) (hr:RepH w (c.A ρ S.st) c.n0 ρ v h) (d:Nat):Good c (S.set (some d) h) (lk (stp (some d) v l)) w ρ xs:=by
 refine ⟨G.rows,G.apart,fun k x hk=>?_,G.kept,G.a0⟩
 simp only [HS.set,hlk] at hk;simp only [stp,lk]
 by_cases e:d=k
 ·rw [if_pos e] at hk ⊢;simp only [Option.some.injEq] at hk;subst hk;exact ⟨v,rfl,hr⟩
 ·rw [if_neg e] at hk ⊢;exact G.env k x hk
theorem zMn {α:Type} {f:α→Value} {L:List (ByteArray × α)} {o1 o2:Oper} {m:Operand} {fK fS fI tM t1 t2 d1 d2 i r n kT:Nat} (nid:Nat) (hR:qJ0 L) (hn:n≤1099511627776) (hk:P.underlying kT=some .string)
  (h1:o1.op=.call ⟨.value (.func fK),#[m],#[t1]⟩) (h2:o2.op=.call ⟨.value (.func fS),#[.tmp d1],#[t2]⟩) (hg1:o1.guard=none) (hg2:o2.guard=none) (hd1:o1.dst=some d1) (hd2:o2.dst=some d2) (hl1:hU N (some d1)=true) (hl2:hU N (some d2)=true)
  (hc1:aE P fK=true) (hc2:aE P fS=true)
  (hK:∀ (b:Nat) (W:World),Calls P fK #[.map (some b)] W (fun e w'=>e=.returned (.func (.func fI) #[] #[.pointer (some ⟨W.heap.size,0,none⟩)])∧w'=W.alloc (.cells #[.map (some b)] tM)))
  (hS:∀ (b nn:Nat) (D0:DataW Value) (w:World) (hown:w.ownsMap P kT qP5 b nn D0) (hmax:Maps.size D0≤maxLen) (hbytes:Maps.size D0 * 16≤140737488355328),
   Calls P fS #[.func (.func fI) #[] #[.pointer (some ⟨w.heap.size,0,none⟩)]] (w.alloc (.cells #[.map (some b)] tM)) fun e w'=>∃ (v:Value) (ss:List (List UInt8)),e=.returned v∧ss.Perm (strKeys D0) ∧
    w'.ownsRow (w.alloc (.cells #[.map (some b)] tM)).heap.size kT 1 v ss.length ((ss.mergeSort (fun x y=>decide (x≤y))).map encStr)∧(v=.slice none 0 0↔ss=[])∧Below (w.alloc (.cells #[.map (some b)] tM)).heap.size (w.alloc (.cells #[.map (some b)] tM)) w')
  (hi:g[i]?=some (.map r kT n (tab f L))) (hm:hev S.env m=some (.v (.map (some r))))
  (h:HVM P N all Q more g ((((S.kill (only nid)).row nid (.sl true kT 1 (aK (jS L)))).set (some d1) .junk).set (some d2) (.own nid))):HVM P N all Q (o1 :: o2 :: more) g S:=fun c F l w hkk I M=>by
 have I0:=I
 obtain ⟨ρ,xs,G⟩:=I;obtain ⟨vm,m1,m2⟩:=G.ev (bM _ l) hm
 have:=bK m2;subst this
 obtain ⟨D,hown,hrd⟩:=M.ok i _ hi
 have hsz:=hown.size_le
 have hk':∀ v,bY N (stp (some d1) v l)=true:=fun v=>kN hkk (fun k e=>by cases e;exact fA hl1)
 unfold wpList;rw [qE4 I0 F hkk (by rw [hg1];rfl),if_pos rfl]
 have hv1:aY P l o1.op o1.type w (fun u w1=>u=.func (.func fI) #[] #[.pointer (some ⟨w.heap.size,0,none⟩)]∧w1=w.alloc (.cells #[.map (some r)] tM)) (fun u w1=>u=.func (.func fI) #[] #[.pointer (some ⟨w.heap.size,0,none⟩)]∧w1=w.alloc (.cells #[.map (some r)] tM)):=by
  rw [h1];unfold aY
  have e1:evs l [m]=some [.map (some r)]:=by simp only [evs,m1]
  simp only [aJ,cS,e1,G.fn (bM _ _) (show fnH (hev S.env (.func fK))=some fK from rfl)]
  exact ⟨hc1,Calls.mono (hK r w) fun e w' ⟨he,hw⟩=>by subst he;exact rE ⟨rfl,hw⟩⟩
 refine .inl (gW ((kD (fun x X hx=>wL F hkk hx) hv1).mono fun u w1 ⟨e1,e2⟩=>?_))
 subst e1;subst e2;rw [hd1,wQ]
 -- behind the first
 have hB1:Below w.heap.size w (w.alloc (.cells #[.map (some r)] tM)):=(Below.refl _ _).alloc (Nat.le_refl _) _
 have I1:Inv c (S.set (some d1) (.v (.func (.func fI) #[] #[.pointer (some ⟨w.heap.size,0,none⟩)]))) (lk (stp (some d1) (.func (.func fI) #[] #[.pointer (some ⟨w.heap.size,0,none⟩)]) l)) (w.alloc (.cells #[.map (some r)] tM)):=InvV.set ⟨ρ,xs,G.below hB1,.v _⟩ (some d1)
 have hk1:=hk' (.func (.func fI) #[] #[.pointer (some ⟨w.heap.size,0,none⟩)])
 generalize hl':stp (some d1) (.func (.func fI) #[] #[.pointer (some ⟨w.heap.size,0,none⟩)]) l=l1 at I1 hk1 ⊢;unfold wpList;rw [qE4 I1 F hk1 (by rw [hg2];rfl),if_pos rfl]
 have hv2:aY P l1 o2.op o2.type (w.alloc (.cells #[.map (some r)] tM)) (fun u w2=>Own w2 w.heap.size kT 1 u L.length ((jS L).map fun s=>Value.string s)∧Below w.heap.size w w2) (fun u w2=>Own w2 w.heap.size kT 1 u L.length ((jS L).map fun s=>Value.string s)∧Below w.heap.size w w2):=by
  rw [h2];unfold aY
  have e1:evs l1 [.tmp d1]=some [.func (.func fI) #[] #[.pointer (some ⟨w.heap.size,0,none⟩)]]:=by
   subst hl';simp only [evs,ev,stp,lk,if_true]
  obtain ⟨ρ1,xs1,G1⟩:=I1;simp only [aJ,cS,e1,G1.fn (bM _ _) (show fnH (hev _ (.func fS))=some fS from rfl)]
  refine ⟨hc2,Calls.mono (hS r n D w hown (by simp only [maxLen];omega) (by omega)) ?_⟩
  rintro e w2 ⟨v,ss,rfl,hp,hrow,hnil,hB2⟩;obtain ⟨k1,k2⟩:=zJ1 hR hrd hown hk hp;rw [k1,k2] at hrow;refine rE ⟨⟨hrow.1,?_⟩,hB1.trans (hB2.mono (by simp))⟩
  rcases hrow.2 with hx|⟨g',cap,cur,a1,a2,a3⟩
  ·exact .inl hx
  ·exact .inr ⟨g',cap,cur,a1,by simp at a2;omega,a3⟩
 refine .inl (gW ((kD (fun x X hx=>wL F hk1 hx) hv2).mono fun u w2 ⟨hO,hB⟩=>?_))
 rw [hd2,wQ]
 have hk2:bY N (stp (some d2) u l1)=true:=kN hk1 (fun k e=>by cases e;exact fA hl2)
 have hlk:∀ b,u.ownBlock=some b→w.heap.size≤b:=fun b hb=>by
  rcases hO.2 with ⟨rfl,_⟩|⟨g',cap,cur,rfl,a2,_⟩
  ·cases hb
  ·simp only [Value.ownBlock,Option.some.injEq] at hb;subst hb;exact a2
 have Gn:=G.new nid (.sl true kT 1 (aK (jS L))) ((jS L).map fun s=>Value.string s) u hB hlk (fun _ _=>by
  have hlen:(aK (jS L)).length=L.length:=by simp [aK,jS]
  refine ⟨?_,⟨fun x hx=>?_,fun a q ha hq=>?_⟩,fun b hb=>?_⟩
  ·rw [aG];show Own w2 0 kT 1 u (aK (jS L)).length _
   rw [hlen];refine ⟨hO.1,?_⟩
   rcases hO.2 with hx|⟨g',cap,cur,a1,a2,a3⟩
   ·exact .inl hx
   ·exact .inr ⟨g',cap,cur,a1,Nat.zero_le _,a3⟩
  ·obtain ⟨s,_,rfl⟩:=List.mem_map.1 hx;rfl
  ·have ha':a < (jS L).length:=by simpa [aK] using ha
   have hg:(aK (jS L))[a]=[FV.v (.string (jS L)[a])]:=by simp [aK,qB1]
   have hq0:q=0:=by simp only [hg,List.length_cons,List.length_nil] at hq;omega
   subst hq0;refine ⟨.string (jS L)[a],by simp [ha'],rfl,?_⟩
   simp only [hg,List.getElem_cons_zero];exact .v _
  ·rw [aG] at hb
   have:=hlk b hb
   have hw0:=G.kept.size
   have:=c.hn
   exact ⟨.inl (by omega),fun _=>by omega⟩)
 subst hl'
 have Ga:=Gn.setE (v:=.func (.func fI) #[] #[.pointer (some ⟨w.heap.size,0,none⟩)]) (.junk _) d1
 have ro:RepH w2 (c.A (gU ρ nid u) ((((S.kill (only nid)).row nid (.sl true kT 1 (aK (jS L)))).set (some d1) .junk)).st) c.n0 (gU ρ nid u) u (.own nid):=by
  have:=RepH.own (w:=w2) (A:=c.A (gU ρ nid u) ((((S.kill (only nid)).row nid (.sl true kT 1 (aK (jS L)))).set (some d1) .junk)).st) (n0:=c.n0) (ρ:=gU ρ nid u) nid (by
   rw [aG]
   rcases hO.2 with ⟨rfl,_⟩|⟨g',cap,cur,rfl,_⟩ <;> rfl)
  rw [aG] at this;exact this
 have Gb:=Ga.setE ro d2
 exact h c F _ _ hk2 ⟨_,_,Gb⟩ (M.block fun b hb _=>hB.block b hb.lt)
end
end Go.Eng
end
