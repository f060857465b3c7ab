/-
  A row of plain cells in memory: of no program.
-/
import Derived.Test.YtlihpgmgiehjkaaGreatDoorMu
import Derived.Test.YtlihpgmgiehjkaaGreatDoorDk
import Derived.Test.YtlihpgmgiehjkaaGreatDoorSrp
import Derived.Test.YtlihpgmgiehjkaaGreatDoorRcc
import Derived.Sort.Grow
set_option linter.unusedSimpArgs false
set_option linter.unusedVariables false
section
namespace Go.Dk
open Go Go.Tr Go.Eng Go.RowKit Go.Maps Go.Sort Go.Proofs
def dE {α:Type} (L:List (ByteArray × α)):List ByteArray:=L.map (·.1)
theorem qZd {α:Type} {L:List (ByteArray × α)} (h:dW L):rF (dE L):=by
 unfold rF dE;rw [List.pairwise_map];exact h.imp fun {a b} hab=>by
  cases e:blt b.1 a.1 with
 |false=>rfl
 |true=>have:=jL hab e;rw [eD] at this;cases this
theorem qZc {α:Type} {L:List (ByteArray × α)} (h:dW L):(byL (dE L)).Nodup:=by
 unfold byL dE;rw [List.map_map];refine List.pairwise_map.2 (h.imp fun {a b} hab e=>?_)
 have:a.1=b.1:=eM e
 rw [this,eD] at hab;cases hab
theorem zHt {α:Type} {f:α→Value} {L:List (ByteArray × α)} {P:Program} {k:TypeId} {w:World} {b n:Nat} {D:DataW Value} (hR:dW L) (hr:Reads D (tab f L)) (hown:w.ownsMap P k pC b n D) (hk:P.underlying k=some .string)
  {ss:List (List UInt8)} (hp:ss.Perm (strKeys D)):(ss.mergeSort fun x y=>decide (x≤y)).map encStr=(dE L).map (fun s=>Value.string s)∧ss.length=L.length:=by
 have hC:Collected D (fun _=>false) (byL (dE L)):=⟨qZc hR,fun x=>by
  rw [hr.has];simp only [and_true];rw [tab,Option.isSome_map];constructor
  ·intro hx;obtain ⟨s,hs,rfl⟩:=List.mem_map.1 hx;obtain ⟨e,he,rfl⟩:=List.mem_map.1 hs;rw [iD,cN hR he];rfl
  ·intro hx
   cases hl:aH L (mkB x) with
  |none=>rw [hl] at hx;cases hx
  |some y =>
    refine List.mem_map.2 ⟨mkB x,List.mem_map.2 ⟨_,cB hl,rfl⟩,?_⟩;exact (qKi.1 rfl).symm⟩
 have hC2:=hC.perm hown (string_keyed hk) hk fun _=>rfl
 have hpp:=hp.trans hC2.symm
 refine ⟨?_,by rw [hpp.length_eq];simp [byL,dE]⟩
 have e1:(ss.mergeSort fun x y=>decide (x≤y))=(byL (dE L)).mergeSort fun x y=>decide (x≤y):=mergeSort_of_perm hpp
 rw [e1]
 have e2:=qF4 (dE L)
 rw [← qH1 (qZd hR) (List.Perm.refl _)] at e2
 have e3:=congrArg (List.map fun s:ByteArray=>Value.string s) e2
 rw [List.map_map] at e3;rw [← e3];exact List.map_congr_left fun x _=>rfl
end Go.Dk
namespace Go.Eng
open Go Go.RowKit Go.Maps Go.Sort Go.Dk Go.Proofs
section
variable {P:Program} {N:Nat} {all more:List Oper} {Q:iK} {g:MS} {S:HS}
theorem Good.setE {c:Ctx} {l:Env} {w:World} {ρ:Nat→Value} {xs:Nat→List Value} {v:Value} {h:HV} (G:Good c S (lk l) w ρ xs) (hr:RepH w (c.A ρ S.st) c.n0 ρ v h) (d:Nat):Good c (S.set (some d) h) (lk (stp (some d) v l)) w ρ xs:=by
 refine ⟨G.rows,G.apart,fun k x hk=>?_,G.kept,G.a0⟩
 simp only [HS.set,hlk] at hk;simp only [stp,lk]
 by_cases e:d=k
 ·rw [if_pos e] at hk ⊢;simp only [Option.some.injEq] at hk;subst hk;exact ⟨v,rfl,hr⟩
 ·rw [if_neg e] at hk ⊢;exact G.env k x hk
theorem qX9 {α:Type} {f:α→Value} {L:List (ByteArray × α)} {o1 o2:Oper} {m:Operand} {fK fS fI tM t1 t2 d1 d2 i r n kT:Nat} (nid:Nat) (hR:dW L) (hn:n≤1099511627776) (hk:P.underlying kT=some .string)
  (h1:o1.op=.call ⟨.value (.func fK),#[m],#[t1]⟩) (h2:o2.op=.call ⟨.value (.func fS),#[.tmp d1],#[t2]⟩) (hg1:o1.guard=none) (hg2:o2.guard=none) (hd1:o1.dst=some d1) (hd2:o2.dst=some d2) (hl1:dM N (some d1)=true) (hl2:dM N (some d2)=true)
  (hc1:aK P fK=true) (hc2:aK P fS=true)
  (hK:∀ (b:Nat) (W:World),Calls P fK #[.map (some b)] W (fun e w'=>e=.returned (.func (.func fI) #[] #[.pointer (some ⟨W.heap.size,0,none⟩)])∧w'=W.alloc (.cells #[.map (some b)] tM)))
  (hS:∀ (b nn:Nat) (D0:DataW Value) (w:World) (hown:w.ownsMap P kT pC b nn D0) (hmax:Maps.size D0≤maxLen) (hbytes:Maps.size D0 * 16≤140737488355328),
   Calls P fS #[.func (.func fI) #[] #[.pointer (some ⟨w.heap.size,0,none⟩)]] (w.alloc (.cells #[.map (some b)] tM)) fun e w'=>∃ (v:Value) (ss:List (List UInt8)),e=.returned v∧ss.Perm (strKeys D0) ∧
    w'.ownsRow (w.alloc (.cells #[.map (some b)] tM)).heap.size kT 1 v ss.length ((ss.mergeSort (fun x y=>decide (x≤y))).map encStr)∧(v=.slice none 0 0↔ss=[])∧Below (w.alloc (.cells #[.map (some b)] tM)).heap.size (w.alloc (.cells #[.map (some b)] tM)) w')
  (hi:g[i]?=some (.map r kT n (tab f L))) (hm:hev S.env m=some (.v (.map (some r))))
  (h:HVM P N all Q more g ((((S.kill (only nid)).row nid (.sl true kT 1 (dG (dE L)))).set (some d1) .junk).set (some d2) (.own nid))):HVM P N all Q (o1 :: o2 :: more) g S:=fun c F l w hkk I M=>by
 have I0:=I
 obtain ⟨ρ,xs,G⟩:=I;obtain ⟨vm,m1,m2⟩:=G.ev (aY _ l) hm
 have:=bD m2;subst this
 obtain ⟨D,hown,hrd⟩:=M.ok i _ hi
 have hsz:=hown.size_le
 have hk':∀ v,bH N (stp (some d1) v l)=true:=fun v=>dV hkk (fun k e=>by cases e;exact eC hl1)
 unfold wpListIn;rw [iX I0 F hkk (by rw [hg1];rfl),if_pos rfl]
 have hv1:bK P l o1.op o1.type w (fun u w1=>u=.func (.func fI) #[] #[.pointer (some ⟨w.heap.size,0,none⟩)]∧w1=w.alloc (.cells #[.map (some r)] tM)) (fun u w1=>u=.func (.func fI) #[] #[.pointer (some ⟨w.heap.size,0,none⟩)]∧w1=w.alloc (.cells #[.map (some r)] tM)):=by
  rw [h1];unfold bK
  have e1:evs l [m]=some [.map (some r)]:=by simp only [evs,m1]
  simp only [aQ,bY,e1,G.fn (aY _ _) (show fnH (hev S.env (.func fK))=some fK from rfl)]
  exact ⟨hc1,Calls.mono (hK r w) fun e w' ⟨he,hw⟩=>by subst he;exact vU ⟨rfl,hw⟩⟩
 refine (cF ((gH (fun x X hx=>gV F hkk hx) hv1).mono fun u w1 ⟨e1,e2⟩=>?_))
 subst e1;subst e2;rw [hd1,jU]
 -- behind the first
 have hB1:Below w.heap.size w (w.alloc (.cells #[.map (some r)] tM)):=(Below.refl _ _).alloc (Nat.le_refl _) _
 have I1:Inv c (S.set (some d1) (.v (.func (.func fI) #[] #[.pointer (some ⟨w.heap.size,0,none⟩)]))) (lk (stp (some d1) (.func (.func fI) #[] #[.pointer (some ⟨w.heap.size,0,none⟩)]) l)) (w.alloc (.cells #[.map (some r)] tM)):=InvV.set ⟨ρ,xs,G.below hB1,.v _⟩ (some d1)
 have hk1:=hk' (.func (.func fI) #[] #[.pointer (some ⟨w.heap.size,0,none⟩)])
 generalize hl':stp (some d1) (.func (.func fI) #[] #[.pointer (some ⟨w.heap.size,0,none⟩)]) l=l1 at I1 hk1 ⊢;unfold wpListIn;rw [iX I1 F hk1 (by rw [hg2];rfl),if_pos rfl]
 have hv2:bK P l1 o2.op o2.type (w.alloc (.cells #[.map (some r)] tM)) (fun u w2=>Own w2 w.heap.size kT 1 u L.length ((dE L).map fun s=>Value.string s)∧Below w.heap.size w w2) (fun u w2=>Own w2 w.heap.size kT 1 u L.length ((dE L).map fun s=>Value.string s)∧Below w.heap.size w w2):=by
  rw [h2];unfold bK
  have e1:evs l1 [.tmp d1]=some [.func (.func fI) #[] #[.pointer (some ⟨w.heap.size,0,none⟩)]]:=by
   subst hl';simp only [evs,ev,stp,lk,if_true]
  obtain ⟨ρ1,xs1,G1⟩:=I1;simp only [aQ,bY,e1,G1.fn (aY _ _) (show fnH (hev _ (.func fS))=some fS from rfl)]
  refine ⟨hc2,Calls.mono (hS r n D w hown (by simp only [maxLen];omega) (by omega)) ?_⟩
  rintro e w2 ⟨v,ss,rfl,hp,hrow,hnil,hB2⟩;obtain ⟨k1,k2⟩:=zHt hR hrd hown hk hp;rw [k1,k2] at hrow;refine vU ⟨⟨hrow.1,?_⟩,hB1.trans (hB2.mono (by simp))⟩
  rcases hrow.2 with hx|⟨g',cap,cur,a1,a2,a3⟩
  ·exact .inl hx
  ·exact .inr ⟨g',cap,cur,a1,by simp at a2;omega,a3⟩
 refine (cF ((gH (fun x X hx=>gV F hk1 hx) hv2).mono fun u w2 ⟨hO,hB⟩=>?_))
 rw [hd2,jU]
 have hk2:bH N (stp (some d2) u l1)=true:=dV hk1 (fun k e=>by cases e;exact eC hl2)
 have hlk:∀ b,u.ownBlock=some b→w.heap.size≤b:=fun b hb=>by
  rcases hO.2 with ⟨rfl,_⟩|⟨g',cap,cur,rfl,a2,_⟩
  ·cases hb
  ·simp only [Value.ownBlock,Option.some.injEq] at hb;subst hb;exact a2
 have Gn:=G.new nid (.sl true kT 1 (dG (dE L))) ((dE L).map fun s=>Value.string s) u hB hlk (fun _ _=>by
  have hlen:(dG (dE L)).length=L.length:=by simp [dG,dE]
  refine ⟨?_,⟨fun x hx=>?_,fun a q ha hq=>?_⟩,fun b hb=>?_⟩
  ·rw [bE];show Own w2 0 kT 1 u (dG (dE L)).length _
   rw [hlen];refine ⟨hO.1,?_⟩
   rcases hO.2 with hx|⟨g',cap,cur,a1,a2,a3⟩
   ·exact .inl hx
   ·exact .inr ⟨g',cap,cur,a1,Nat.zero_le _,a3⟩
  ·obtain ⟨s,_,rfl⟩:=List.mem_map.1 hx;rfl
  ·have ha':a < (dE L).length:=by simpa [dG] using ha
   have hg:(dG (dE L))[a]=[FV.v (.string (dE L)[a])]:=by simp [dG,qT6]
   have hq0:q=0:=by simp only [hg,List.length_cons,List.length_nil] at hq;omega
   subst hq0;refine ⟨.string (dE L)[a],by simp [ha'],rfl,?_⟩
   simp only [hg,List.getElem_cons_zero];exact .v _
  ·rw [bE] at hb
   have:=hlk b hb
   have hw0:=G.kept.size
   have:=c.hn
   exact ⟨.inl (by omega),fun _=>by omega⟩)
 subst hl'
 have Ga:=Gn.setE (v:=.func (.func fI) #[] #[.pointer (some ⟨w.heap.size,0,none⟩)]) (.junk _) d1
 have ro:RepH w2 (c.A (jN ρ nid u) ((((S.kill (only nid)).row nid (.sl true kT 1 (dG (dE L)))).set (some d1) .junk)).st) c.n0 (jN ρ nid u) u (.own nid):=by
  have:=RepH.own (w:=w2) (A:=c.A (jN ρ nid u) ((((S.kill (only nid)).row nid (.sl true kT 1 (dG (dE L)))).set (some d1) .junk)).st) (n0:=c.n0) (ρ:=jN ρ nid u) nid (by
   rw [bE]
   rcases hO.2 with ⟨rfl,_⟩|⟨g',cap,cur,rfl,_⟩ <;> rfl)
  rw [bE] at this;exact this
 have Gb:=Ga.setE ro d2
 exact h c F _ _ hk2 ⟨_,_,Gb⟩ (M.block fun b hb _=>hB.block b hb.lt)
end
end Go.Eng
end
section
namespace Go.Dk
open Go Go.Tr Go.Eng
def zMu (x k:Int) (s:Nat):Int:=IntKind.u64.wrap (bits .xor .u64 x (x.fdiv (2 ^ min s IntKind.u64.bits)) * k)
def qAk (a b:Int):Int :=
 let z:=zMu (zMu (IntKind.u64.wrap (a + IntKind.u64.wrap (b * 11400714819323198485))) 13787848793156543929 30) 10723151780598845931 27
 bits .xor .u64 z (z.fdiv (2 ^ min 31 IntKind.u64.bits))
theorem zEc (a b:Int):0≤qAk a b∧qAk a b < 18446744073709551616:=by
 unfold qAk;generalize zMu _ _ _=z;generalize z.fdiv _=y;show 0≤IntKind.u64.wrap _∧IntKind.u64.wrap _ < _
 rw [IntKind.wrap_u64];omega
def qG1 (pick:Int) (x:Itm):ByteArray :=
 if x.anew=true then (if 0 < pick.tmod ((x.data.size:Int) + 2) then x.data.extract 0 (pick.tmod ((x.data.size:Int) + 2) - 1).toNat else x.kept)
 else x.data.extract 0 ((x.kept.size:Int) + pick.tmod ((x.data.size:Int) - x.kept.size + 1)).toNat
def wJ (pick:Int) (x:Itm):Itm:={ x with kept:=qG1 pick x,data:=qG1 pick x,loose:=false,anew:=false }
def eQ (loss:Int):List ByteArray→Int→Dk→Dk
|[],_,d=>d
|p :: r,n,d=>if (aT d p).loose=true then eQ loss r (n + 1) (pW d p (wJ (qAk (IntKind.u64.wrap loss) (IntKind.u64.wrap (n + 1))) (aT d p))) else eQ loss r n d
def restart (d:Dk) (loss:Int):Dk:={ eQ loss (dE d.L) 0 d with down:=false,armed:=-1 }
def LoI (x:Itm):Prop:=x.kept.size≤2097152∧x.data.size≤2097152∧(x.anew=false→x.kept.size≤x.data.size)
def Lo (d:Dk):Prop:=∀ p,LoI (aT d p)
theorem qNf {pick:Int} {x:Itm} (h:LoI x):(qG1 pick x).size≤2097152:=by
 obtain ⟨h1,h2,h3⟩:=h;unfold qG1;split
 ·split
  ·rw [ByteArray.size_extract];omega
  ·exact h1
 ·rw [ByteArray.size_extract];omega
theorem zMz {pick:Int} {x:Itm} (h:LoI x):LoI (wJ pick x):=⟨qNf h,qNf h,fun _=>Nat.le_refl _⟩
theorem zQf {d:Dk} (h:Lo d) {p:ByteArray} {x:Itm} (hx:LoI x):Lo (pW d p x):=fun q=>by
 rw [qC1];split
 ·exact hx
 ·exact h q
theorem zMt {d:Dk} {B C:Int} (h:d.Ok B) (hC:1≤C) {p:ByteArray} {x:Itm} (hp:p.size≤1048576) (hx:(x.data.size:Int)≤(aT d p).data.size + C):(pW d p x).Ok (B + C):=by
 have h1:=h.steps
 have h2:=h.stamps
 have h3:=h.armed
 have h4:=h.size
 have h5:=h.n
 have h6:=h.m
 have ht:=zAc p { x with stamp:=d.stamps + 1 } h.rise
 refine ⟨jS _ _ h.rise,fun e he=>?_,?_,by show ((d.n + 1:Nat):Int)≤_;omega,by show (d.m:Int)≤_;omega,by show 0≤d.steps∧d.steps≤_;omega,by show 0≤d.stamps + 1∧d.stamps + 1≤_;omega,h3⟩
 ·rcases qG he with rfl|he
  ·exact hp
  ·exact h.keys e he
 ·show tot (put p _ d.L)≤_
  rw [ht]
  have:((aH d.L p).getD itm0).data.size=(aT d p).data.size:=rfl
  rw [this];show tot d.L + (x.data.size:Int) - _≤_
  omega
end Go.Dk
end
section
set_option maxRecDepth 20000
namespace Go.Proofs.YtlihpgmgiehjkaaGreatDoor
open Go Go.Eng Go.RowKit Go.Tr Go.Dk
def eY (d:Dk) (p:ByteArray):List ByteArray:=(d.L.filter fun e=>decide (par e.1=p)).map fun e=>e.1
def cS (d:Dk) (p:ByteArray):Int × Dk :=
 if may d p 0≠0 then (may d p 0,d) else if has d p=false then (11,d) else if eY d p≠[] then (12,d) else if (bJ d).1≠0 then bJ d else
  (0,{ (bJ d).2 with L:=del p d.L })
def bS (d:Dk) (p:ByteArray):Int:=(aT d p).stamp
def zMf (f:ByteArray→ByteArray) (d:Dk) (p:ByteArray):Int × Dk :=
 if file d p≠0 then (file d p,d) else (0,pW d p { aT d p with data:=f (aT d p).data,kept:=f (aT d p).kept })
end Go.Proofs.YtlihpgmgiehjkaaGreatDoor
end
section
set_option maxRecDepth 20000
namespace Go.Proofs.YtlihpgmgiehjkaaGreatDoor
open Go Go.Eng Go.RowKit Go.Tr Go.Dk
theorem zL5 (d:Dk) (p:ByteArray) (r1 r2:Nat) (hs:p.size≤1048576):HFunM Tryz.prog 84 [.ptr 0 6 0 0,.v (.string p)] [(0,.bx false 64 (d.cells r1 r2))] (d.maps kS r1 r2) (fun h st g=>h=.v (.int .i64 (bS d p))∧st=[(0,.bx false 64 (d.cells r1 r2))]∧g=d.maps kS r1 r2):=by
 refine kC (N:=14) Tryz.func84 rfl Tryz.ntmps84 Tryz.results84 (by simp) ?_
 simp only [bM];rw [cJ];refine aA ?_;refine aC (fun K hK=>?_);simp (disch:=omega) only [push_cast,↓iC9,simprocAttr];refine hK _ ?_;clear hK K
 refine aA ?_;refine aA ?_;refine aC (fun K hK=>?_);simp (disch:=omega) only [push_cast,↓iC9,simprocAttr];refine hK _ ?_;clear hK K
 refine aB ?_;refine aW rfl ?_;refine aN ?_;refine aA ?_;refine aX ?_;refine aG 5 (fun K1 hK1=>?_);simp (disch:=omega) only [push_cast,↓iC9,simprocAttr];refine hK1 _ ?_;(try clear hK1 K1)
 refine fA (i:=0) mtI rfl rfl rfl rfl rfl rfl (mx hs) ?_;refine aG 2 (fun K1 hK1=>?_);simp (disch:=omega) only [push_cast,↓iC9,simprocAttr,aE,aD,iG,iV];refine hK1 _ ?_;(try clear hK1 K1)
 refine aR ?_
 have hxd:(aH d.L p).getD itm0=aT d p:=rfl
 rw [hxd];refine aB ?_;refine bB ?_;simp only [aJ,aP,yH,yE,yK,yJ,aS,zS,zM,Nat.reduceEqDiff,reduceIte,reduceCtorEq];refine cE [0] [] (by first|rfl|simp [bsL,MO.bs]) (by decide) (by decide) (by simp only [push_cast,simprocAttr]) (by simp only [push_cast,simprocAttr]) (by simp only [push_cast,simprocAttr];rfl) (by simp only [push_cast,simprocAttr];rfl) ?_
 exact ⟨rfl,rfl,rfl⟩
end Go.Proofs.YtlihpgmgiehjkaaGreatDoor
end
section
namespace Go.Eng
open Go Go.RowKit
def pln (cs:List (List Value)):List (List FV):=cs.map (List.map FV.v)
structure Uni (sz:Nat) (cs:List (List Value)):Prop where
 wid:∀ x ∈ cs,x.length=sz
 one:∀ x ∈ cs,∀ v ∈ x,v.oneCell'=true
theorem qG4 (cs:List (List Value)):(pln cs).length=cs.length:=by simp [pln]
theorem qDn {α:Type} {sz:Nat}:∀ {cs:List (List α)},(∀ x ∈ cs,x.length=sz)→cs.flatten.length=cs.length * sz
|[],_=>by simp
|x :: r,h=>by
  rw [List.flatten_cons,List.length_append,qDn (fun y hy=>h y (by simp [hy])),h x (by simp),List.length_cons,Nat.add_mul,Nat.one_mul,Nat.add_comm]
theorem tH {α:Type} {sz:Nat}:∀ {cs:List (List α)} (i:Nat),(∀ x ∈ cs,x.length=sz)→(cs.take i).flatten=cs.flatten.take (i * sz)
|[],i,_=>by simp
|x :: r,0,h=>by simp
|x :: r,i + 1,h=>by
  have hx:=h x (by simp)
  rw [List.take_succ_cons,List.flatten_cons,List.flatten_cons,tH i (fun y hy=>h y (by simp [hy])),List.take_append,List.take_of_length_le (l:=x) (by rw [hx,Nat.add_mul];omega),hx,show (i + 1) * sz - sz=i * sz by rw [Nat.add_mul,Nat.one_mul];omega]
theorem qW7 {α:Type} {sz:Nat}:∀ {cs:List (List α)} (i k:Nat),(∀ x ∈ cs,x.length=sz)→(hi:i < cs.length)→k < sz→cs.flatten[i * sz + k]?=cs[i][k]?
|[],i,k,_,hi,_=>by simp at hi
|x :: r,0,k,h,hi,hk=>by
  have hx:=h x (by simp)
  rw [List.flatten_cons,Nat.zero_mul,Nat.zero_add,List.getElem?_append_left (by omega)];rfl
|x :: r,i + 1,k,h,hi,hk=>by
  have hx:=h x (by simp)
  have:=qW7 (cs:=r) i k (fun y hy=>h y (List.mem_cons_of_mem _ hy)) (by simpa using hi) hk
  rw [List.flatten_cons,List.getElem?_append_right (by rw [hx,Nat.add_mul];omega),hx,show (i + 1) * sz + k - sz=i * sz + k by rw [Nat.add_mul,Nat.one_mul];omega,this]
  rfl
theorem qS9 {cs:List (List Value)} {sz i k:Nat} (U:Uni sz cs) (hi:i < (pln cs).length) (hk:k < (pln cs)[i].length):∃ x,(pln cs)[i][k]=.v x∧cs.flatten[i * sz + k]?=some x∧x.oneCell'=true:=by
 have hi':i < cs.length:=by simpa [pln] using hi
 have e:(pln cs)[i]=cs[i].map FV.v:=by simp [pln]
 have hk':k < cs[i].length:=by rw [e] at hk;simpa using hk
 refine ⟨cs[i][k],by simp [e],?_,U.one _ (List.getElem_mem hi') _ (List.getElem_mem hk')⟩
 have hw:=U.wid _ (List.getElem_mem hi')
 rw [qW7 i k U.wid hi' (by omega),List.getElem?_eq_getElem hk']
theorem zQc {w:World} {A:Nat→Prop} {n0 sz:Nat} {arr:List Value} {cs:List (List Value)} (U:Uni sz cs) (h0:0 < sz) (hl:arr.length=cs.length * sz) (h:∀ i k (hi:i < (pln cs).length) (hk:k < (pln cs)[i].length),∃ u,arr[i * sz + k]?=some u∧u.oneCell'=true∧RepF w A n0 u (pln cs)[i][k]):arr=cs.flatten:=by
 apply List.ext_getElem?
 intro p
 by_cases hp:p < cs.length * sz
 ·have h1:p / sz < cs.length:=Nat.div_lt_of_lt_mul (by rw [Nat.mul_comm];exact hp)
  have hi:p / sz < (pln cs).length:=by rw [qG4];exact h1
  have hk:p % sz < (pln cs)[p / sz].length:=by
   have e:(pln cs)[p / sz]=(cs[p / sz]'h1).map FV.v:=by simp [pln]
   rw [e,List.length_map,U.wid _ (List.getElem_mem _)];exact Nat.mod_lt _ h0
  obtain ⟨u,u1,-,u3⟩:=h (p / sz) (p % sz) hi hk;obtain ⟨x,h1,h2,-⟩:=qS9 U hi hk;rw [h1] at u3
  cases u3
  have e:p / sz * sz + p % sz=p:=by rw [Nat.mul_comm];exact Nat.div_add_mod p sz
  rw [e] at u1 h2;rw [u1,h2]
 ·rw [List.getElem?_eq_none (by omega),List.getElem?_eq_none (by rw [qDn U.wid];omega)]
theorem zMe {c:Ctx} {S:HS} {look:Nat→Option Value} {w:World} {ρ:Nat→Value} {xs:Nat→List Value} (G:Good c S look w ρ xs) {id ty sz:Nat} {nw:Bool} {cs:List (List Value)} (U:Uni sz cs) (hz:0 < sz) (hr:rlk S.st id=some (.sl nw ty sz (pln cs))) (h0:0 < cs.length) :
  ∃ g cap cur,ρ id=.slice (some ⟨g,0,none⟩) cs.length cap∧Blk w g cur ty∧cs.length≤cap∧cap≤maxLen∧cur.size=cap * sz∧cur.toList.take (cs.length * sz)=cs.flatten:=by
 obtain ⟨o1,o2,o3⟩:=dB G hr;rw [qG4] at o1;obtain ⟨g,cap,hv,h1,h2,-⟩:=fV o1 h0;rw [hv] at o1;obtain ⟨cur,b1,b2,b3,b4,b5⟩:=yX o1
 have:=zQc U hz o1.1 o3
 exact ⟨g,cap,cur,hv,b1,b2,b3,b4,by rw [b5,this]⟩
theorem Good.turnP {c:Ctx} {S:HS} {look:Nat→Option Value} {w w':World} {ρ:Nat→Value} {xs:Nat→List Value} (G:Good c S look w ρ xs) {id ty sz g cap:Nat} {nw:Bool} {cs0 cs:List (List Value)} (U:Uni sz cs) (hr:rlk S.st id=some (.sl nw ty sz (pln cs0))) (hg:ρ id=.slice (some ⟨g,0,none⟩) cs.length cap)
  (hO:Own w' 0 ty sz (ρ id) cs.length cs.flatten) (k1:w'.os=w.os) (k2:w'.tape=w.tape) (k3:w'.output=w.output) (k4:w.heap.size≤w'.heap.size) (k5:∀ b,b < w.heap.size→b≠g→w'.heap[b]?=w.heap[b]?) :
  Good c ⟨S.env,jM id (.sl nw ty sz (pln cs)) S.st⟩ look w' ρ (fun i=>if i=id then cs.flatten else xs i):=by
 refine G.upds id (.sl nw ty sz (pln cs0)) (.sl nw ty sz (pln cs)) cs.flatten k4 k1 k2 k3 hr rfl (fun b hlt hb=>k5 b hlt fun e=>hb (by rw [hg,e];rfl)) _ (fun i=>jR id _ _ _ hr i) ⟨?_,⟨fun x hx=>?_,fun i k hi hk=>?_⟩,(G.rows id _ hr).new⟩
 ·simpa [Row.ty,Row.sz,Row.len,qG4] using hO
 ·obtain ⟨y,hy,rfl⟩:=List.mem_map.1 hx;rw [List.length_map];exact U.wid y hy
 ·obtain ⟨x,h1,h2,h3⟩:=qS9 U hi hk;exact ⟨x,h2,h3,by rw [h1];exact .v x⟩
theorem Good.fin {c:Ctx} {st:aF} {w w':World} {ρ:Nat→Value} {xs:Nat→List Value} (G:Good c ⟨[],st⟩ (fun _=>none) w ρ xs) (hw:c.w0=w) {nw:Bool} {ty sz:Nat} {cs0 cs:List (List Value)} (U:Uni sz cs) (hr:rlk st 0=some (.sl nw ty sz (pln cs0))) {v:Value}
  (hO:Own w' 0 ty sz v cs.length cs.flatten) (hg:w.grownBy w' (ρ 0).ownBlock) (hb:∀ b,v.ownBlock=some b→w.heap.size≤b∨(ρ 0).ownBlock=some b) :
  Good c ⟨[],[(0,.sl nw ty sz (pln cs))]⟩ (fun _=>none) w' (fun _=>v) (fun _=>cs.flatten):=by
 have hn0:=c.hn
 have hnew:=(G.rows 0 _ hr).new
 refine ⟨fun i r h=>?_,fun i j r s b hne h h'=>?_,fun k h hk=>by simp [hlk] at hk,G.kept.trans (T':=fun b=>(ρ 0).ownBlock=some b) ⟨hg.os,hg.tape,hg.output,hg.size,fun b hlt hne=>hg.block b hlt fun e=>hne e.symm⟩ (fun b hlt hT=>?_),G.a0⟩
 ·simp only [rlk] at h;split at h
  ·rename_i e;simp only [Option.some.injEq] at h;subst h;refine ⟨by simpa [Row.ty,Row.sz,Row.len,qG4] using hO,⟨fun x hx=>?_,fun i k hi hk=>?_⟩,fun b hb'=>?_⟩
   ·obtain ⟨y,hy,rfl⟩:=List.mem_map.1 hx;rw [List.length_map];exact U.wid y hy
   ·obtain ⟨x,h1,h2,h3⟩:=qS9 U hi hk;exact ⟨x,h2,h3,by rw [h1];exact .v x⟩
   ·rcases hb b hb' with h|h
    ·rw [hw] at hn0 ⊢;exact ⟨.inl h,fun _=>by omega⟩
    ·exact hnew b h
  ·cases h
 ·simp only [rlk] at h h';split at h
  ·split at h'
   ·omega
   ·cases h'
  ·cases h
 ·rcases (hnew b hT).1 with h|h
  ·omega
  ·exact h
end Go.Eng
end
