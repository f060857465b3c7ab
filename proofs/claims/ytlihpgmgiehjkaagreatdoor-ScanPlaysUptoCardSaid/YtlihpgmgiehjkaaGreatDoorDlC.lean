/-
  A call of a disk leaves all other paths ay they are: plain.
-/
import Derived.Test.YtlihpgmgiehjkaaGreatDoorDk
import Derived.Test.YtlihpgmgiehjkaaGreatDoorSrp
set_option linter.unusedSimpArgs false
set_option linter.unusedVariables false
section
namespace Go.Dk
open Go Go.Tr Go.Eng Go.RowKit Go.Maps Go.Sort Go.Proofs
def dG {α:Type} (L:List (ByteArray × α)):List ByteArray:=L.map (·.1)
theorem qZ4 {α:Type} {L:List (ByteArray × α)} (h:eU L):sB (dG L):=by
 unfold sB dG;rw [List.pairwise_map];exact h.imp fun {a b} hab=>by
  cases e:blt b.1 a.1 with
 |false=>rfl
 |true=>have:=sX hab e;rw [jT] at this;cases this
theorem qZ3 {α:Type} {L:List (ByteArray × α)} (h:eU L):(byL (dG L)).Nodup:=by
 unfold byL dG;rw [List.map_map];refine List.pairwise_map.2 (h.imp fun {a b} hab e=>?_)
 have:a.1=b.1:=kE e
 rw [this,jT] at hab;cases hab
theorem zJj {α:Type} {f:α→Value} {L:List (ByteArray × α)} {P:Program} {k:TypeId} {w:World} {b n:Nat} {D:DataW Value} (hR:eU L) (hr:Reads D (tab f L)) (hown:w.ownsMap P k pT b n D) (hk:P.underlying k=some .string)
  {ss:List (List UInt8)} (hp:ss.Perm (strKeys D)):(ss.mergeSort fun x y=>decide (x≤y)).map encStr=(dG L).map (fun s=>Value.string s)∧ss.length=L.length:=by
 have hC:Collected D (fun _=>false) (byL (dG L)):=⟨qZ3 hR,fun x=>by
  rw [hr.has];simp only [and_true];rw [tab,Option.isSome_map];constructor
  ·intro hx;obtain ⟨s,hs,rfl⟩:=List.mem_map.1 hx;obtain ⟨e,he,rfl⟩:=List.mem_map.1 hs;rw [iZ,dX hR he];rfl
  ·intro hx
   cases hl:aS L (mkB x) with
  |none=>rw [hl] at hx;cases hx
  |some y =>
    refine List.mem_map.2 ⟨mkB x,List.mem_map.2 ⟨_,cP hl,rfl⟩,?_⟩;exact (qLb.1 rfl).symm⟩
 have hC2:=hC.perm hown (string_keyed hk) hk fun _=>rfl
 have hpp:=hp.trans hC2.symm
 refine ⟨?_,by rw [hpp.length_eq];simp [byL,dG]⟩
 have e1:(ss.mergeSort fun x y=>decide (x≤y))=(byL (dG L)).mergeSort fun x y=>decide (x≤y):=mergeSort_of_perm hpp
 rw [e1]
 have e2:=qGm (dG L)
 rw [← qJv (qZ4 hR) (List.Perm.refl _)] at e2
 have e3:=congrArg (List.map fun s:ByteArray=>Value.string s) e2
 rw [List.map_map] at e3;rw [← e3];exact List.map_congr_left fun x _=>rfl
end Go.Dk
namespace Go.Eng
open Go Go.RowKit Go.Maps Go.Sort Go.Dk Go.Proofs
section
variable {P:Program} {N:Nat} {all more:List Oper} {Q:kF} {g:MS} {S:HS}
theorem Good.setE {c:Ctx} {l:Env} {w:World} {ρ:Nat→Value} {xs:Nat→List Value} {v:Value} {h:HV} (G:Good c S (lk l) w ρ xs) (hr:RepH w (c.A ρ S.st) c.n0 ρ v h) (d:Nat):Good c (S.set (some d) h) (lk (stp (some d) v l)) w ρ xs:=by
 refine ⟨G.rows,G.apart,fun k x hk=>?_,G.kept,G.a0⟩
 simp only [HS.set,hlk] at hk;simp only [stp,lk]
 by_cases e:d=k
 ·rw [if_pos e] at hk ⊢;simp only [Option.some.injEq] at hk;subst hk;exact ⟨v,rfl,hr⟩
 ·rw [if_neg e] at hk ⊢;exact G.env k x hk
theorem qY0 {α:Type} {f:α→Value} {L:List (ByteArray × α)} {o1 o2:Oper} {m:Operand} {fK fS fI tM t1 t2 d1 d2 i r n kT:Nat} (nid:Nat) (hR:eU L) (hn:n≤1099511627776) (hk:P.underlying kT=some .string)
  (h1:o1.op=.call ⟨.value (.func fK),#[m],#[t1]⟩) (h2:o2.op=.call ⟨.value (.func fS),#[.tmp d1],#[t2]⟩) (hg1:o1.guard=none) (hg2:o2.guard=none) (hd1:o1.dst=some d1) (hd2:o2.dst=some d2) (hl1:eQ N (some d1)=true) (hl2:eQ N (some d2)=true)
  (hc1:aK P fK=true) (hc2:aK P fS=true)
  (hK:∀ (b:Nat) (W:World),Calls P fK #[.map (some b)] W (fun e w'=>e=.returned (.func (.func fI) #[] #[.pointer (some ⟨W.heap.size,0,none⟩)])∧w'=W.alloc (.cells #[.map (some b)] tM)))
  (hS:∀ (b nn:Nat) (D0:DataW Value) (w:World) (hown:w.ownsMap P kT pT b nn D0) (hmax:Maps.size D0≤maxLen) (hbytes:Maps.size D0 * 16≤140737488355328),
   Calls P fS #[.func (.func fI) #[] #[.pointer (some ⟨w.heap.size,0,none⟩)]] (w.alloc (.cells #[.map (some b)] tM)) fun e w'=>∃ (v:Value) (ss:List (List UInt8)),e=.returned v∧ss.Perm (strKeys D0) ∧
    w'.ownsRow (w.alloc (.cells #[.map (some b)] tM)).heap.size kT 1 v ss.length ((ss.mergeSort (fun x y=>decide (x≤y))).map encStr)∧(v=.slice none 0 0↔ss=[])∧Below (w.alloc (.cells #[.map (some b)] tM)).heap.size (w.alloc (.cells #[.map (some b)] tM)) w')
  (hi:g[i]?=some (.map r kT n (tab f L))) (hm:hev S.env m=some (.v (.map (some r))))
  (h:HVM P N all Q more g ((((S.kill (only nid)).row nid (.sl true kT 1 (dP (dG L)))).set (some d1) .junk).set (some d2) (.own nid))):HVM P N all Q (o1 :: o2 :: more) g S:=fun c F l w hkk I M=>by
 have I0:=I
 obtain ⟨ρ,xs,G⟩:=I;obtain ⟨vm,m1,m2⟩:=G.ev (bJ _ l) hm
 have:=bN m2;subst this
 obtain ⟨D,hown,hrd⟩:=M.ok i _ hi
 have hsz:=hown.size_le
 have hk':∀ v,bX N (stp (some d1) v l)=true:=fun v=>fP hkk (fun k e=>by cases e;exact gE hl1)
 unfold wpListIn;rw [mU I0 F hkk (by rw [hg1];rfl),if_pos rfl]
 have hv1:bQ P l o1.op o1.type w (fun u w1=>u=.func (.func fI) #[] #[.pointer (some ⟨w.heap.size,0,none⟩)]∧w1=w.alloc (.cells #[.map (some r)] tM)) (fun u w1=>u=.func (.func fI) #[] #[.pointer (some ⟨w.heap.size,0,none⟩)]∧w1=w.alloc (.cells #[.map (some r)] tM)):=by
  rw [h1];unfold bQ
  have e1:evs l [m]=some [.map (some r)]:=by simp only [evs,m1]
  simp only [aY,cC,e1,G.fn (bJ _ _) (show fnH (hev S.env (.func fK))=some fK from rfl)]
  exact ⟨hc1,Calls.mono (hK r w) fun e w' ⟨he,hw⟩=>by subst he;exact qE3 ⟨rfl,hw⟩⟩
 refine (cX ((fV (fun x X hx=>lW F hkk hx) hv1).mono fun u w1 ⟨e1,e2⟩=>?_))
 subst e1;subst e2;rw [hd1,mK]
 -- behind the first
 have hB1:Below w.heap.size w (w.alloc (.cells #[.map (some r)] tM)):=(Below.refl _ _).alloc (Nat.le_refl _) _
 have I1:Inv c (S.set (some d1) (.v (.func (.func fI) #[] #[.pointer (some ⟨w.heap.size,0,none⟩)]))) (lk (stp (some d1) (.func (.func fI) #[] #[.pointer (some ⟨w.heap.size,0,none⟩)]) l)) (w.alloc (.cells #[.map (some r)] tM)):=InvV.set ⟨ρ,xs,G.below hB1,.v _⟩ (some d1)
 have hk1:=hk' (.func (.func fI) #[] #[.pointer (some ⟨w.heap.size,0,none⟩)])
 generalize hl':stp (some d1) (.func (.func fI) #[] #[.pointer (some ⟨w.heap.size,0,none⟩)]) l=l1 at I1 hk1 ⊢;unfold wpListIn;rw [mU I1 F hk1 (by rw [hg2];rfl),if_pos rfl]
 have hv2:bQ P l1 o2.op o2.type (w.alloc (.cells #[.map (some r)] tM)) (fun u w2=>Own w2 w.heap.size kT 1 u L.length ((dG L).map fun s=>Value.string s)∧Below w.heap.size w w2) (fun u w2=>Own w2 w.heap.size kT 1 u L.length ((dG L).map fun s=>Value.string s)∧Below w.heap.size w w2):=by
  rw [h2];unfold bQ
  have e1:evs l1 [.tmp d1]=some [.func (.func fI) #[] #[.pointer (some ⟨w.heap.size,0,none⟩)]]:=by
   subst hl';simp only [evs,ev,stp,lk,if_true]
  obtain ⟨ρ1,xs1,G1⟩:=I1;simp only [aY,cC,e1,G1.fn (bJ _ _) (show fnH (hev _ (.func fS))=some fS from rfl)]
  refine ⟨hc2,Calls.mono (hS r n D w hown (by simp only [maxLen];omega) (by omega)) ?_⟩
  rintro e w2 ⟨v,ss,rfl,hp,hrow,hnil,hB2⟩;obtain ⟨k1,k2⟩:=zJj hR hrd hown hk hp;rw [k1,k2] at hrow;refine qE3 ⟨⟨hrow.1,?_⟩,hB1.trans (hB2.mono (by simp))⟩
  rcases hrow.2 with hx|⟨g',cap,cur,a1,a2,a3⟩
  ·exact .inl hx
  ·exact .inr ⟨g',cap,cur,a1,by simp at a2;omega,a3⟩
 refine (cX ((fV (fun x X hx=>lW F hk1 hx) hv2).mono fun u w2 ⟨hO,hB⟩=>?_))
 rw [hd2,mK]
 have hk2:bX N (stp (some d2) u l1)=true:=fP hk1 (fun k e=>by cases e;exact gE hl2)
 have hlk:∀ b,u.ownBlock=some b→w.heap.size≤b:=fun b hb=>by
  rcases hO.2 with ⟨rfl,_⟩|⟨g',cap,cur,rfl,a2,_⟩
  ·cases hb
  ·simp only [Value.ownBlock,Option.some.injEq] at hb;subst hb;exact a2
 have Gn:=G.new nid (.sl true kT 1 (dP (dG L))) ((dG L).map fun s=>Value.string s) u hB hlk (fun _ _=>by
  have hlen:(dP (dG L)).length=L.length:=by simp [dP,dG]
  refine ⟨?_,⟨fun x hx=>?_,fun a q ha hq=>?_⟩,fun b hb=>?_⟩
  ·rw [bF];show Own w2 0 kT 1 u (dP (dG L)).length _
   rw [hlen];refine ⟨hO.1,?_⟩
   rcases hO.2 with hx|⟨g',cap,cur,a1,a2,a3⟩
   ·exact .inl hx
   ·exact .inr ⟨g',cap,cur,a1,Nat.zero_le _,a3⟩
  ·obtain ⟨s,_,rfl⟩:=List.mem_map.1 hx;rfl
  ·have ha':a < (dG L).length:=by simpa [dP] using ha
   have hg:(dP (dG L))[a]=[FV.v (.string (dG L)[a])]:=by simp [dP,qU5]
   have hq0:q=0:=by simp only [hg,List.length_cons,List.length_nil] at hq;omega
   subst hq0;refine ⟨.string (dG L)[a],by simp [ha'],rfl,?_⟩
   simp only [hg,List.getElem_cons_zero];exact .v _
  ·rw [bF] at hb
   have:=hlk b hb
   have hw0:=G.kept.size
   have:=c.hn
   exact ⟨.inl (by omega),fun _=>by omega⟩)
 subst hl'
 have Ga:=Gn.setE (v:=.func (.func fI) #[] #[.pointer (some ⟨w.heap.size,0,none⟩)]) (.junk _) d1
 have ro:RepH w2 (c.A (iN ρ nid u) ((((S.kill (only nid)).row nid (.sl true kT 1 (dP (dG L)))).set (some d1) .junk)).st) c.n0 (iN ρ nid u) u (.own nid):=by
  have:=RepH.own (w:=w2) (A:=c.A (iN ρ nid u) ((((S.kill (only nid)).row nid (.sl true kT 1 (dP (dG L)))).set (some d1) .junk)).st) (n0:=c.n0) (ρ:=iN ρ nid u) nid (by
   rw [bF]
   rcases hO.2 with ⟨rfl,_⟩|⟨g',cap,cur,rfl,_⟩ <;> rfl)
  rw [bF] at this;exact this
 have Gb:=Ga.setE ro d2
 exact h c F _ _ hk2 ⟨_,_,Gb⟩ (M.block fun b hb _=>hB.block b hb.lt)
end
end Go.Eng
end
section
namespace Go.Dk
open Go Go.Tr Go.Eng
def zH7 (x k:Int) (s:Nat):Int:=IntKind.u64.wrap (bits .xor .u64 x (x.fdiv (2 ^ min s IntKind.u64.bits)) * k)
def qDl (a b:Int):Int :=
 let z:=zH7 (zH7 (IntKind.u64.wrap (a + IntKind.u64.wrap (b * 11400714819323198485))) 13787848793156543929 30) 10723151780598845931 27
 bits .xor .u64 z (z.fdiv (2 ^ min 31 IntKind.u64.bits))
theorem qQy (a b:Int):0≤qDl a b∧qDl a b < 18446744073709551616:=by
 unfold qDl;generalize zH7 _ _ _=z;generalize z.fdiv _=y;show 0≤IntKind.u64.wrap _∧IntKind.u64.wrap _ < _
 rw [IntKind.wrap_u64];omega
def xF (pick:Int) (x:Itm):ByteArray :=
 if x.anew=true then (if 0 < pick.tmod ((x.data.size:Int) + 2) then x.data.extract 0 (pick.tmod ((x.data.size:Int) + 2) - 1).toNat else x.kept)
 else x.data.extract 0 ((x.kept.size:Int) + pick.tmod ((x.data.size:Int) - x.kept.size + 1)).toNat
def qBi (pick:Int) (x:Itm):Itm:={ x with kept:=xF pick x,data:=xF pick x,loose:=false,anew:=false }
def gQ (loss:Int):List ByteArray→Int→Dk→Dk
|[],_,d=>d
|p :: r,n,d=>if (aP d p).loose=true then gQ loss r (n + 1) (jJ d p (qBi (qDl (IntKind.u64.wrap loss) (IntKind.u64.wrap (n + 1))) (aP d p))) else gQ loss r n d
def restart (d:Dk) (loss:Int):Dk:={ gQ loss (dG d.L) 0 d with down:=false,armed:=-1 }
def LoI (x:Itm):Prop:=x.kept.size≤2097152∧x.data.size≤2097152∧(x.anew=false→x.kept.size≤x.data.size)
def Lo (d:Dk):Prop:=∀ p,LoI (aP d p)
theorem qNz {pick:Int} {x:Itm} (h:LoI x):(xF pick x).size≤2097152:=by
 obtain ⟨h1,h2,h3⟩:=h;unfold xF;split
 ·split
  ·rw [ByteArray.size_extract];omega
  ·exact h1
 ·rw [ByteArray.size_extract];omega
theorem zB0 {pick:Int} {x:Itm} (h:LoI x):LoI (qBi pick x):=⟨qNz h,qNz h,fun _=>Nat.le_refl _⟩
theorem zH9 {d:Dk} (h:Lo d) {p:ByteArray} {x:Itm} (hx:LoI x):Lo (jJ d p x):=fun q=>by
 rw [qWn];split
 ·exact hx
 ·exact h q
theorem zNc {d:Dk} {B C:Int} (h:d.Ok B) (hC:1≤C) {p:ByteArray} {x:Itm} (hp:p.size≤1048576) (hx:(x.data.size:Int)≤(aP d p).data.size + C):(jJ d p x).Ok (B + C):=by
 have h1:=h.steps
 have h2:=h.stamps
 have h3:=h.armed
 have h4:=h.size
 have h5:=h.n
 have h6:=h.m
 have ht:=zAt p { x with stamp:=d.stamps + 1 } h.rise
 refine ⟨nF _ _ h.rise,fun e he=>?_,?_,by show ((d.n + 1:Nat):Int)≤_;omega,by show (d.m:Int)≤_;omega,by show 0≤d.steps∧d.steps≤_;omega,by show 0≤d.stamps + 1∧d.stamps + 1≤_;omega,h3⟩
 ·rcases qAf he with rfl|he
  ·exact hp
  ·exact h.keys e he
 ·show tot (put p _ d.L)≤_
  rw [ht]
  have:((aS d.L p).getD itm0).data.size=(aP d p).data.size:=rfl
  rw [this];show tot d.L + (x.data.size:Int) - _≤_
  omega
end Go.Dk
end
section
set_option maxRecDepth 20000
namespace Go.Proofs.YtlihpgmgiehjkaaGreatDoor
open Go Go.Eng Go.RowKit Go.Tr Go.Dk
def gR (d:Dk) (p:ByteArray):List ByteArray:=(d.L.filter fun e=>decide (par e.1=p)).map fun e=>e.1
def dA (d:Dk) (p:ByteArray):Int × Dk :=
 if may d p 0≠0 then (may d p 0,d) else if has d p=false then (11,d) else if gR d p≠[] then (12,d) else if (aW d).1≠0 then aW d else
  (0,{ (aW d).2 with L:=del p d.L })
def cH (d:Dk) (p:ByteArray):Int:=(aP d p).stamp
def rZ (f:ByteArray→ByteArray) (d:Dk) (p:ByteArray):Int × Dk :=
 if gH d p≠0 then (gH d p,d) else (0,jJ d p { aP d p with data:=f (aP d p).data,kept:=f (aP d p).kept })
end Go.Proofs.YtlihpgmgiehjkaaGreatDoor
end
