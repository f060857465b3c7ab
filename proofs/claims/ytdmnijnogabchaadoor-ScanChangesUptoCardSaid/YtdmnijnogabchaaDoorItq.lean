/-
  slices.Sorted(maps.Keys(m)) in a region, with maps beside the state: a new row of the keys ay they rise.
-/
import Derived.Test.YtdmnijnogabchaaDoorTrC
import Derived.Sort.KeysCollected
import Derived.Sort.Walk0
import Derived.Test.YtdmnijnogabchaaDoorMs
import Derived.Test.YtdmnijnogabchaaDoorDk
set_option linter.unusedSimpArgs false
set_option linter.unusedVariables false
section
namespace Go.Tr
open Go Go.Sort Go.Proofs
def qWy (out:List ByteArray) (s:ByteArray):List ByteArray:=out.takeWhile (fun x=>!blt s x) ++ s :: out.dropWhile (fun x=>!blt s x)
def tU (l:List ByteArray):List ByteArray:=l.foldl qWy []
def nZ (t:List ByteArray):Prop:=t.Pairwise fun x y=>blt y x=false
theorem zA2 {a b c:ByteArray} (h1:blt b a=false) (h2:blt c b=false):blt c a=false:=by
 cases e:blt c a with
|false=>rfl
|true =>
  rcases qAm a b with h|h|h
  ·rw [lS e h] at h2;cases h2
  ·rw [← h,e] at h2;cases h2
  ·rw [h] at h1;cases h1
theorem qWx {s:ByteArray}:∀ {out:List ByteArray},nZ out→nZ (qWy out s):=by
 intro out h;unfold qWy
 induction out with
|nil=>simp [nZ]
|cons x r ih =>
  obtain ⟨hx,hr⟩:=List.pairwise_cons.1 h
  cases hb:blt s x with
 |false =>
   simp only [List.takeWhile_cons,List.dropWhile_cons,hb,Bool.not_false,if_true,List.cons_append];refine List.pairwise_cons.2 ⟨fun y hy=>?_,ih hr⟩
   rcases List.mem_append.1 hy with hy|hy
   ·exact hx y ((List.takeWhile_sublist _).subset hy)
   ·rcases List.mem_cons.1 hy with rfl|hy
    ·exact hb
    ·exact hx y ((List.dropWhile_sublist _).subset hy)
 |true =>
   simp only [List.takeWhile_cons,List.dropWhile_cons,hb,Bool.not_true,Bool.false_eq_true,if_false,List.nil_append];refine List.pairwise_cons.2 ⟨fun y hy=>?_,h⟩
   rcases List.mem_cons.1 hy with rfl|hy
   ·exact jN hb
   ·exact zA2 (jN hb) (hx y hy)
theorem zBc (out:List ByteArray) (s:ByteArray):(qWy out s).Perm (s :: out):=by
 unfold qWy;refine List.perm_middle.trans (List.Perm.cons s ?_);rw [List.takeWhile_append_dropWhile]
theorem qDw:∀ (t out:List ByteArray),nZ out→nZ (t.foldl qWy out)
|[],out,h=>h
|e :: t,out,h=>by rw [List.foldl_cons];exact qDw t _ (qWx h)
theorem qJ7:∀ (t out:List ByteArray),(t.foldl qWy out).Perm (out ++ t)
|[],out=>by simp
|e :: t,out=>by
  rw [List.foldl_cons];refine (qJ7 t _).trans ?_;refine (List.Perm.append_right t (zBc out e)).trans ?_;exact (List.perm_middle (l₁:=out)).symm
theorem qR3 (t:List ByteArray):nZ (tU t):=qDw t [] .nil
theorem qEv (t:List ByteArray):(tU t).Perm t:=qJ7 t []
theorem zAl (t:List ByteArray):(tU t).length=t.length:=(qEv t).length_eq
theorem qEw {l X:List ByteArray} (h:nZ X) (hp:X.Perm l):X=tU l:=by
 refine List.Perm.eq_of_pairwise (le:=fun x y:ByteArray=>blt y x=false) (fun a b ha hb h1 h2=>?_) h (qR3 l) (hp.trans (qEv l).symm)
 rcases qAm a b with h|h|h
 ·rw [h] at h2;cases h2
 ·exact h
 ·rw [h] at h1;cases h1
def byL (l:List ByteArray):List (List UInt8):=l.map fun s=>s.data.toList
theorem zFh (l:List ByteArray):(byL l).map (fun x=>(⟨x.toArray⟩:ByteArray))=l:=by
 unfold byL;rw [List.map_map]
 conv=>rhs;rw [← List.map_id l]
 exact List.map_congr_left fun s _=>rfl
theorem qC5 (l:List ByteArray):((byL l).mergeSort fun x y=>decide (x≤y)).map (fun x=>(⟨x.toArray⟩:ByteArray))=tU l:=by
 refine qEw ?_ ?_
 ·unfold nZ;rw [List.pairwise_map]
  have h:=List.pairwise_mergeSort (le:=fun x y:List UInt8=>decide (x≤y)) (fun a b c h1 h2=>by
   simp only [decide_eq_true_eq] at *;exact List.le_trans h1 h2) (fun a b=>by
   simp only [Bool.or_eq_true,decide_eq_true_eq];exact List.le_total a b) (byL l)
  refine h.imp fun {a b} hab=>?_
  simp only [decide_eq_true_eq] at hab;rw [blt,Lib.toList_data,Lib.toList_data,bytesLess_eq,decide_eq_false_iff_not];exact List.not_lt.2 hab
 ·have:=(List.mergeSort_perm (byL l) fun x y=>decide (x≤y)).map (fun x=>(⟨x.toArray⟩:ByteArray))
  rwa [zFh] at this
end Go.Tr
end
section
namespace Go.Dk
open Go Go.Tr Go.Eng Go.RowKit Go.Maps Go.Sort Go.Proofs
def eK {α:Type} (L:List (ByteArray × α)):List ByteArray:=L.map (·.1)
theorem qWv {α:Type} {L:List (ByteArray × α)} (h:pM L):nZ (eK L):=by
 unfold nZ eK;rw [List.pairwise_map];exact h.imp fun {a b} hab=>by
  cases e:blt b.1 a.1 with
 |false=>rfl
 |true=>have:=lS hab e;rw [jU] at this;cases this
theorem qWu {α:Type} {L:List (ByteArray × α)} (h:pM L):(byL (eK L)).Nodup:=by
 unfold byL eK;rw [List.map_map];refine List.pairwise_map.2 (h.imp fun {a b} hab e=>?_)
 have:a.1=b.1:=pG e
 rw [this,jU] at hab;cases hab
theorem zDh {α:Type} {f:α→Value} {L:List (ByteArray × α)} {P:Program} {k:TypeId} {w:World} {b n:Nat} {D:DataW Value} (hR:pM L) (hr:Reads D (tab f L)) (hown:w.ownsMap P k mK b n D) (hk:P.underlying k=some .string)
  {ss:List (List UInt8)} (hp:ss.Perm (strKeys D)):(ss.mergeSort fun x y=>decide (x≤y)).map encStr=(eK L).map (fun s=>Value.string s)∧ss.length=L.length:=by
 have hC:Collected D (fun _=>false) (byL (eK L)):=⟨qWu hR,fun x=>by
  rw [hr.has];simp only [and_true];rw [tab,Option.isSome_map];constructor
  ·intro hx;obtain ⟨s,hs,rfl⟩:=List.mem_map.1 hx;obtain ⟨e,he,rfl⟩:=List.mem_map.1 hs;rw [gP,jE hR he];rfl
  ·intro hx
   cases hl:bM L (mkB x) with
  |none=>rw [hl] at hx;cases hx
  |some y =>
    refine List.mem_map.2 ⟨mkB x,List.mem_map.2 ⟨_,fX hl,rfl⟩,?_⟩;exact (qWn.1 rfl).symm⟩
 have hC2:=hC.perm hown (string_keyed hk) hk fun _=>rfl
 have hpp:=hp.trans hC2.symm
 refine ⟨?_,by rw [hpp.length_eq];simp [byL,eK]⟩
 have e1:(ss.mergeSort fun x y=>decide (x≤y))=(byL (eK L)).mergeSort fun x y=>decide (x≤y):=mergeSort_of_perm hpp
 rw [e1]
 have e2:=qC5 (eK L)
 rw [← qEw (qWv hR) (List.Perm.refl _)] at e2
 have e3:=congrArg (List.map fun s:ByteArray=>Value.string s) e2
 rw [List.map_map] at e3;rw [← e3];exact List.map_congr_left fun x _=>rfl
end Go.Dk
namespace Go.Eng
open Go Go.RowKit Go.Maps Go.Sort Go.Dk Go.Proofs
section
variable {P:Program} {N:Nat} {all more:List Oper} {Q:iD} {g:MS} {S:HS}
theorem Good.setE {c:Ctx} {l:Env} {w:World} {ρ:Nat→Value} {xs:Nat→List Value} {v:Value} {h:HV} (G:Good c S (lk l) w ρ xs) (hr:RepH w (c.A ρ S.st) c.n0 ρ v h) (d:Nat):Good c (S.set (some d) h) (lk (stp (some d) v l)) w ρ xs:=by
 refine ⟨G.rows,G.apart,fun k x hk=>?_,G.kept,G.a0⟩
 simp only [HS.set,hlk] at hk;simp only [stp,lk]
 by_cases e:d=k
 ·rw [if_pos e] at hk ⊢;simp only [Option.some.injEq] at hk;subst hk;exact ⟨v,rfl,hr⟩
 ·rw [if_neg e] at hk ⊢;exact G.env k x hk
theorem zFs {α:Type} {f:α→Value} {L:List (ByteArray × α)} {o1 o2:Oper} {m:Operand} {fK fS fI tM t1 t2 d1 d2 i r n kT:Nat} (nid:Nat) (hR:pM L) (hn:n≤1099511627776) (hk:P.underlying kT=some .string)
  (h1:o1.op=.call ⟨.value (.func fK),#[m],#[t1]⟩) (h2:o2.op=.call ⟨.value (.func fS),#[.tmp d1],#[t2]⟩) (hg1:o1.guard=none) (hg2:o2.guard=none) (hd1:o1.dst=some d1) (hd2:o2.dst=some d2) (hl1:cQ N (some d1)=true) (hl2:cQ N (some d2)=true)
  (hc1:aL P fK=true) (hc2:aL P fS=true)
  (hK:∀ (b:Nat) (W:World),Calls P fK #[.map (some b)] W (fun e w'=>e=.returned (.func (.func fI) #[] #[.pointer (some ⟨W.heap.size,0,none⟩)])∧w'=W.alloc (.cells #[.map (some b)] tM)))
  (hS:∀ (b nn:Nat) (D0:DataW Value) (w:World) (hown:w.ownsMap P kT mK b nn D0) (hmax:Maps.size D0≤maxLen) (hbytes:Maps.size D0 * 16≤140737488355328),
   Calls P fS #[.func (.func fI) #[] #[.pointer (some ⟨w.heap.size,0,none⟩)]] (w.alloc (.cells #[.map (some b)] tM)) fun e w'=>∃ (v:Value) (ss:List (List UInt8)),e=.returned v∧ss.Perm (strKeys D0) ∧
    w'.ownsRow (w.alloc (.cells #[.map (some b)] tM)).heap.size kT 1 v ss.length ((ss.mergeSort (fun x y=>decide (x≤y))).map encStr)∧(v=.slice none 0 0↔ss=[])∧Below (w.alloc (.cells #[.map (some b)] tM)).heap.size (w.alloc (.cells #[.map (some b)] tM)) w')
  (hi:g[i]?=some (.map r kT n (tab f L))) (hm:hev S.env m=some (.v (.map (some r))))
  (h:HVM P N all Q more g ((((S.kill (only nid)).row nid (.sl true kT 1 (bZ (eK L)))).set (some d1) .junk).set (some d2) (.own nid))):HVM P N all Q (o1 :: o2 :: more) g S:=fun c F l w hkk I M=>by
 have I0:=I
 obtain ⟨ρ,xs,G⟩:=I;obtain ⟨vm,m1,m2⟩:=G.ev (aS _ l) hm
 have:=bB m2;subst this
 obtain ⟨D,hown,hrd⟩:=M.ok i _ hi
 have hsz:=hown.size_le
 have hk':∀ v,bF N (stp (some d1) v l)=true:=fun v=>dM hkk (fun k e=>by cases e;exact dN hl1)
 unfold wpListIn;rw [jK I0 F hkk (by rw [hg1];rfl),if_pos rfl]
 have hv1:aX P l o1.op o1.type w (fun u w1=>u=.func (.func fI) #[] #[.pointer (some ⟨w.heap.size,0,none⟩)]∧w1=w.alloc (.cells #[.map (some r)] tM)) (fun u w1=>u=.func (.func fI) #[] #[.pointer (some ⟨w.heap.size,0,none⟩)]∧w1=w.alloc (.cells #[.map (some r)] tM)):=by
  rw [h1];unfold aX
  have e1:evs l [m]=some [.map (some r)]:=by simp only [evs,m1]
  simp only [aK,bG,e1,G.fn (aS _ _) (show fnH (hev S.env (.func fK))=some fK from rfl)]
  exact ⟨hc1,Calls.mono (hK r w) fun e w' ⟨he,hw⟩=>by subst he;exact qAz ⟨rfl,hw⟩⟩
 refine (bY ((eU (fun x X hx=>iM F hkk hx) hv1).mono fun u w1 ⟨e1,e2⟩=>?_))
 subst e1;subst e2;rw [hd1,iY]
 -- behind the first
 have hB1:Below w.heap.size w (w.alloc (.cells #[.map (some r)] tM)):=(Below.refl _ _).alloc (Nat.le_refl _) _
 have I1:Inv c (S.set (some d1) (.v (.func (.func fI) #[] #[.pointer (some ⟨w.heap.size,0,none⟩)]))) (lk (stp (some d1) (.func (.func fI) #[] #[.pointer (some ⟨w.heap.size,0,none⟩)]) l)) (w.alloc (.cells #[.map (some r)] tM)):=InvV.set ⟨ρ,xs,G.below hB1,.v _⟩ (some d1)
 have hk1:=hk' (.func (.func fI) #[] #[.pointer (some ⟨w.heap.size,0,none⟩)])
 generalize hl':stp (some d1) (.func (.func fI) #[] #[.pointer (some ⟨w.heap.size,0,none⟩)]) l=l1 at I1 hk1 ⊢;unfold wpListIn;rw [jK I1 F hk1 (by rw [hg2];rfl),if_pos rfl]
 have hv2:aX P l1 o2.op o2.type (w.alloc (.cells #[.map (some r)] tM)) (fun u w2=>Own w2 w.heap.size kT 1 u L.length ((eK L).map fun s=>Value.string s)∧Below w.heap.size w w2) (fun u w2=>Own w2 w.heap.size kT 1 u L.length ((eK L).map fun s=>Value.string s)∧Below w.heap.size w w2):=by
  rw [h2];unfold aX
  have e1:evs l1 [.tmp d1]=some [.func (.func fI) #[] #[.pointer (some ⟨w.heap.size,0,none⟩)]]:=by
   subst hl';simp only [evs,ev,stp,lk,if_true]
  obtain ⟨ρ1,xs1,G1⟩:=I1;simp only [aK,bG,e1,G1.fn (aS _ _) (show fnH (hev _ (.func fS))=some fS from rfl)]
  refine ⟨hc2,Calls.mono (hS r n D w hown (by simp only [maxLen];omega) (by omega)) ?_⟩
  rintro e w2 ⟨v,ss,rfl,hp,hrow,hnil,hB2⟩;obtain ⟨k1,k2⟩:=zDh hR hrd hown hk hp;rw [k1,k2] at hrow;refine qAz ⟨⟨hrow.1,?_⟩,hB1.trans (hB2.mono (by simp))⟩
  rcases hrow.2 with hx|⟨g',cap,cur,a1,a2,a3⟩
  ·exact .inl hx
  ·exact .inr ⟨g',cap,cur,a1,by simp at a2;omega,a3⟩
 refine (bY ((eU (fun x X hx=>iM F hk1 hx) hv2).mono fun u w2 ⟨hO,hB⟩=>?_))
 rw [hd2,iY]
 have hk2:bF N (stp (some d2) u l1)=true:=dM hk1 (fun k e=>by cases e;exact dN hl2)
 have hlk:∀ b,u.ownBlock=some b→w.heap.size≤b:=fun b hb=>by
  rcases hO.2 with ⟨rfl,_⟩|⟨g',cap,cur,rfl,a2,_⟩
  ·cases hb
  ·simp only [Value.ownBlock,Option.some.injEq] at hb;subst hb;exact a2
 have Gn:=G.new nid (.sl true kT 1 (bZ (eK L))) ((eK L).map fun s=>Value.string s) u hB hlk (fun _ _=>by
  have hlen:(bZ (eK L)).length=L.length:=by simp [bZ,eK]
  refine ⟨?_,⟨fun x hx=>?_,fun a q ha hq=>?_⟩,fun b hb=>?_⟩
  ·rw [aJ];show Own w2 0 kT 1 u (bZ (eK L)).length _
   rw [hlen];refine ⟨hO.1,?_⟩
   rcases hO.2 with hx|⟨g',cap,cur,a1,a2,a3⟩
   ·exact .inl hx
   ·exact .inr ⟨g',cap,cur,a1,Nat.zero_le _,a3⟩
  ·obtain ⟨s,_,rfl⟩:=List.mem_map.1 hx;rfl
  ·have ha':a < (eK L).length:=by simpa [bZ] using ha
   have hg:(bZ (eK L))[a]=[FV.v (.string (eK L)[a])]:=by simp [bZ,qQc]
   have hq0:q=0:=by simp only [hg,List.length_cons,List.length_nil] at hq;omega
   subst hq0;refine ⟨.string (eK L)[a],by simp [ha'],rfl,?_⟩
   simp only [hg,List.getElem_cons_zero];exact .v _
  ·rw [aJ] at hb
   have:=hlk b hb
   have hw0:=G.kept.size
   have:=c.hn
   exact ⟨.inl (by omega),fun _=>by omega⟩)
 subst hl'
 have Ga:=Gn.setE (v:=.func (.func fI) #[] #[.pointer (some ⟨w.heap.size,0,none⟩)]) (.junk _) d1
 have ro:RepH w2 (c.A (eH ρ nid u) ((((S.kill (only nid)).row nid (.sl true kT 1 (bZ (eK L)))).set (some d1) .junk)).st) c.n0 (eH ρ nid u) u (.own nid):=by
  have:=RepH.own (w:=w2) (A:=c.A (eH ρ nid u) ((((S.kill (only nid)).row nid (.sl true kT 1 (bZ (eK L)))).set (some d1) .junk)).st) (n0:=c.n0) (ρ:=eH ρ nid u) nid (by
   rw [aJ]
   rcases hO.2 with ⟨rfl,_⟩|⟨g',cap,cur,rfl,_⟩ <;> rfl)
  rw [aJ] at this;exact this
 have Gb:=Ga.setE ro d2
 exact h c F _ _ hk2 ⟨_,_,Gb⟩ (M.block fun b hb _=>hB.block b hb.lt)
end
end Go.Eng
end
