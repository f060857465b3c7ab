/-
  Scan: what a walk goes through; what it makes of the three maps: plain.
-/
import Derived.Shelf.Sort.Plain
import Derived.Shelf.Slices.In.SortNone
import Derived.Test.YtlihpgmgiehjkaaGreatDoorProg
import Derived.Test.YtlihpgmgiehjkaaGreatDoorPln
import Derived.Test.YtlihpgmgiehjkaaGreatDoorSrp
import Derived.Test.YtlihpgmgiehjkaaGreatDoorTrC
import Derived.Test.YtlihpgmgiehjkaaGreatDoorTyS
import Derived.Sort.OwnSorted
import Derived.Sort.Walk0
import Derived.Test.YtlihpgmgiehjkaaGreatDoorDk
set_option linter.unusedSimpArgs false
set_option linter.unusedVariables false
section
namespace Go.Proofs.YtlihpgmgiehjkaaGreatDoor
open Go.Shelf
def Tryz.sortS_ren:Go.Shelf.Ren:=⟨fun|190=>60|125=>95|258=>94|128=>114|129=>115|302=>105|303=>106|304=>107|305=>108|306=>109|307=>110|308=>111|309=>112|310=>113|333=>121|329=>122|330=>123|334=>124|335=>125|336=>126|344=>135|n=>n,fun|31=>58|9=>9|3=>3|46=>119|0=>0|51=>140|53=>98|4=>4|183=>134|182=>133|131=>117|5=>5|218=>143|222=>147|228=>151|229=>152|n=>n,fun|n=>n⟩
theorem Tryz.sortS:Go.Proofs.Lays.n190 Tryz.prog Tryz.sortS_ren:={
 mixed:=by kernel_rfl
 f125:=Tryz.func95.trans (congrArg some (by kernel_rfl))
 f128:=Tryz.func114.trans (congrArg some (by kernel_rfl))
 f129:=Tryz.func115.trans (congrArg some (by kernel_rfl))
 f190:=Tryz.func60.trans (congrArg some (by kernel_rfl))
 f258:=Tryz.func94.trans (congrArg some (by kernel_rfl))
 f302:=Tryz.func105.trans (congrArg some (by kernel_rfl))
 f303:=Tryz.func106.trans (congrArg some (by kernel_rfl))
 f304:=Tryz.func107.trans (congrArg some (by kernel_rfl))
 f305:=Tryz.func108.trans (congrArg some (by kernel_rfl))
 f306:=Tryz.func109.trans (congrArg some (by kernel_rfl))
 f307:=Tryz.func110.trans (congrArg some (by kernel_rfl))
 f308:=Tryz.func111.trans (congrArg some (by kernel_rfl))
 f309:=Tryz.func112.trans (congrArg some (by kernel_rfl))
 f310:=Tryz.func113.trans (congrArg some (by kernel_rfl))
 f329:=Tryz.func122.trans (congrArg some (by kernel_rfl))
 f330:=Tryz.func123.trans (congrArg some (by kernel_rfl))
 f333:=Tryz.func121.trans (congrArg some (by kernel_rfl))
 f334:=Tryz.func124.trans (congrArg some (by kernel_rfl))
 f335:=Tryz.func125.trans (congrArg some (by kernel_rfl))
 f336:=Tryz.func126.trans (congrArg some (by kernel_rfl))
 f344:=Tryz.func135.trans (congrArg some (by kernel_rfl))
 t0:=Tryz.underlying0
 a0:=Tryz.isAgg0
 z0:=Tryz.sizeOf0
 v0:=Tryz.zeroValue0
 t3:=Tryz.underlying3
 a3:=Tryz.isAgg3
 z3:=Tryz.sizeOf3
 v3:=Tryz.zeroValue3
 t4:=Tryz.underlying4
 a4:=Tryz.isAgg4
 z4:=Tryz.sizeOf4
 v4:=Tryz.zeroValue4
 t5:=Tryz.underlying5
 a5:=Tryz.isAgg5
 z5:=Tryz.sizeOf5
 v5:=Tryz.zeroValue5
 t9:=Tryz.underlying9
 a9:=Tryz.isAgg9
 z9:=Tryz.sizeOf9
 v9:=Tryz.zeroValue9
 t31:=Tryz.underlying58
 a31:=Tryz.isAgg58
 z31:=Tryz.sizeOf58
 v31:=Tryz.zeroValue58
 t46:=Tryz.underlying119
 a46:=Tryz.isAgg119
 z46:=Tryz.sizeOf119
 v46:=Tryz.zeroValue119
 t51:=Tryz.underlying140
 a51:=Tryz.isAgg140
 z51:=Tryz.sizeOf140
 v51:=Tryz.zeroValue140
 t53:=Tryz.underlying98
 a53:=Tryz.isAgg98
 z53:=Tryz.sizeOf98
 v53:=Tryz.zeroValue98
 t131:=Tryz.underlying117
 a131:=Tryz.isAgg117
 z131:=Tryz.sizeOf117
 v131:=Tryz.zeroValue117
 t182:=Tryz.underlying133
 a182:=Tryz.isAgg133
 z182:=Tryz.sizeOf133
 v182:=Tryz.zeroValue133
 t183:=Tryz.underlying134
 a183:=Tryz.isAgg134
 z183:=Tryz.sizeOf134
 v183:=Tryz.zeroValue134
 t218:=Tryz.underlying143
 a218:=Tryz.isAgg143
 z218:=Tryz.sizeOf143
 v218:=Tryz.zeroValue143
 t222:=Tryz.underlying147
 a222:=Tryz.isAgg147
 z222:=Tryz.sizeOf147
 v222:=Tryz.zeroValue147
 t228:=Tryz.underlying151
 a228:=Tryz.isAgg151
 z228:=Tryz.sizeOf151
 v228:=Tryz.zeroValue151
 t229:=Tryz.underlying152
 a229:=Tryz.isAgg152
 z229:=Tryz.sizeOf152
 v229:=Tryz.zeroValue152 }
end Go.Proofs.YtlihpgmgiehjkaaGreatDoor
end
section
set_option maxRecDepth 20000
namespace Go.Tr
open Go Go.Eng Go.RowKit Go.Proofs Go.Sort
end Go.Tr
namespace Go.Proofs.YtlihpgmgiehjkaaGreatDoor
open Go Go.Eng Go.RowKit Go.Tr Go.Lib Go.Sort Go.Proofs
def qHu (l:List ByteArray):List (List Value):=l.map fun s=>[Value.string s]
theorem qT5 (l:List ByteArray):Uni 1 (qHu l):=⟨fun x hx=>by obtain ⟨s,-,rfl⟩:=List.mem_map.1 hx;rfl,fun x hx v hv=>by
 obtain ⟨s,-,rfl⟩:=List.mem_map.1 hx;simp only [List.mem_singleton] at hv;subst hv;rfl⟩
theorem qHs (l:List ByteArray):pln (qHu l)=dG l:=by simp [pln,qHu,dG,qT6]
theorem qN7 (l:List ByteArray):(qHu l).flatten=(byL l).map encStr:=by
 induction l with
|nil=>rfl
|cons s r ih=>simp only [qHu,List.map_cons,List.flatten_cons,List.singleton_append,byL] at *;rw [ih]
theorem qHt (l:List ByteArray):(qHu l).length=l.length:=by simp [qHu]
theorem qDz (l:List ByteArray):(byL l).length=l.length:=by simp [byL]
theorem zFz {S:HS} {id:Nat} {nw:Bool} {l:List ByteArray} (hl:l.length≤4194304) {K:HV→HS→Prop} (hr:rlk S.st id=some (.sl nw 9 1 (dG l))) (hK:K (.v (.tuple #[])) ⟨S.env,jM id (.sl nw 9 1 (dG (qAn l))) S.st⟩) :
  HAt Tryz.prog 60 [.own id] S K :=
 ⟨zUi,fun c look w ρ xs vs G R=>by
  obtain ⟨R1,R2⟩:=R
  match vs,R1 with
 |[v0],_ =>
  have r0:=R2 0 (by simp) (by simp)
  simp only [List.getElem_cons_zero] at r0
  cases r0
  by_cases h0:l=[]
  ·subst h0;obtain ⟨o1,o2,o3⟩:=dB G hr;obtain ⟨ad,cap,e0⟩:=oD o1
   have e0':ρ id=.slice ad 0 cap:=e0
   rw [e0'];refine Calls.mono (Any.slices_Sort_string_none Tryz.sortS ad cap w) ?_;rintro e w' ⟨rfl,rfl⟩;exact vU ⟨_,_,hK,ρ,xs,G.same hr,.v _⟩
  ·have hpos:=List.length_pos_iff.2 h0
   obtain ⟨g,cap,cur,e0,b1,b2,b3,b4,b5⟩:=zMe G (qT5 l) (by decide) (by rw [qHs];exact hr) (by rw [qHt];exact hpos)
   rw [qHt] at e0 b2 b5;rw [qN7,Nat.mul_one] at b5;rw [Nat.mul_one] at b4;rw [e0]
   have hb:w.heap[g]?=some (.cells cur 9 (0,0)):=b1
   have hH:Holds encStr w g 0 (byL l).toArray:=holds_of_block hb (by rw [qDz];exact b5)
   have hcon:=Any.slices_Sort_string Tryz.sortS g 0 cap (byL l) w hH b1.lt (by rw [qDz];omega)
   rw [qDz] at hcon;refine Calls.mono hcon ?_;rintro e w' ⟨rfl,n,os,rfl⟩
   have hg:=grownBy_sorted (w:=w) (g:=g) (n:=n) (os:=os) ((byL l).mergeSort fun x y=>decide (x≤y)).toArray
   have ho:=ownsRow_sorted (w:=w) (base:=0) (n:=n) (os:=os) (ss:=byL l) (ts:=(byL l).mergeSort fun x y=>decide (x≤y)) (by simp) (Nat.zero_le g) hb (by rw [qDz];exact b2) b3 (by rw [b4,Nat.mul_one])
   have hf:((byL l).mergeSort fun x y=>decide (x≤y)).map encStr=(qHu (qAn l)).flatten:=by
    rw [← qF4,qN7];generalize (byL l).mergeSort (fun x y=>decide (x≤y))=z
    unfold byL;rw [List.map_map,List.map_map];exact List.map_congr_left fun s _=>rfl
   rw [qDz,hf] at ho
   have hc:l.length=(qHu (qAn l)).length:=by rw [qHt,zDn]
   have G2:=G.turnP (id:=id) (ty:=9) (sz:=1) (nw:=nw) (cs0:=qHu l) (cs:=qHu (qAn l)) (qT5 _) (by rw [qHs];exact hr) (by rw [← hc];exact e0) (w':=grow (putRow encStr (Sort.ahead w n) g 0 ((byL l).mergeSort fun x y=>decide (x≤y)).toArray) os) (by rw [e0,← hc];exact ho) hg.os hg.tape hg.output hg.size (fun b hlt hne=>hg.block b hlt fun e=>hne (Option.some.inj e))
   rw [qHs] at G2;exact vU ⟨_,_,hK,ρ,_,G2,.v _⟩⟩
end Go.Proofs.YtlihpgmgiehjkaaGreatDoor
end
section
set_option maxRecDepth 20000
namespace Go.Proofs.YtlihpgmgiehjkaaGreatDoor
open Go Go.Eng Go.RowKit Go.Tr Go.Dk
structure LiI (L:List (ByteArray × Itm)) (p:ByteArray) (left:List UInt8→Bool) (os:List ByteArray):Prop where
 nd:os.Nodup
 iff:∀ s,s ∈ os↔(aH L s).isSome=true∧left s.data.toList=false∧par s=p
theorem zA9 {q s:ByteArray} (h:q≠s):(q.data.toList == s.data.toList)=false:=by
 rw [beq_eq_false_iff_ne];intro e;exact h (by rw [← iD q,e,iD])
theorem LiI.skip {L:List (ByteArray × Itm)} {p s:ByteArray} {left:List UInt8→Bool} {os:List ByteArray} (h:LiI L p left os) (hn:par s≠p):LiI L p (fun q=>left q && !(q == s.data.toList)) os :=
 ⟨h.nd,fun q=>by
  rw [h.iff q]
  by_cases hq:q=s
  ·subst hq;exact ⟨fun a=>absurd a.2.2 hn,fun a=>absurd a.2.2 hn⟩
  ·simp only [zA9 hq,Bool.not_false,Bool.and_true]⟩
theorem LiI.push {L:List (ByteArray × Itm)} {p s:ByteArray} {left:List UInt8→Bool} {os:List ByteArray} {x:Itm} (h:LiI L p left os) (hx:aH L s=some x) (hl:left s.data.toList=true) (hp:par s=p):LiI L p (fun q=>left q && !(q == s.data.toList)) (os ++ [s]):=by
 have hno:s ∉ os:=fun hm=>by
  have:=((h.iff s).1 hm).2.1
  rw [hl] at this
  cases this
 refine ⟨?_,fun q=>?_⟩
 ·rw [List.nodup_append];exact ⟨h.nd,by simp,fun a ha b hb=>by
   rw [List.mem_singleton] at hb;subst hb;intro e;subst e;exact hno ha⟩
 ·rw [List.mem_append,List.mem_singleton,h.iff q]
  by_cases hq:q=s
  ·subst hq;simp [hx,hp]
  ·simp only [zA9 hq,Bool.not_false,Bool.and_true,hq,or_false]
theorem zK9 (s:ByteArray):∀ (L:List (ByteArray × Itm)),(del s L).length≤L.length
|[]=>Nat.le_refl _
|(k,x) :: r=>by
  have:=zK9 s r
  rw [del];split <;> simp only [List.length_cons] <;> omega
theorem zK8 (s:ByteArray):∀ (L:List (ByteArray × Itm)),(aH L s).isSome=true→(del s L).length + 1≤L.length
|[],h=>by cases h
|(k,x) :: r,h=>by
  have h1:=zK9 s r
  have h2:=zK8 s r
  rw [aH] at h;rw [del];split <;> rename_i hk
  ·simp only [List.length_cons];omega
  ·rw [if_neg hk] at h
   have:=h2 h
   simp only [List.length_cons];omega
theorem qTe:∀ (os:List ByteArray) (L:List (ByteArray × Itm)),os.Nodup→(∀ s ∈ os,(aH L s).isSome=true)→os.length≤L.length
|[],_,_,_=>Nat.zero_le _
|s :: r,L,hn,h=>by
  rw [List.nodup_cons] at hn
  have h1:=qTe r (del s L) hn.2 fun q hq=>by
   have hqs:q≠s:=fun e=>hn.1 (e ▸ hq)
   rw [kA,if_neg hqs];exact h q (List.mem_cons_of_mem _ hq)
  have h2:=zK8 s L (h s (List.mem_cons_self ..))
  simp only [List.length_cons];omega
theorem LiI.len {L:List (ByteArray × Itm)} {p:ByteArray} {left:List UInt8→Bool} {os:List ByteArray} (h:LiI L p left os):os.length≤L.length:=qTe os L h.nd fun s hs=>((h.iff s).1 hs).1
theorem qBc {L:List (ByteArray × Itm)} (hr:dW L) (p:ByteArray):((L.filter fun e=>decide (par e.1=p)).map fun e=>e.1).Pairwise fun a b=>blt a b=true:=by
 rw [List.pairwise_map];exact List.Pairwise.filter _ hr
theorem zM0 {L:List (ByteArray × Itm)} {p:ByteArray} {left:List UInt8→Bool} {os:List ByteArray} (hr:dW L) (h:LiI L p left os) (hz:∀ s,left s=false):qAn os=(L.filter fun e=>decide (par e.1=p)).map fun e=>e.1:=by
 have h1:=qBc hr p
 refine (qH1 (h1.imp fun {a b} h=>?_) ?_).symm
 ·exact gG h
 ·refine (List.perm_ext_iff_of_nodup (h1.imp fun {a b} h e=>?_) h.nd).2 fun q=>?_
  ·subst e
   have:=gG h
   rw [h] at this
   cases this
  ·rw [h.iff q];simp only [List.mem_map,List.mem_filter,decide_eq_true_eq,hz,true_and];constructor
   ·rintro ⟨⟨k,x⟩,⟨hm,hp⟩,rfl⟩;exact ⟨by rw [cN hr hm];rfl,hp⟩
   ·rintro ⟨hs,hp⟩;obtain ⟨x,hx⟩:=Option.isSome_iff_exists.1 hs;exact ⟨(q,x),⟨cB hx,hp⟩,rfl⟩
set_option maxHeartbeats 1000000 in
theorem qY6 (d:Dk) (B:Int) (hd:d.Ok B) (hB:B≤1099511627776) (p:ByteArray) (hp:p.size≤1048576) (hl:d.L.length≤4194304) (r1 r2:Nat) :
  HFunM Tryz.prog 26 [.ptr 0 6 0 0,.v (.string p)] [(0,.bx false 64 (d.cells r1 r2))] (d.maps kS r1 r2) (fun h st g=>h=.own 1∧st=[(0,.bx false 64 (d.cells r1 r2)),(1,.sl true 9 1 (dG (eY d p)))]∧g=d.maps kS r1 r2):=by
 refine kC (N:=31) Tryz.func26 rfl Tryz.ntmps26 Tryz.results26 (by simp) ?_
 obtain ⟨hri,hke,hto,-,-,-,-,-⟩:=hd;obtain ⟨L,R,steps,stamps,armed,down,n,m⟩:=d;simp only at hri hke hto hl;simp only [bM,cJ];refine aA ?_;refine aC (fun K hK=>?_);simp (disch:=omega) only [push_cast,↓iC9,simprocAttr];refine hK _ ?_;clear hK K
 refine aA ?_;refine aC (fun K hK=>?_);simp (disch:=omega) only [push_cast,↓iC9,simprocAttr];refine hK _ ?_;clear hK K
 refine aA ?_;refine aA ?_;refine aC (fun K hK=>?_);simp (disch:=omega) only [push_cast,↓iC9,simprocAttr];refine hK _ ?_;clear hK K
 refine aB ?_;refine aW rfl ?_;refine aN ?_;refine aA ?_;refine aA ?_;refine aX ?_;refine aG 4 (fun K1 hK1=>?_);simp (disch:=omega) only [push_cast,↓iC9,simprocAttr];refine hK1 _ ?_;(try clear hK1 K1)
 refine qSe (i:=0) mtI rfl rfl rfl rfl rfl fun it cnt=>?_
 refine aR ?_;refine aB ?_;refine bG ?_;rw [show ([]:List (List FV))=dG [] from rfl]
 refine mK (ι:=((List UInt8→Bool) × Nat × Option (ByteArray × Value)) × List ByteArray) (fun q=>⟨[(0,.ptr 0 6 0 0),(1,.v (.string p)),(5,.own 56),(15,.v (.pointer (some ⟨it,0,none⟩)))],[(0,.bx false 64 [.v (.map (some r1)),.v (.map (some r2)),.v (.int .i64 steps),.v (.int .i64 stamps),.v (.int .i64 armed),.v (.bool down)]),(56,.sl true 9 1 (dG q.2))]⟩)
  (fun q=>[.itr it r1 kS n (tab Itm.val L) q.1.1 q.1.2.1 q.1.2.2,.map r2 kS m (tab gM R)]) (fun q=>LiI L p q.1.1 q.2) (fun q=>q.1.2.1) [0,1,5,15] [0,56] ((fun s=>(tab Itm.val L s).isSome,cnt,none),[]) rfl rfl ?_ ?_
 ·refine ⟨List.nodup_nil,fun s=>⟨fun h=>(List.not_mem_nil h).elim,fun h=>?_⟩⟩
  have h1:(tab Itm.val L s.data.toList).isSome=false:=h.2.1
  rw [oH,h.1] at h1
  cases h1
 ·rintro ⟨⟨left,cn,cur⟩,os⟩ hI;dsimp only at hI ⊢;refine aA ?_;refine aX ?_;refine qX8 (i:=0) mtI rfl rfl rfl rfl rfl (fun hz=>?_) (fun s w c' hle hM hsz hlt=>?_)
  ·refine aG 1 (fun K1 hK1=>?_);simp (disch:=omega) only [push_cast,↓iC9,simprocAttr,aE,aD];refine hK1 _ ?_;(try clear hK1 K1)
   refine aR ?_;refine aA ?_;refine aW rfl ?_;refine gA ?_;refine cY ?_;refine cY ?_;refine fW ?_;refine aA ?_;refine zC1 (i:=0) rfl ?_
   have hol:=hI.len
   refine aC (fun K hK=>?_);simp (disch:=omega) only [push_cast,↓iC9,simprocAttr]
   refine zFz (l:=os) (by omega) rfl ?_
   with_reducible refine aU ?_;simp (disch:=omega) only [push_cast,↓iC9,simprocAttr]
   refine hK _ ?_;clear hK K;refine aA ?_;refine aC (fun K hK=>?_);simp (disch:=omega) only [push_cast,↓iC9,simprocAttr];refine hK _ ?_;clear hK K
   refine aB ?_;refine bB ?_;simp only [aJ,aP,yH,yE,yK,yJ,aS,zS,zM,Nat.reduceEqDiff,reduceIte,reduceCtorEq];refine cE [0,56] [] (by first|rfl|simp [bsL,MO.bs]) (by decide) (by decide) (by simp only [push_cast,simprocAttr]) (by simp only [push_cast,simprocAttr]) (by simp only [push_cast,simprocAttr];rfl) (by simp only [push_cast,simprocAttr];rfl) ?_
   refine ⟨rfl,?_,rfl⟩;rw [zM0 hri hI hz];rfl
  ·obtain ⟨x,hx,rfl⟩:∃ x,aH L s=some x∧w=x.val:=by
    rw [qA3] at hM
    cases hx:aH L s with
   |none=>rw [hx] at hM;cases hM
   |some x=>rw [hx] at hM;exact ⟨x,rfl,(Option.some.inj hM).symm⟩
   have hss:=hke _ (cB hx)
   refine aG 1 (fun K1 hK1=>?_);simp (disch:=omega) only [push_cast,↓iC9,simprocAttr,aE,aD,qTj,iV];refine hK1 _ ?_;(try clear hK1 K1)
   refine aR ?_;refine aA ?_;refine bX rfl ?_;refine aN ?_;refine aB ?_;refine bG ?_;refine aA ?_;refine aX ?_;refine qSf (i:=0) rfl rfl rfl rfl rfl ?_;refine aG 2 (fun K1 hK1=>?_);simp (disch:=omega) only [push_cast,↓iC9,simprocAttr,aE,aD,qTj,iV];refine hK1 _ ?_;(try clear hK1 K1)
   refine aR ?_;refine aA ?_;refine aC (fun K hK=>?_);simp (disch:=omega) only [push_cast,↓iC9,simprocAttr]
   refine dJ zTb (qUy s hss) (.cons (.v _) .nil) ?_;with_reducible refine aU ?_;simp (disch:=omega) only [push_cast,↓iC9,simprocAttr]
   refine hK _ ?_;clear hK K;refine aB ?_
   by_cases hv:par s=p
   ·refine bA rfl (fun _=>?_) (fun hf=>by simp [hv] at hf)
    have hol:=hI.len
    refine aC (fun K hK=>?_);simp (disch:=omega) only [push_cast,↓iC9,simprocAttr,cX]
    (repeat refine ⟨by first|omega|decide|((repeat' apply And.intro) <;> first|omega|decide),?_⟩)
    refine hK _ ?_;clear hK K;refine aZ ?_;refine aB ?_;refine ⟨((fun q=>left q && !(q == s.data.toList),c',some (s,x.val)),os ++ [s]),?_,rfl,hI.push hx hle hv,hlt⟩
    simp only [dG,List.map_append,List.map_cons,List.map_nil];rfl
   ·refine bA rfl (fun ht=>by simp [hv] at ht) (fun _=>?_)
    refine aN ?_;refine aZ ?_;refine aB ?_;exact ⟨((fun q=>left q && !(q == s.data.toList),c',some (s,x.val)),os),rfl,rfl,hI.skip hv,hlt⟩
end Go.Proofs.YtlihpgmgiehjkaaGreatDoor
end
section
set_option maxRecDepth 20000
namespace Go.Proofs.YtlihpgmgiehjkaaGreatDoor
open Go Go.Eng Go.RowKit Go.Maps Go.Tr Go.Dk
abbrev Nd:=Int × ByteArray
def mC (n:Nd):Value:=.agg #[.int .i64 n.1,.string n.2]
structure Wk where
 F:List (ByteArray × Nd)
 T:List (ByteArray × Int)
 reads:Int
 nf:Nat
 nt:Nat
def cC (v q:ByteArray):ByteArray:=q.extract (v.size + 1) q.size
def Wk.dirW (w:Wk) (o:ByteArray):Wk:={ w with F:=put o (1,ByteArray.empty) w.F,nf:=w.nf + 1 }
def Wk.fileW (w:Wk) (o:ByteArray) (n:Nd) (s:Int) (r:Int):Wk:=⟨put o n w.F,put o s w.T,w.reads + r,w.nf + 1,w.nt + 1⟩
abbrev gL:=ByteArray→Int→Option Nd
def fQ (d:Dk) (v:ByteArray) (kn:gL) (w:Wk) (q:ByteArray):Wk :=
 if iF d q=1 then w.dirW (cC v q) else match kn (cC v q) (bS d q) with
 |some n=>w.fileW (cC v q) n (bS d q) 0
 |none=>w.fileW (cC v q) (2,(lP d q).1) (bS d q) 1
def dP (d:Dk) (v:ByteArray) (kn:gL) (w:Wk) (l:List ByteArray):Wk:=l.foldl (fQ d v kn) w
def vis (d:Dk):Nat→ByteArray→List ByteArray
|0,_=>[]
|k + 1,p=>(eY d p).flatMap fun q=>q :: if iF d q=1 then vis d k q else []
def jH (d:Dk) (k:Nat) (q:ByteArray):List ByteArray:=q :: if iF d q=1 then vis d k q else []
theorem rL (d:Dk) (k:Nat) (p:ByteArray):vis d (k + 1) p=(eY d p).flatMap (jH d k):=rfl
theorem qNz (d:Dk) (v:ByteArray) (kn:gL) (w:Wk) (a b:List ByteArray):dP d v kn w (a ++ b)=dP d v kn (dP d v kn w a) b:=List.foldl_append ..
theorem fD (d:Dk) (v:ByteArray) (kn:gL) (w:Wk) (a:ByteArray) (b:List ByteArray):dP d v kn w (a :: b)=dP d v kn (fQ d v kn w a) b:=rfl
theorem qD4 (d:Dk) (v:ByteArray) (kn:gL) (w:Wk):dP d v kn w []=w:=rfl
theorem zDj (d:Dk) (v:ByteArray) (kn:gL) (w:Wk) (q:ByteArray):(fQ d v kn w q).nf=w.nf + 1∧w.nt≤(fQ d v kn w q).nt∧(fQ d v kn w q).nt≤w.nt + 1∧w.reads≤(fQ d v kn w q).reads∧(fQ d v kn w q).reads≤w.reads + 1:=by
 have file:∀ (o:ByteArray) (n:Nd) (s r:Int),0≤r→r≤1→(w.fileW o n s r).nf=w.nf + 1∧w.nt≤(w.fileW o n s r).nt∧(w.fileW o n s r).nt≤w.nt + 1∧w.reads≤(w.fileW o n s r).reads∧(w.fileW o n s r).reads≤w.reads + 1:=fun o n s r h0 h1 =>
  ⟨rfl,Nat.le_succ _,Nat.le_refl _,by show w.reads≤w.reads + r;omega,by show w.reads + r≤w.reads + 1;omega⟩
 unfold fQ;split
 ·exact ⟨rfl,Nat.le_refl _,Nat.le_succ _,Int.le_refl _,by show w.reads≤w.reads + 1;omega⟩
 ·split
  ·exact file _ _ _ _ (by omega) (by omega)
  ·exact file _ _ _ _ (by omega) (by omega)
theorem qD3 (d:Dk) (v:ByteArray) (kn:gL):∀ (l:List ByteArray) (w:Wk),(dP d v kn w l).nf=w.nf + l.length∧w.nt≤(dP d v kn w l).nt∧(dP d v kn w l).nt≤w.nt + l.length∧w.reads≤(dP d v kn w l).reads∧(dP d v kn w l).reads≤w.reads + l.length
|[],w=>by simp [dP]
|q :: l,w=>by
  rw [fD]
  have h:=qD3 d v kn l (fQ d v kn w q)
  have h1:=zDj d v kn w q
  simp only [List.length_cons];omega
theorem tH {α β:Type} (f:α→List β) (l:List α) {i:Nat} (h:i < l.length):(l.take (i + 1)).flatMap f=(l.take i).flatMap f ++ f l[i]:=by
 rw [List.take_succ_eq_append_getElem h,List.flatMap_append,List.flatMap_cons,List.flatMap_nil,List.append_nil]
theorem qDn {α β:Type} (f:α→List β) (l:List α) (i:Nat):((l.take i).flatMap f).length≤(l.flatMap f).length:=by
 conv=>rhs;rw [← List.take_append_drop i l,List.flatMap_append,List.length_append]
 omega
def Wk.maps (w:Wk) (r3 r4 r5 n3:Nat) (M3:MTab):MS:=[.map r3 85 n3 M3,.map r4 kS w.nf (tab mC w.F),.map r5 kS w.nt (tab gM w.T)]
theorem qBq (w:Wk) (r3 r4 r5 n3:Nat) (M3:MTab):w.maps r3 r4 r5 n3 M3=[.map r3 85 n3 M3,.map r4 kS w.nf (tab mC w.F),.map r5 kS w.nt (tab gM w.T)]:=rfl
def Wk.row (w:Wk) (v:ByteArray) (r3 r4 r5:Nat):List HV:=[.ptr 1 6 0 0,.v (.string v),.v (.map (some r3)),.v (.map (some r4)),.v (.map (some r5)),.v (.int .i64 w.reads)]
theorem qBp (w:Wk) (v:ByteArray) (r3 r4 r5:Nat):w.row v r3 r4 r5=[.ptr 1 6 0 0,.v (.string v),.v (.map (some r3)),.v (.map (some r4)),.v (.map (some r5)),.v (.int .i64 w.reads)]:=(fun h=>h) rfl
structure KnOk (M:MTab) (kn:gL):Prop where
 is:∀ p n,p.size≤maxLen→(Lit.int .i64 n).wf=true→M (qSv p n)=(kn p n).map mC
theorem mtF:MapTy Tryz.prog 79 kS 52 (mC (0,ByteArray.empty)):=⟨Tryz.underlying79,Tryz.underlying9,fun w=>by kernel_rfl⟩
theorem mtT:MapTy Tryz.prog 62 kS 3 (.int .i64 0):=mtL
theorem mtK:MapTyG Tryz.prog 78 85 52 (mC (0,ByteArray.empty)):=⟨Tryz.underlying78,Keyed.of_law law85,fun w=>by kernel_rfl⟩
end Go.Proofs.YtlihpgmgiehjkaaGreatDoor
end
