/-
  The disk's calls: List.
-/
import Derived.Test.YtlihpgmgiehjkaaGreatDoorDkB
import Derived.Sort.Grow
import Derived.Shelf.Sort.Plain
import Derived.Shelf.Slices.In.SortNone
import Derived.Test.YtlihpgmgiehjkaaGreatDoorProg
import Derived.Test.YtlihpgmgiehjkaaGreatDoorSrp
import Derived.Test.YtlihpgmgiehjkaaGreatDoorTrB
import Derived.Test.YtlihpgmgiehjkaaGreatDoorTyS
import Derived.Sort.OwnSorted
import Derived.Sort.Walk0
import Derived.Test.YtlihpgmgiehjkaaGreatDoorDlD
set_option linter.unusedSimpArgs false
set_option linter.unusedVariables false
section
namespace Go.Eng
open Go Go.RowKit
def pln (cs:List (List Value)):List (List FV):=cs.map (List.map FV.v)
structure Uni (sz:Nat) (cs:List (List Value)):Prop where
 wid:∀ x ∈ cs,x.length=sz
 one:∀ x ∈ cs,∀ v ∈ x,v.oneCell'=true
theorem qHp (cs:List (List Value)):(pln cs).length=cs.length:=by simp [pln]
theorem qEa {α:Type} {sz:Nat}:∀ {cs:List (List α)},(∀ x ∈ cs,x.length=sz)→cs.flatten.length=cs.length * sz
|[],_=>by simp
|x :: r,h=>by
  rw [List.flatten_cons,List.length_append,qEa (fun y hy=>h y (by simp [hy])),h x (by simp),List.length_cons,Nat.add_mul,Nat.one_mul,Nat.add_comm]
theorem sW {α:Type} {sz:Nat}:∀ {cs:List (List α)} (i:Nat),(∀ x ∈ cs,x.length=sz)→(cs.take i).flatten=cs.flatten.take (i * sz)
|[],i,_=>by simp
|x :: r,0,h=>by simp
|x :: r,i + 1,h=>by
  have hx:=h x (by simp)
  rw [List.take_succ_cons,List.flatten_cons,List.flatten_cons,sW i (fun y hy=>h y (by simp [hy])),List.take_append,List.take_of_length_le (l:=x) (by rw [hx,Nat.add_mul];omega),hx,show (i + 1) * sz - sz=i * sz by rw [Nat.add_mul,Nat.one_mul];omega]
theorem qX8 {α:Type} {sz:Nat}:∀ {cs:List (List α)} (i k:Nat),(∀ x ∈ cs,x.length=sz)→(hi:i < cs.length)→k < sz→cs.flatten[i * sz + k]?=cs[i][k]?
|[],i,k,_,hi,_=>by simp at hi
|x :: r,0,k,h,hi,hk=>by
  have hx:=h x (by simp)
  rw [List.flatten_cons,Nat.zero_mul,Nat.zero_add,List.getElem?_append_left (by omega)];rfl
|x :: r,i + 1,k,h,hi,hk=>by
  have hx:=h x (by simp)
  have:=qX8 (cs:=r) i k (fun y hy=>h y (List.mem_cons_of_mem _ hy)) (by simpa using hi) hk
  rw [List.flatten_cons,List.getElem?_append_right (by rw [hx,Nat.add_mul];omega),hx,show (i + 1) * sz + k - sz=i * sz + k by rw [Nat.add_mul,Nat.one_mul];omega,this]
  rfl
theorem qT0 {cs:List (List Value)} {sz i k:Nat} (U:Uni sz cs) (hi:i < (pln cs).length) (hk:k < (pln cs)[i].length):∃ x,(pln cs)[i][k]=.v x∧cs.flatten[i * sz + k]?=some x∧x.oneCell'=true:=by
 have hi':i < cs.length:=by simpa [pln] using hi
 have e:(pln cs)[i]=cs[i].map FV.v:=by simp [pln]
 have hk':k < cs[i].length:=by rw [e] at hk;simpa using hk
 refine ⟨cs[i][k],by simp [e],?_,U.one _ (List.getElem_mem hi') _ (List.getElem_mem hk')⟩
 have hw:=U.wid _ (List.getElem_mem hi')
 rw [qX8 i k U.wid hi' (by omega),List.getElem?_eq_getElem hk']
theorem zQe {w:World} {A:Nat→Prop} {n0 sz:Nat} {arr:List Value} {cs:List (List Value)} (U:Uni sz cs) (h0:0 < sz) (hl:arr.length=cs.length * sz) (h:∀ i k (hi:i < (pln cs).length) (hk:k < (pln cs)[i].length),∃ u,arr[i * sz + k]?=some u∧u.oneCell'=true∧RepF w A n0 u (pln cs)[i][k]):arr=cs.flatten:=by
 apply List.ext_getElem?
 intro p
 by_cases hp:p < cs.length * sz
 ·have h1:p / sz < cs.length:=Nat.div_lt_of_lt_mul (by rw [Nat.mul_comm];exact hp)
  have hi:p / sz < (pln cs).length:=by rw [qHp];exact h1
  have hk:p % sz < (pln cs)[p / sz].length:=by
   have e:(pln cs)[p / sz]=(cs[p / sz]'h1).map FV.v:=by simp [pln]
   rw [e,List.length_map,U.wid _ (List.getElem_mem _)];exact Nat.mod_lt _ h0
  obtain ⟨u,u1,-,u3⟩:=h (p / sz) (p % sz) hi hk;obtain ⟨x,h1,h2,-⟩:=qT0 U hi hk;rw [h1] at u3
  cases u3
  have e:p / sz * sz + p % sz=p:=by rw [Nat.mul_comm];exact Nat.div_add_mod p sz
  rw [e] at u1 h2;rw [u1,h2]
 ·rw [List.getElem?_eq_none (by omega),List.getElem?_eq_none (by rw [qEa U.wid];omega)]
theorem zMz {c:Ctx} {S:HS} {look:Nat→Option Value} {w:World} {ρ:Nat→Value} {xs:Nat→List Value} (G:Good c S look w ρ xs) {id ty sz:Nat} {nw:Bool} {cs:List (List Value)} (U:Uni sz cs) (hz:0 < sz) (hr:rlk S.st id=some (.sl nw ty sz (pln cs))) (h0:0 < cs.length) :
  ∃ g cap cur,ρ id=.slice (some ⟨g,0,none⟩) cs.length cap∧Blk w g cur ty∧cs.length≤cap∧cap≤maxLen∧cur.size=cap * sz∧cur.toList.take (cs.length * sz)=cs.flatten:=by
 obtain ⟨o1,o2,o3⟩:=dT G hr;rw [qHp] at o1;obtain ⟨g,cap,hv,h1,h2,-⟩:=fM o1 h0;rw [hv] at o1;obtain ⟨cur,b1,b2,b3,b4,b5⟩:=yY o1
 have:=zQe U hz o1.1 o3
 exact ⟨g,cap,cur,hv,b1,b2,b3,b4,by rw [b5,this]⟩
theorem Good.turnP {c:Ctx} {S:HS} {look:Nat→Option Value} {w w':World} {ρ:Nat→Value} {xs:Nat→List Value} (G:Good c S look w ρ xs) {id ty sz g cap:Nat} {nw:Bool} {cs0 cs:List (List Value)} (U:Uni sz cs) (hr:rlk S.st id=some (.sl nw ty sz (pln cs0))) (hg:ρ id=.slice (some ⟨g,0,none⟩) cs.length cap)
  (hO:Own w' 0 ty sz (ρ id) cs.length cs.flatten) (k1:w'.os=w.os) (k2:w'.tape=w.tape) (k3:w'.output=w.output) (k4:w.heap.size≤w'.heap.size) (k5:∀ b,b < w.heap.size→b≠g→w'.heap[b]?=w.heap[b]?) :
  Good c ⟨S.env,iV id (.sl nw ty sz (pln cs)) S.st⟩ look w' ρ (fun i=>if i=id then cs.flatten else xs i):=by
 refine G.upds id (.sl nw ty sz (pln cs0)) (.sl nw ty sz (pln cs)) cs.flatten k4 k1 k2 k3 hr rfl (fun b hlt hb=>k5 b hlt fun e=>hb (by rw [hg,e];rfl)) _ (fun i=>jZ id _ _ _ hr i) ⟨?_,⟨fun x hx=>?_,fun i k hi hk=>?_⟩,(G.rows id _ hr).new⟩
 ·simpa [Row.ty,Row.sz,Row.len,qHp] using hO
 ·obtain ⟨y,hy,rfl⟩:=List.mem_map.1 hx;rw [List.length_map];exact U.wid y hy
 ·obtain ⟨x,h1,h2,h3⟩:=qT0 U hi hk;exact ⟨x,h2,h3,by rw [h1];exact .v x⟩
theorem Good.fin {c:Ctx} {st:aJ} {w w':World} {ρ:Nat→Value} {xs:Nat→List Value} (G:Good c ⟨[],st⟩ (fun _=>none) w ρ xs) (hw:c.w0=w) {nw:Bool} {ty sz:Nat} {cs0 cs:List (List Value)} (U:Uni sz cs) (hr:rlk st 0=some (.sl nw ty sz (pln cs0))) {v:Value}
  (hO:Own w' 0 ty sz v cs.length cs.flatten) (hg:w.grownBy w' (ρ 0).ownBlock) (hb:∀ b,v.ownBlock=some b→w.heap.size≤b∨(ρ 0).ownBlock=some b) :
  Good c ⟨[],[(0,.sl nw ty sz (pln cs))]⟩ (fun _=>none) w' (fun _=>v) (fun _=>cs.flatten):=by
 have hn0:=c.hn
 have hnew:=(G.rows 0 _ hr).new
 refine ⟨fun i r h=>?_,fun i j r s b hne h h'=>?_,fun k h hk=>by simp [hlk] at hk,G.kept.trans (T':=fun b=>(ρ 0).ownBlock=some b) ⟨hg.os,hg.tape,hg.output,hg.size,fun b hlt hne=>hg.block b hlt fun e=>hne e.symm⟩ (fun b hlt hT=>?_),G.a0⟩
 ·simp only [rlk] at h;split at h
  ·rename_i e;simp only [Option.some.injEq] at h;subst h;refine ⟨by simpa [Row.ty,Row.sz,Row.len,qHp] using hO,⟨fun x hx=>?_,fun i k hi hk=>?_⟩,fun b hb'=>?_⟩
   ·obtain ⟨y,hy,rfl⟩:=List.mem_map.1 hx;rw [List.length_map];exact U.wid y hy
   ·obtain ⟨x,h1,h2,h3⟩:=qT0 U hi hk;exact ⟨x,h2,h3,by rw [h1];exact .v x⟩
   ·rcases hb b hb' with h|h
    ·rw [hw] at hn0 ⊢;exact ⟨.inl h,fun _=>by omega⟩
    ·exact hnew b h
  ·cases h
 ·simp only [rlk] at h h';split at h
  ·split at h'
   ·omega
   ·cases h'
  ·cases h
 ·rcases (hnew b hT).1 with h|h
  ·omega
  ·exact h
end Go.Eng
end
section
namespace Go.Proofs.YtlihpgmgiehjkaaGreatDoor
open Go.Shelf
def Tryz.sortS_ren:Go.Shelf.Ren:=⟨fun|190=>60|125=>95|258=>94|128=>114|129=>115|302=>105|303=>106|304=>107|305=>108|306=>109|307=>110|308=>111|309=>112|310=>113|333=>121|329=>122|330=>123|334=>124|335=>125|336=>126|344=>135|n=>n,fun|31=>58|9=>9|3=>3|46=>119|0=>0|51=>140|53=>98|4=>4|183=>134|182=>133|131=>117|5=>5|218=>143|222=>147|228=>151|229=>152|n=>n,fun|n=>n⟩
theorem Tryz.sortS:Go.Proofs.Lays.n190 Tryz.prog Tryz.sortS_ren:={
 mixed:=by kernel_rfl
 f125:=Tryz.func95.trans (congrArg some (by kernel_rfl))
 f128:=Tryz.func114.trans (congrArg some (by kernel_rfl))
 f129:=Tryz.func115.trans (congrArg some (by kernel_rfl))
 f190:=Tryz.func60.trans (congrArg some (by kernel_rfl))
 f258:=Tryz.func94.trans (congrArg some (by kernel_rfl))
 f302:=Tryz.func105.trans (congrArg some (by kernel_rfl))
 f303:=Tryz.func106.trans (congrArg some (by kernel_rfl))
 f304:=Tryz.func107.trans (congrArg some (by kernel_rfl))
 f305:=Tryz.func108.trans (congrArg some (by kernel_rfl))
 f306:=Tryz.func109.trans (congrArg some (by kernel_rfl))
 f307:=Tryz.func110.trans (congrArg some (by kernel_rfl))
 f308:=Tryz.func111.trans (congrArg some (by kernel_rfl))
 f309:=Tryz.func112.trans (congrArg some (by kernel_rfl))
 f310:=Tryz.func113.trans (congrArg some (by kernel_rfl))
 f329:=Tryz.func122.trans (congrArg some (by kernel_rfl))
 f330:=Tryz.func123.trans (congrArg some (by kernel_rfl))
 f333:=Tryz.func121.trans (congrArg some (by kernel_rfl))
 f334:=Tryz.func124.trans (congrArg some (by kernel_rfl))
 f335:=Tryz.func125.trans (congrArg some (by kernel_rfl))
 f336:=Tryz.func126.trans (congrArg some (by kernel_rfl))
 f344:=Tryz.func135.trans (congrArg some (by kernel_rfl))
 t0:=Tryz.underlying0
 a0:=Tryz.isAgg0
 z0:=Tryz.sizeOf0
 v0:=Tryz.zeroValue0
 t3:=Tryz.underlying3
 a3:=Tryz.isAgg3
 z3:=Tryz.sizeOf3
 v3:=Tryz.zeroValue3
 t4:=Tryz.underlying4
 a4:=Tryz.isAgg4
 z4:=Tryz.sizeOf4
 v4:=Tryz.zeroValue4
 t5:=Tryz.underlying5
 a5:=Tryz.isAgg5
 z5:=Tryz.sizeOf5
 v5:=Tryz.zeroValue5
 t9:=Tryz.underlying9
 a9:=Tryz.isAgg9
 z9:=Tryz.sizeOf9
 v9:=Tryz.zeroValue9
 t31:=Tryz.underlying58
 a31:=Tryz.isAgg58
 z31:=Tryz.sizeOf58
 v31:=Tryz.zeroValue58
 t46:=Tryz.underlying119
 a46:=Tryz.isAgg119
 z46:=Tryz.sizeOf119
 v46:=Tryz.zeroValue119
 t51:=Tryz.underlying140
 a51:=Tryz.isAgg140
 z51:=Tryz.sizeOf140
 v51:=Tryz.zeroValue140
 t53:=Tryz.underlying98
 a53:=Tryz.isAgg98
 z53:=Tryz.sizeOf98
 v53:=Tryz.zeroValue98
 t131:=Tryz.underlying117
 a131:=Tryz.isAgg117
 z131:=Tryz.sizeOf117
 v131:=Tryz.zeroValue117
 t182:=Tryz.underlying133
 a182:=Tryz.isAgg133
 z182:=Tryz.sizeOf133
 v182:=Tryz.zeroValue133
 t183:=Tryz.underlying134
 a183:=Tryz.isAgg134
 z183:=Tryz.sizeOf134
 v183:=Tryz.zeroValue134
 t218:=Tryz.underlying143
 a218:=Tryz.isAgg143
 z218:=Tryz.sizeOf143
 v218:=Tryz.zeroValue143
 t222:=Tryz.underlying147
 a222:=Tryz.isAgg147
 z222:=Tryz.sizeOf147
 v222:=Tryz.zeroValue147
 t228:=Tryz.underlying151
 a228:=Tryz.isAgg151
 z228:=Tryz.sizeOf151
 v228:=Tryz.zeroValue151
 t229:=Tryz.underlying152
 a229:=Tryz.isAgg152
 z229:=Tryz.sizeOf152
 v229:=Tryz.zeroValue152 }
end Go.Proofs.YtlihpgmgiehjkaaGreatDoor
end
section
set_option maxRecDepth 20000
namespace Go.Tr
open Go Go.Eng Go.RowKit Go.Proofs Go.Sort
end Go.Tr
namespace Go.Proofs.YtlihpgmgiehjkaaGreatDoor
open Go Go.Eng Go.RowKit Go.Tr Go.Lib Go.Sort Go.Proofs
def qJn (l:List ByteArray):List (List Value):=l.map fun s=>[Value.string s]
theorem qU4 (l:List ByteArray):Uni 1 (qJn l):=⟨fun x hx=>by obtain ⟨s,-,rfl⟩:=List.mem_map.1 hx;rfl,fun x hx v hv=>by
 obtain ⟨s,-,rfl⟩:=List.mem_map.1 hx;simp only [List.mem_singleton] at hv;subst hv;rfl⟩
theorem qJl (l:List ByteArray):pln (qJn l)=dP l:=by simp [pln,qJn,dP,qU5]
theorem qPo (l:List ByteArray):(qJn l).flatten=(byL l).map encStr:=by
 induction l with
|nil=>rfl
|cons s r ih=>simp only [qJn,List.map_cons,List.flatten_cons,List.singleton_append,byL] at *;rw [ih]
theorem qJm (l:List ByteArray):(qJn l).length=l.length:=by simp [qJn]
theorem qEl (l:List ByteArray):(byL l).length=l.length:=by simp [byL]
theorem zGp {S:HS} {id:Nat} {nw:Bool} {l:List ByteArray} (hl:l.length≤4194304) {K:HV→HS→Prop} (hr:rlk S.st id=some (.sl nw 9 1 (dP l))) (hK:K (.v (.tuple #[])) ⟨S.env,iV id (.sl nw 9 1 (dP (qA8 l))) S.st⟩) :
  HAt Tryz.prog 60 [.own id] S K :=
 ⟨zUf,fun c look w ρ xs vs G R=>by
  obtain ⟨R1,R2⟩:=R
  match vs,R1 with
 |[v0],_ =>
  have r0:=R2 0 (by simp) (by simp)
  simp only [List.getElem_cons_zero] at r0
  cases r0
  by_cases h0:l=[]
  ·subst h0;obtain ⟨o1,o2,o3⟩:=dT G hr;obtain ⟨ad,cap,e0⟩:=pN o1
   have e0':ρ id=.slice ad 0 cap:=e0
   rw [e0'];refine Calls.mono (Any.slices_Sort_string_none Tryz.sortS ad cap w) ?_;rintro e w' ⟨rfl,rfl⟩;exact qE3 ⟨_,_,hK,ρ,xs,G.same hr,.v _⟩
  ·have hpos:=List.length_pos_iff.2 h0
   obtain ⟨g,cap,cur,e0,b1,b2,b3,b4,b5⟩:=zMz G (qU4 l) (by decide) (by rw [qJl];exact hr) (by rw [qJm];exact hpos)
   rw [qJm] at e0 b2 b5;rw [qPo,Nat.mul_one] at b5;rw [Nat.mul_one] at b4;rw [e0]
   have hb:w.heap[g]?=some (.cells cur 9 (0,0)):=b1
   have hH:Holds encStr w g 0 (byL l).toArray:=holds_of_block hb (by rw [qEl];exact b5)
   have hcon:=Any.slices_Sort_string Tryz.sortS g 0 cap (byL l) w hH b1.lt (by rw [qEl];omega)
   rw [qEl] at hcon;refine Calls.mono hcon ?_;rintro e w' ⟨rfl,n,os,rfl⟩
   have hg:=grownBy_sorted (w:=w) (g:=g) (n:=n) (os:=os) ((byL l).mergeSort fun x y=>decide (x≤y)).toArray
   have ho:=ownsRow_sorted (w:=w) (base:=0) (n:=n) (os:=os) (ss:=byL l) (ts:=(byL l).mergeSort fun x y=>decide (x≤y)) (by simp) (Nat.zero_le g) hb (by rw [qEl];exact b2) b3 (by rw [b4,Nat.mul_one])
   have hf:((byL l).mergeSort fun x y=>decide (x≤y)).map encStr=(qJn (qA8 l)).flatten:=by
    rw [← qGm,qPo];generalize (byL l).mergeSort (fun x y=>decide (x≤y))=z
    unfold byL;rw [List.map_map,List.map_map];exact List.map_congr_left fun s _=>rfl
   rw [qEl,hf] at ho
   have hc:l.length=(qJn (qA8 l)).length:=by rw [qJm,zEf]
   have G2:=G.turnP (id:=id) (ty:=9) (sz:=1) (nw:=nw) (cs0:=qJn l) (cs:=qJn (qA8 l)) (qU4 _) (by rw [qJl];exact hr) (by rw [← hc];exact e0) (w':=grow (putRow encStr (Sort.ahead w n) g 0 ((byL l).mergeSort fun x y=>decide (x≤y)).toArray) os) (by rw [e0,← hc];exact ho) hg.os hg.tape hg.output hg.size (fun b hlt hne=>hg.block b hlt fun e=>hne (Option.some.inj e))
   rw [qJl] at G2;exact qE3 ⟨_,_,hK,ρ,_,G2,.v _⟩⟩
end Go.Proofs.YtlihpgmgiehjkaaGreatDoor
end
section
set_option maxRecDepth 20000
namespace Go.Proofs.YtlihpgmgiehjkaaGreatDoor
open Go Go.Eng Go.RowKit Go.Tr Go.Dk
structure LiI (L:List (ByteArray × Itm)) (p:ByteArray) (left:List UInt8→Bool) (os:List ByteArray):Prop where
 nd:os.Nodup
 iff:∀ s,s ∈ os↔(aS L s).isSome=true∧left s.data.toList=false∧par s=p
theorem zBx {q s:ByteArray} (h:q≠s):(q.data.toList == s.data.toList)=false:=by
 rw [beq_eq_false_iff_ne];intro e;exact h (by rw [← iZ q,e,iZ])
theorem LiI.skip {L:List (ByteArray × Itm)} {p s:ByteArray} {left:List UInt8→Bool} {os:List ByteArray} (h:LiI L p left os) (hn:par s≠p):LiI L p (fun q=>left q && !(q == s.data.toList)) os :=
 ⟨h.nd,fun q=>by
  rw [h.iff q]
  by_cases hq:q=s
  ·subst hq;exact ⟨fun a=>absurd a.2.2 hn,fun a=>absurd a.2.2 hn⟩
  ·simp only [zBx hq,Bool.not_false,Bool.and_true]⟩
theorem LiI.push {L:List (ByteArray × Itm)} {p s:ByteArray} {left:List UInt8→Bool} {os:List ByteArray} {x:Itm} (h:LiI L p left os) (hx:aS L s=some x) (hl:left s.data.toList=true) (hp:par s=p):LiI L p (fun q=>left q && !(q == s.data.toList)) (os ++ [s]):=by
 have hno:s ∉ os:=fun hm=>by
  have:=((h.iff s).1 hm).2.1
  rw [hl] at this
  cases this
 refine ⟨?_,fun q=>?_⟩
 ·rw [List.nodup_append];exact ⟨h.nd,by simp,fun a ha b hb=>by
   rw [List.mem_singleton] at hb;subst hb;intro e;subst e;exact hno ha⟩
 ·rw [List.mem_append,List.mem_singleton,h.iff q]
  by_cases hq:q=s
  ·subst hq;simp [hx,hp]
  ·simp only [zBx hq,Bool.not_false,Bool.and_true,hq,or_false]
theorem zLv (s:ByteArray):∀ (L:List (ByteArray × Itm)),(del s L).length≤L.length
|[]=>Nat.le_refl _
|(k,x) :: r=>by
  have:=zLv s r
  rw [del];split <;> simp only [List.length_cons] <;> omega
theorem zLu (s:ByteArray):∀ (L:List (ByteArray × Itm)),(aS L s).isSome=true→(del s L).length + 1≤L.length
|[],h=>by cases h
|(k,x) :: r,h=>by
  have h1:=zLv s r
  have h2:=zLu s r
  rw [aS] at h;rw [del];split <;> rename_i hk
  ·simp only [List.length_cons];omega
  ·rw [if_neg hk] at h
   have:=h2 h
   simp only [List.length_cons];omega
theorem qT4:∀ (os:List ByteArray) (L:List (ByteArray × Itm)),os.Nodup→(∀ s ∈ os,(aS L s).isSome=true)→os.length≤L.length
|[],_,_,_=>Nat.zero_le _
|s :: r,L,hn,h=>by
  rw [List.nodup_cons] at hn
  have h1:=qT4 r (del s L) hn.2 fun q hq=>by
   have hqs:q≠s:=fun e=>hn.1 (e ▸ hq)
   rw [nN,if_neg hqs];exact h q (List.mem_cons_of_mem _ hq)
  have h2:=zLu s L (h s (List.mem_cons_self ..))
  simp only [List.length_cons];omega
theorem LiI.len {L:List (ByteArray × Itm)} {p:ByteArray} {left:List UInt8→Bool} {os:List ByteArray} (h:LiI L p left os):os.length≤L.length:=qT4 os L h.nd fun s hs=>((h.iff s).1 hs).1
theorem qLg {L:List (ByteArray × Itm)} (hr:eU L) (p:ByteArray):((L.filter fun e=>decide (par e.1=p)).map fun e=>e.1).Pairwise fun a b=>blt a b=true:=by
 rw [List.pairwise_map];exact List.Pairwise.filter _ hr
theorem zNh {L:List (ByteArray × Itm)} {p:ByteArray} {left:List UInt8→Bool} {os:List ByteArray} (hr:eU L) (h:LiI L p left os) (hz:∀ s,left s=false):qA8 os=(L.filter fun e=>decide (par e.1=p)).map fun e=>e.1:=by
 have h1:=qLg hr p
 refine (qJv (h1.imp fun {a b} h=>?_) ?_).symm
 ·exact mW h
 ·refine (List.perm_ext_iff_of_nodup (h1.imp fun {a b} h e=>?_) h.nd).2 fun q=>?_
  ·subst e
   have:=mW h
   rw [h] at this
   cases this
  ·rw [h.iff q];simp only [List.mem_map,List.mem_filter,decide_eq_true_eq,hz,true_and];constructor
   ·rintro ⟨⟨k,x⟩,⟨hm,hp⟩,rfl⟩;exact ⟨by rw [dX hr hm];rfl,hp⟩
   ·rintro ⟨hs,hp⟩;obtain ⟨x,hx⟩:=Option.isSome_iff_exists.1 hs;exact ⟨(q,x),⟨cP hx,hp⟩,rfl⟩
set_option maxHeartbeats 1000000 in
theorem zJb (d:Dk) (B:Int) (hd:d.Ok B) (hB:B≤1099511627776) (p:ByteArray) (hp:p.size≤1048576) (hl:d.L.length≤4194304) (r1 r2:Nat) :
  HFunM Tryz.prog 26 [.ptr 0 6 0 0,.v (.string p)] [(0,.bx false 64 (d.cells r1 r2))] (d.maps kS r1 r2) (fun h st g=>h=.own 1∧st=[(0,.bx false 64 (d.cells r1 r2)),(1,.sl true 9 1 (dP (gR d p)))]∧g=d.maps kS r1 r2):=by
 refine kC (N:=31) Tryz.func26 rfl Tryz.ntmps26 Tryz.results26 (by simp) ?_
 obtain ⟨hri,hke,hto,-,-,-,-,-⟩:=hd;obtain ⟨L,R,steps,stamps,armed,down,n,m⟩:=d;simp only at hri hke hto hl;simp only [bM,cS];refine aA ?_;refine aC (fun K hK=>?_);simp (disch:=omega) only [push_cast,↓iC9,simprocAttr];refine hK _ ?_;clear hK K
 refine aA ?_;refine aC (fun K hK=>?_);simp (disch:=omega) only [push_cast,↓iC9,simprocAttr];refine hK _ ?_;clear hK K
 refine aA ?_;refine aA ?_;refine aC (fun K hK=>?_);simp (disch:=omega) only [push_cast,↓iC9,simprocAttr];refine hK _ ?_;clear hK K
 refine aB ?_;refine bA rfl ?_;refine aT ?_;refine aA ?_;refine aA ?_;refine bD ?_;refine aG 4 (fun K1 hK1=>?_);simp (disch:=omega) only [push_cast,↓iC9,simprocAttr];refine hK1 _ ?_;(try clear hK1 K1)
 refine qS2 (i:=0) mtI rfl rfl rfl rfl rfl fun it cnt=>?_
 refine aV ?_;refine aB ?_;refine bL ?_;rw [show ([]:List (List FV))=dP [] from rfl]
 refine qF (ι:=((List UInt8→Bool) × Nat × Option (ByteArray × Value)) × List ByteArray) (fun q=>⟨[(0,.ptr 0 6 0 0),(1,.v (.string p)),(5,.own 56),(15,.v (.pointer (some ⟨it,0,none⟩)))],[(0,.bx false 64 [.v (.map (some r1)),.v (.map (some r2)),.v (.int .i64 steps),.v (.int .i64 stamps),.v (.int .i64 armed),.v (.bool down)]),(56,.sl true 9 1 (dP q.2))]⟩)
  (fun q=>[.itr it r1 kS n (tab Itm.val L) q.1.1 q.1.2.1 q.1.2.2,.map r2 kS m (tab jL R)]) (fun q=>LiI L p q.1.1 q.2) (fun q=>q.1.2.1) [0,1,5,15] [0,56] ((fun s=>(tab Itm.val L s).isSome,cnt,none),[]) rfl rfl ?_ ?_
 ·refine ⟨List.nodup_nil,fun s=>⟨fun h=>(List.not_mem_nil h).elim,fun h=>?_⟩⟩
  have h1:(tab Itm.val L s.data.toList).isSome=false:=h.2.1
  rw [nR,h.1] at h1
  cases h1
 ·rintro ⟨⟨left,cn,cur⟩,os⟩ hI;dsimp only at hI ⊢;refine aA ?_;refine bD ?_;refine qYz (i:=0) mtI rfl rfl rfl rfl rfl (fun hz=>?_) (fun s w c' hle hM hsz hlt=>?_)
  ·refine aG 1 (fun K1 hK1=>?_);simp (disch:=omega) only [push_cast,↓iC9,simprocAttr,aE,aD];refine hK1 _ ?_;(try clear hK1 K1)
   refine aV ?_;refine aA ?_;refine bA rfl ?_;refine fR ?_;refine cW ?_;refine cW ?_;refine fN ?_;refine aA ?_;refine zDt (i:=0) rfl ?_
   have hol:=hI.len
   refine aC (fun K hK=>?_);simp (disch:=omega) only [push_cast,↓iC9,simprocAttr]
   refine zGp (l:=os) (by omega) rfl ?_
   with_reducible refine aM ?_;simp (disch:=omega) only [push_cast,↓iC9,simprocAttr]
   refine hK _ ?_;clear hK K;refine aA ?_;refine aC (fun K hK=>?_);simp (disch:=omega) only [push_cast,↓iC9,simprocAttr];refine hK _ ?_;clear hK K
   refine aB ?_;refine bB ?_;simp only [aF,aN,yH,yE,yK,yJ,aH,zS,zM,Nat.reduceEqDiff,reduceIte,reduceCtorEq];refine bV [0,56] [] (by first|rfl|simp [bsL,MO.bs]) (by decide) (by decide) (by simp only [push_cast,simprocAttr]) (by simp only [push_cast,simprocAttr]) (by simp only [push_cast,simprocAttr];rfl) (by simp only [push_cast,simprocAttr];rfl) ?_
   refine ⟨rfl,?_,rfl⟩;rw [zNh hri hI hz];rfl
  ·obtain ⟨x,hx,rfl⟩:∃ x,aS L s=some x∧w=x.val:=by
    rw [qBq] at hM
    cases hx:aS L s with
   |none=>rw [hx] at hM;cases hM
   |some x=>rw [hx] at hM;exact ⟨x,rfl,(Option.some.inj hM).symm⟩
   have hss:=hke _ (cP hx)
   refine aG 1 (fun K1 hK1=>?_);simp (disch:=omega) only [push_cast,↓iC9,simprocAttr,aE,aD,qUb,gT];refine hK1 _ ?_;(try clear hK1 K1)
   refine aV ?_;refine aA ?_;refine bW rfl ?_;refine aT ?_;refine aB ?_;refine bL ?_;refine aA ?_;refine bD ?_;refine qS3 (i:=0) rfl rfl rfl rfl rfl ?_;refine aG 2 (fun K1 hK1=>?_);simp (disch:=omega) only [push_cast,↓iC9,simprocAttr,aE,aD,qUb,gT];refine hK1 _ ?_;(try clear hK1 K1)
   refine aV ?_;refine aA ?_;refine aC (fun K hK=>?_);simp (disch:=omega) only [push_cast,↓iC9,simprocAttr]
   refine cK zS6 (qVx s hss) (.cons (.v _) .nil) ?_;with_reducible refine aM ?_;simp (disch:=omega) only [push_cast,↓iC9,simprocAttr]
   refine hK _ ?_;clear hK K;refine aB ?_
   by_cases hv:par s=p
   ·refine bC rfl (fun _=>?_) (fun hf=>by simp [hv] at hf)
    have hol:=hI.len
    refine aC (fun K hK=>?_);simp (disch:=omega) only [push_cast,↓iC9,simprocAttr,cT]
    (repeat refine ⟨by first|omega|decide|((repeat' apply And.intro) <;> first|omega|decide),?_⟩)
    refine hK _ ?_;clear hK K;refine bS ?_;refine aB ?_;refine ⟨((fun q=>left q && !(q == s.data.toList),c',some (s,x.val)),os ++ [s]),?_,rfl,hI.push hx hle hv,hlt⟩
    simp only [dP,List.map_append,List.map_cons,List.map_nil];rfl
   ·refine bC rfl (fun ht=>by simp [hv] at ht) (fun _=>?_)
    refine aT ?_;refine bS ?_;refine aB ?_;exact ⟨((fun q=>left q && !(q == s.data.toList),c',some (s,x.val)),os),rfl,rfl,hI.skip hv,hlt⟩
end Go.Proofs.YtlihpgmgiehjkaaGreatDoor
end
