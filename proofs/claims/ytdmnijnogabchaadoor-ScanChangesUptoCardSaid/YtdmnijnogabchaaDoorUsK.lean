/-
  slices.Sort of texts: the row is sorted where it lies; the document's sorted.
-/
import Derived.Shelf.Sort.Plain
import Derived.Shelf.Slices.In.SortNone
import Derived.Test.YtdmnijnogabchaaDoorProg
import Derived.Test.YtdmnijnogabchaaDoorPln
import Derived.Test.YtdmnijnogabchaaDoorItq
import Derived.Test.YtdmnijnogabchaaDoorTrC
import Derived.Test.YtdmnijnogabchaaDoorTyC
import Derived.Sort.OwnSorted
import Derived.Sort.Walk0
set_option linter.unusedSimpArgs false
set_option linter.unusedVariables false
section
namespace Go.Proofs.YtdmnijnogabchaaDoor
open Go.Shelf
def Tryd.sortS_ren:Go.Shelf.Ren:=⟨fun|190=>46|125=>56|258=>55|128=>68|129=>69|302=>59|303=>60|304=>61|305=>62|306=>63|307=>64|308=>65|309=>66|310=>67|333=>75|329=>76|330=>77|334=>78|335=>79|336=>80|344=>84|n=>n,fun|31=>25|9=>9|3=>3|46=>89|0=>0|51=>100|53=>102|4=>4|183=>93|182=>92|131=>62|5=>5|218=>106|222=>110|228=>114|229=>115|n=>n,fun|n=>n⟩
theorem Tryd.sortS:Go.Proofs.Lays.n190 Tryd.prog Tryd.sortS_ren:={
 mixed:=by kernel_rfl
 f125:=Tryd.func56.trans (congrArg some (by kernel_rfl))
 f128:=Tryd.func68.trans (congrArg some (by kernel_rfl))
 f129:=Tryd.func69.trans (congrArg some (by kernel_rfl))
 f190:=Tryd.func46.trans (congrArg some (by kernel_rfl))
 f258:=Tryd.func55.trans (congrArg some (by kernel_rfl))
 f302:=Tryd.func59.trans (congrArg some (by kernel_rfl))
 f303:=Tryd.func60.trans (congrArg some (by kernel_rfl))
 f304:=Tryd.func61.trans (congrArg some (by kernel_rfl))
 f305:=Tryd.func62.trans (congrArg some (by kernel_rfl))
 f306:=Tryd.func63.trans (congrArg some (by kernel_rfl))
 f307:=Tryd.func64.trans (congrArg some (by kernel_rfl))
 f308:=Tryd.func65.trans (congrArg some (by kernel_rfl))
 f309:=Tryd.func66.trans (congrArg some (by kernel_rfl))
 f310:=Tryd.func67.trans (congrArg some (by kernel_rfl))
 f329:=Tryd.func76.trans (congrArg some (by kernel_rfl))
 f330:=Tryd.func77.trans (congrArg some (by kernel_rfl))
 f333:=Tryd.func75.trans (congrArg some (by kernel_rfl))
 f334:=Tryd.func78.trans (congrArg some (by kernel_rfl))
 f335:=Tryd.func79.trans (congrArg some (by kernel_rfl))
 f336:=Tryd.func80.trans (congrArg some (by kernel_rfl))
 f344:=Tryd.func84.trans (congrArg some (by kernel_rfl))
 t0:=Tryd.underlying0
 a0:=Tryd.isAgg0
 z0:=Tryd.sizeOf0
 v0:=Tryd.zeroValue0
 t3:=Tryd.underlying3
 a3:=Tryd.isAgg3
 z3:=Tryd.sizeOf3
 v3:=Tryd.zeroValue3
 t4:=Tryd.underlying4
 a4:=Tryd.isAgg4
 z4:=Tryd.sizeOf4
 v4:=Tryd.zeroValue4
 t5:=Tryd.underlying5
 a5:=Tryd.isAgg5
 z5:=Tryd.sizeOf5
 v5:=Tryd.zeroValue5
 t9:=Tryd.underlying9
 a9:=Tryd.isAgg9
 z9:=Tryd.sizeOf9
 v9:=Tryd.zeroValue9
 t31:=Tryd.underlying25
 a31:=Tryd.isAgg25
 z31:=Tryd.sizeOf25
 v31:=Tryd.zeroValue25
 t46:=Tryd.underlying89
 a46:=Tryd.isAgg89
 z46:=Tryd.sizeOf89
 v46:=Tryd.zeroValue89
 t51:=Tryd.underlying100
 a51:=Tryd.isAgg100
 z51:=Tryd.sizeOf100
 v51:=Tryd.zeroValue100
 t53:=Tryd.underlying102
 a53:=Tryd.isAgg102
 z53:=Tryd.sizeOf102
 v53:=Tryd.zeroValue102
 t131:=Tryd.underlying62
 a131:=Tryd.isAgg62
 z131:=Tryd.sizeOf62
 v131:=Tryd.zeroValue62
 t182:=Tryd.underlying92
 a182:=Tryd.isAgg92
 z182:=Tryd.sizeOf92
 v182:=Tryd.zeroValue92
 t183:=Tryd.underlying93
 a183:=Tryd.isAgg93
 z183:=Tryd.sizeOf93
 v183:=Tryd.zeroValue93
 t218:=Tryd.underlying106
 a218:=Tryd.isAgg106
 z218:=Tryd.sizeOf106
 v218:=Tryd.zeroValue106
 t222:=Tryd.underlying110
 a222:=Tryd.isAgg110
 z222:=Tryd.sizeOf110
 v222:=Tryd.zeroValue110
 t228:=Tryd.underlying114
 a228:=Tryd.isAgg114
 z228:=Tryd.sizeOf114
 v228:=Tryd.zeroValue114
 t229:=Tryd.underlying115
 a229:=Tryd.isAgg115
 z229:=Tryd.sizeOf115
 v229:=Tryd.zeroValue115 }
end Go.Proofs.YtdmnijnogabchaaDoor
end
section
set_option maxRecDepth 20000
namespace Go.Tr
open Go Go.Eng Go.RowKit Go.Proofs Go.Sort
end Go.Tr
namespace Go.Proofs.YtdmnijnogabchaaDoor
open Go Go.Eng Go.RowKit Go.Tr Go.Lib Go.Sort Go.Proofs
def qEl (l:List ByteArray):List (List Value):=l.map fun s=>[Value.string s]
theorem qRw (l:List ByteArray):Uni 1 (qEl l):=⟨fun x hx=>by obtain ⟨s,-,rfl⟩:=List.mem_map.1 hx;rfl,fun x hx v hv=>by
 obtain ⟨s,-,rfl⟩:=List.mem_map.1 hx;simp only [List.mem_singleton] at hv;subst hv;rfl⟩
theorem qEj (l:List ByteArray):pln (qEl l)=bZ l:=by simp [pln,qEl,bZ,qQc]
theorem qLg (l:List ByteArray):(qEl l).flatten=(byL l).map encStr:=by
 induction l with
|nil=>rfl
|cons s r ih=>simp only [qEl,List.map_cons,List.flatten_cons,List.singleton_append,byL] at *;rw [ih]
theorem qEk (l:List ByteArray):(qEl l).length=l.length:=by simp [qEl]
theorem qAl (l:List ByteArray):(byL l).length=l.length:=by simp [byL]
theorem zB7 {S:HS} {id:Nat} {nw:Bool} {l:List ByteArray} (hl:l.length≤4194304) {K:HV→HS→Prop} (hr:rlk S.st id=some (.sl nw 9 1 (bZ l))) (hK:K (.v (.tuple #[])) ⟨S.env,gW id (.sl nw 9 1 (bZ (tU l))) S.st⟩) :
  HAt Tryd.prog 46 [.own id] S K :=
 ⟨zMd,fun c look w ρ xs vs G R=>by
  obtain ⟨R1,R2⟩:=R
  match vs,R1 with
 |[v0],_ =>
  have r0:=R2 0 (by simp) (by simp)
  simp only [List.getElem_cons_zero] at r0
  cases r0
  by_cases h0:l=[]
  ·subst h0;obtain ⟨o1,o2,o3⟩:=cL G hr;obtain ⟨ad,cap,e0⟩:=mB o1
   have e0':ρ id=.slice ad 0 cap:=e0
   rw [e0'];refine Calls.mono (Any.slices_Sort_string_none Tryd.sortS ad cap w) ?_;rintro e w' ⟨rfl,rfl⟩;exact qAz ⟨_,_,hK,ρ,xs,G.same hr,.v _⟩
  ·have hpos:=List.length_pos_iff.2 h0
   obtain ⟨g,cap,cur,e0,b1,b2,b3,b4,b5⟩:=zF6 G (qRw l) (by decide) (by rw [qEj];exact hr) (by rw [qEk];exact hpos)
   rw [qEk] at e0 b2 b5;rw [qLg,Nat.mul_one] at b5;rw [Nat.mul_one] at b4;rw [e0]
   have hb:w.heap[g]?=some (.cells cur 9 (0,0)):=b1
   have hH:Holds encStr w g 0 (byL l).toArray:=holds_of_block hb (by rw [qAl];exact b5)
   have hcon:=Any.slices_Sort_string Tryd.sortS g 0 cap (byL l) w hH b1.lt (by rw [qAl];omega)
   rw [qAl] at hcon;refine Calls.mono hcon ?_;rintro e w' ⟨rfl,n,os,rfl⟩
   have hg:=grownBy_sorted (w:=w) (g:=g) (n:=n) (os:=os) ((byL l).mergeSort fun x y=>decide (x≤y)).toArray
   have ho:=ownsRow_sorted (w:=w) (base:=0) (n:=n) (os:=os) (ss:=byL l) (ts:=(byL l).mergeSort fun x y=>decide (x≤y)) (by simp) (Nat.zero_le g) hb (by rw [qAl];exact b2) b3 (by rw [b4,Nat.mul_one])
   have hf:((byL l).mergeSort fun x y=>decide (x≤y)).map encStr=(qEl (tU l)).flatten:=by
    rw [← qC5,qLg];generalize (byL l).mergeSort (fun x y=>decide (x≤y))=z
    unfold byL;rw [List.map_map,List.map_map];exact List.map_congr_left fun s _=>rfl
   rw [qAl,hf] at ho
   have hc:l.length=(qEl (tU l)).length:=by rw [qEk,zAl]
   have G2:=G.turnP (id:=id) (ty:=9) (sz:=1) (nw:=nw) (cs0:=qEl l) (cs:=qEl (tU l)) (qRw _) (by rw [qEj];exact hr) (by rw [← hc];exact e0) (w':=grow (putRow encStr (Sort.ahead w n) g 0 ((byL l).mergeSort fun x y=>decide (x≤y)).toArray) os) (by rw [e0,← hc];exact ho) hg.os hg.tape hg.output hg.size (fun b hlt hne=>hg.block b hlt fun e=>hne (Option.some.inj e))
   rw [qEj] at G2;exact qAz ⟨_,_,hK,ρ,_,G2,.v _⟩⟩
end Go.Proofs.YtdmnijnogabchaaDoor
end
