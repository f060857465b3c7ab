/-
  slices.Insert of a tree, ahead of its end.
-/
import Derived.Test.YtbdomkfdkfdfgaaGreatDoorTfl
import Derived.Deep.RegionLaw
import Derived.Shelf.RegionOpenPlain
import Derived.Lib.SliceRun
import Derived.Shelf.Spec.SlicesInsert
import Derived.Lib.AppendZerosOnto
import Derived.Laws.NewBlocks
import Derived.Lib.Overlaps
import Derived.Laws.Externs
set_option linter.unusedSimpArgs false
set_option linter.unusedVariables false
section
set_option maxRecDepth 20000
namespace Go.Proofs.YtbdomkfdkfdfgaaGreatDoor
open Go Go.Eng Go.RowKit Go.Tr Go.Lib
def qGl (l:List Value) (i:Nat):List Value:=l.take (i * 3) ++ l.drop ((i + 1) * 3)
def zEnt3:List Value:=[.string ByteArray.empty,.int .i64 0,.string ByteArray.empty]
theorem zN6:(Builtin.zeroCells #[.string ByteArray.empty,.int .i64 0,.string ByteArray.empty] 1).toList=zEnt3:=by
 simp [Builtin.zeroCells,zEnt3,List.range,List.range.loop]
theorem qWt {α:Type} (l:List α) (p:Nat) (cs:List α) (h:p≤l.length):(splice l p cs).take p=l.take p:=by
 rw [splice,List.append_assoc,List.take_left' (by rw [List.length_take];omega)]
theorem xL {α:Type} (l:List α) (p q:Nat) (cs:List α) (h:p≤l.length) (e:q=p + cs.length):(splice l p cs).take q=l.take p ++ cs:=by
 rw [splice,List.take_left' (by rw [List.length_append,List.length_take];omega)]
set_option maxHeartbeats 4000000 in
set_option maxRecDepth 100000 in
theorem qWh (w:World) (g n cap i j:Nat) (cur:Array Value) (hg:Blk w g cur 67) (hn:n≤cap) (hcap:cap≤maxLen) (hs:cur.size=cap * 3) (hj:j=i + 1) (hi:j≤n) (h1:∀ u ∈ cur.toList.take (n * 3),u.oneCell'=true) :
  Calls Tryz.prog 69 #[.slice (some ⟨g,0,none⟩) n cap,.int .i64 i,.int .i64 j] w (Ret fun r w'=>r=.slice (some ⟨g,0,none⟩) (n - 1) cap∧Only g w w'∧∃ cur',Blk w' g cur' 67∧cur'.size=cap * 3∧cur'.toList.take ((n - 1) * 3)=qGl (cur.toList.take (n * 3)) i):=by
 have mixed:=mixed
 have hcap':cap≤9223372036854775807:=by simpa [maxLen] using hcap
 obtain ⟨news,hnews⟩:∃ news,news=(cur.toList.take (n * 3)).drop (j * 3):=⟨_,rfl⟩
 have hlen:news.length=(n - j) * 3:=by rw [hnews,List.length_drop,List.length_take,Array.length_toList];omega
 have hget:∀ t u,news[t]?=some u→cur[j * 3 + t]?=some u:=fun t u hu=>by
  rw [hnews,List.getElem?_drop] at hu
  have hlt:j * 3 + t < n * 3:=by
   rcases Nat.lt_or_ge (j * 3 + t) (n * 3) with h|h
   ·exact h
   ·rw [List.getElem?_take_eq_none h] at hu;cases hu
  rw [List.getElem?_take_of_lt hlt,Array.getElem?_toList] at hu;exact hu
 obtain ⟨A,hA,hsrc⟩:∃ A:Addr,(if cap=j then (some ⟨g,0,none⟩:Option Addr) else some ⟨g,j * 3,none⟩)=some A∧Hid (∀ t u,news[t]?=some u→w.drew.cell? (A.add t)=some u):=by
  by_cases h:cap=j
  ·refine ⟨⟨g,0,none⟩,by simp [h],fun t u hu=>?_⟩
   have h0:news.length=0:=by rw [hlen];omega
   rw [List.length_eq_zero_iff.1 h0] at hu;simp at hu
  ·refine ⟨⟨g,j * 3,none⟩,by simp [h],fun t u hu=>?_⟩
   rw [Addr.add_lit]
   have e:w.drew.cell? ⟨g,j * 3 + t,none⟩=cur[j * 3 + t]?:=hg.cell _
   rw [e];exact hget t u hu
 have s1:Hid (news.length=(n - j) * 3):=hlen
 have s2:Hid (∀ u ∈ news,u.oneCell'=true):=fun u hu=>h1 u (by rw [hnews] at hu;exact List.mem_of_mem_drop hu)
 have hgd:Blk w.drew g cur 67:=hg
 have s3:Hid (∀ t,t < news.length→(w.drew.cell? ⟨g,0 + i * 3 + t,none⟩).isSome=true∧w.drew.frozen? ⟨g,0 + i * 3 + t,none⟩=false):=fun t ht=>by
  rw [hlen] at ht;exact ⟨by rw [hgd.cell];simp;omega,frozen_of_row _ g _ cur 67 hgd⟩
 obtain ⟨b1,o1⟩:=qJ news (i * 3) hgd (by rw [hlen];omega)
 have hcl:Hid (∀ ty m,(Builtin.clear_ #[22] ty #[.slice (some ⟨g,(i + (n - j)) * 3,none⟩) (n - (i + (n - j))) m]).run Tryz.prog (w.drew.setCells g (i * 3) news)=.ok (.tuple #[]) ((w.drew.setCells g (i * 3) news).setCells g ((i + (n - j)) * 3) zEnt3)):=fun ty m=>by
  have e1:n - (i + (n - j))=1:=by omega
  rw [e1];obtain ⟨hu,ti,u,hti,h2,h3,h4,h5⟩:=jL (zBi)
  have hst:=run_storeCells_cells (P:=Tryz.prog) g ((i + (n - j)) * 3) zEnt3 0 (w.drew.setCells g (i * 3) news) (fun t ht=>by
   rw [b1.cell];simp [splice,zEnt3] at ht ⊢;omega) (fun t ht=>frozen_of_row _ g _ _ 67 b1) (by decide)
  have hz:(Builtin.zeroCells u.cells 1).toList=zEnt3:=by rw [h5];exact zN6
  simp [Builtin.clear_,run_underlying hu,zeroValue,typeInfo,hti,h4,hz];rw [Nat.add_zero] at hst;rw [hst];rfl
 obtain ⟨b2,o2⟩:=qJ zEnt3 ((i + (n - j)) * 3) b1 (by simp [splice,zEnt3];omega)
 have hfin:Hid (Only g w ((w.drew.setCells g (i * 3) news).setCells g ((i + (n - j)) * 3) zEnt3)∧∃ cur',Blk ((w.drew.setCells g (i * 3) news).setCells g ((i + (n - j)) * 3) zEnt3) g cur' 67∧cur'.size=cap * 3∧cur'.toList.take ((n - 1) * 3)=qGl (cur.toList.take (n * 3)) i):=by
  have o0:Only g w w.drew:=⟨rfl,rfl,rfl,rfl,fun _ _=>rfl⟩
  have hcl:cur.toList.length=cap * 3:=by rw [Array.length_toList,hs]
  have l1:(splice cur.toList (i * 3) news).length=cap * 3:=by rw [cQ _ _ _ (by omega),hcl]
  have hz3:zEnt3.length=3:=rfl
  refine ⟨(o0.trans o1).trans o2,_,b2,?_,?_⟩
  ·rw [List.size_toArray,cQ _ _ _ (by rw [l1];omega),l1]
  ·show List.take _ (splice (splice cur.toList (i * 3) news) _ zEnt3)=_
   rw [show i + (n - j)=n - 1 by omega,qWt _ _ _ (by rw [l1];omega),xL _ _ _ _ (by omega) (by omega),qGl,hnews,List.take_take,Nat.min_eq_left (by omega),hj]
 clear b1 o1 b2 o2 hgd hget hnews hlen
 have hic:i≤cap:=by omega
 have hjc:j≤cap:=by omega
 have hnj:Hid (i + (n - j)=n - 1):=(by omega:i + (n - j)=n - 1)
 have hij:i < j:=by omega
 have hij2:¬ ((i:Int)=(j:Int)):=by omega
 clear hj
 go_enter Tryz.func69,Tryz.ntmps69
 go_wp2_with fail
 go_region_law_o (refine step_append_room rfl (.tmp 22) (.tmp 25) 22 rfl 67 _ 3 Tryz.underlying22 rfl rfl g 0 i cap (by simp [Act.eval,Act.put]) A (n - j) (cap - j) news (by simp [Act.eval,Act.put,hA]) s1.out hsrc.out s2.out (by omega) s3.out ?_)
 go_wp2
 rw [hcl.out]
 go_wp2
 go_ret
 exact ⟨by rw [hnj.out];rfl,hfin.out⟩
end Go.Proofs.YtbdomkfdkfdfgaaGreatDoor
end
section
set_option maxRecDepth 20000
namespace Go.Proofs.YtbdomkfdkfdfgaaGreatDoor
open Go Go.Eng Go.RowKit Go.Tr Go.Lib
def nG (l:List Value) (i:Nat) (e:List Value):List Value:=l.take (i * 3) ++ e ++ l.drop (i * 3)
theorem qC0 {w:World} {t e:TypeId} {i:TypeInfo} (hu:Tryz.prog.underlying t=some (.slice e)) (hi:Tryz.prog.info? e=some i) {g o dLen k m sc:Nat} {b:Addr} {news:List Value} {cur:Array Value} {t':TypeId} (hk:min m dLen=k) (hl:news.length=k * i.size)
  (hc:∀ j u,news[j]?=some u→w.cell? (b.add j)=some u) (h1:∀ u ∈ news,u.oneCell'=true) (hg:Blk w g cur t') (hfit:o + k * i.size≤cur.size) (ty:TypeId) (dCap:Nat) :
  (Builtin.copy_ #[t,t] ty #[.slice (some ⟨g,o,none⟩) dLen dCap,.slice (some b) m sc]).run Tryz.prog w=.ok (goInt k) (w.setRow g (splice cur.toList o news).toArray):=by
 have r1:=run_loadCells_list (P:=Tryz.prog) w b news hc
 have r2:=run_storeCells_at Tryz.prog g o t' news 0 cur w hg (by rw [hl];simpa using hfit) h1
 rw [hl] at r1
 have e:Nat.min m dLen=k:=hk
 simp [Builtin.copy_,run_underlying hu,sizeOf,typeInfo,hi,Builtin.lenOf,Builtin.firstCells,e,r1,r2,Eng.splice]
set_option maxHeartbeats 4000000 in
set_option maxRecDepth 100000 in
theorem qV7 (w:World) (g n cap i vb vc:Nat) (cur cv:Array Value) (hg:Blk w g cur 67) (hv:Blk w vb cv 67) (hne:vb≠g) (hn:n + 1≤cap) (hcap:cap≤maxLen) (hs:cur.size=cap * 3) (hcv:cv.size=vc * 3) (hvc:1≤vc) (hi:i < n) (h1:∀ u ∈ cur.toList.take (n * 3),u.oneCell'=true) (h2:∀ u ∈ cv.toList.take 3,u.oneCell'=true) :
  Calls Tryz.prog 70 #[.slice (some ⟨g,0,none⟩) n cap,.int .i64 i,.slice (some ⟨vb,0,none⟩) 1 vc] w (Ret fun r w'=>r=.slice (some ⟨g,0,none⟩) (n + 1) cap∧Only g w w'∧∃ cur',Blk w' g cur' 67∧cur'.size=cap * 3∧cur'.toList.take ((n + 1) * 3)=nG (cur.toList.take (n * 3)) i (cv.toList.take 3)):=by
 have mixed:=mixed
 have hcap':cap≤9223372036854775807:=by simpa [maxLen] using hcap
 have hic:i≤cap:=by omega
 have hi1:i + 1≤cap:=by omega
 have hz2:¬ ((i:Int)=(n:Int)):=by omega
 have hin:i≤n:=by omega
 have hn1:n≤cap:=by omega
 have hroom:¬ ((cap:Int) < (n:Int) + 1):=by omega
 have hov:∀ lb cb,(callFunc 100 #[.slice (some ⟨vb,0,none⟩) 1 vc,.slice (some ⟨g,(i + 1) * 3,none⟩) lb cb]).run Tryz.prog w=.ok (.value (.bool false)) w:=fun lb cb=>by
  have hv':w.heap[vb]?=some (.cells cv 67 (0,0)):=hv
  have hg':w.heap[g]?=some (.cells cur 67 (0,0)):=hg
  rw [run_callFunc_extern Tryz.func100 (by kernel_rfl) (by kernel_rfl) (by kernel_rfl) (e:=Extern.SlicesOverlaps.overlaps #[22,22] #[4]) (by kernel_rfl),
   Lib.run_overlaps_apart w 22 4 67 Tryz.underlying22 3 (fun w=>qM6 zLg w) ⟨vb,0,none⟩ ⟨g,(i + 1) * 3,none⟩ 1 vc lb cb hne 67 67 cv.size cur.size (by simp [World.shape?,hv']) (by simp [World.shape?,hg']) (by omega) (frozen_of_row _ vb _ cv 67 hv) (frozen_of_row _ vb _ cv 67 hv)]
  rfl
 obtain ⟨hu,ti,u,hti,t2,t3,t4,t5⟩:=jL (zBi);obtain ⟨news,hnews⟩:∃ news,news=(cur.toList.take (n * 3)).drop (i * 3):=⟨_,rfl⟩
 have hcl:cur.toList.length=cap * 3:=by rw [Array.length_toList,hs]
 have hlen:news.length=(n - i) * 3:=by rw [hnews,List.length_drop,List.length_take,hcl];omega
 have hget:∀ t u,news[t]?=some u→cur[i * 3 + t]?=some u:=fun t u hu=>by
  rw [hnews,List.getElem?_drop] at hu
  have hlt:i * 3 + t < n * 3:=by
   rcases Nat.lt_or_ge (i * 3 + t) (n * 3) with h|h
   ·exact h
   ·rw [List.getElem?_take_eq_none h] at hu;cases hu
  rw [List.getElem?_take_of_lt hlt,Array.getElem?_toList] at hu;exact hu
 obtain ⟨X1,hX1⟩:∃ X1:Array Value,X1=(splice cur.toList ((i + 1) * 3) news).toArray:=⟨_,rfl⟩
 have hX1l:X1.toList.length=cap * 3:=by rw [hX1];show (splice _ _ _).length=_;rw [cQ _ _ _ (by rw [hlen];omega),hcl]
 have hX1s:X1.size=cap * 3:=by rw [← Array.length_toList,hX1l]
 have hgd:Blk w.drew g cur 67:=hg
 have hcp1:∀ ty dc sc,(Builtin.copy_ #[22,22] ty #[.slice (some ⟨g,(i + 1) * 3,none⟩) (n - i) dc,.slice (some ⟨g,i * 3,none⟩) (n + 1 - i) sc]).run Tryz.prog w.drew=.ok (goInt (n - i:Nat)) (w.drew.setRow g X1):=fun ty dc sc=>by
  have:=qC0 (w:=w.drew) (o:=(i + 1) * 3) (dLen:=n - i) (k:=n - i) (m:=n + 1 - i) (sc:=sc) (b:=⟨g,i * 3,none⟩) hu hti (by omega) (by rw [t2];exact hlen) (fun j u hj=>by rw [Addr.add_lit,hgd.cell];exact hget j u hj) (fun u hu=>h1 u (by rw [hnews] at hu;exact List.mem_of_mem_drop hu)) hgd (by rw [t2];omega) ty dc
  rw [← hX1] at this;exact this
 have b1:Blk (w.drew.setRow g X1) g X1 67:=iU hgd X1
 have bv1:Blk (w.drew.setRow g X1) vb cv 67:=Blk.only (h:=(show Blk w.drew vb cv 67 from hv)) (fF w.drew g X1) hne
 obtain ⟨ev,hev⟩:∃ ev,ev=cv.toList.take 3:=⟨_,rfl⟩
 have hevl:ev.length=3:=by rw [hev,List.length_take,Array.length_toList,hcv];omega
 obtain ⟨X2,hX2⟩:∃ X2:Array Value,X2=(splice X1.toList (i * 3) ev).toArray:=⟨_,rfl⟩
 have hcp2:∀ ty dc,(Builtin.copy_ #[22,22] ty #[.slice (some ⟨g,i * 3,none⟩) (n + 1 - i) dc,.slice (some ⟨vb,0,none⟩) 1 vc]).run Tryz.prog (w.drew.setRow g X1)=.ok (goInt (1:Nat)) ((w.drew.setRow g X1).setRow g X2):=fun ty dc=>by
  have:=qC0 (w:=w.drew.setRow g X1) (o:=i * 3) (dLen:=n + 1 - i) (k:=1) (m:=1) (sc:=vc) (b:=⟨vb,0,none⟩) hu hti (by omega) (by rw [t2];exact hevl) (fun j u hj=>by
   rw [Addr.add_lit,bv1.cell,Nat.zero_add];rw [hev] at hj
   rcases Nat.lt_or_ge j 3 with h|h
   ·rw [List.getElem?_take_of_lt h,Array.getElem?_toList] at hj;exact hj
   ·rw [List.getElem?_take_eq_none h] at hj;cases hj) (fun u hu=>h2 u (by rw [hev] at hu;exact hu)) b1 (by rw [t2];omega) ty dc
  rw [← hX2] at this;exact this
 have hfin:Hid (Only g w ((w.drew.setRow g X1).setRow g X2)∧∃ cur',Blk ((w.drew.setRow g X1).setRow g X2) g cur' 67∧cur'.size=cap * 3∧cur'.toList.take ((n + 1) * 3)=nG (cur.toList.take (n * 3)) i ev):=by
  have o0:Only g w w.drew:=⟨rfl,rfl,rfl,rfl,fun _ _=>rfl⟩
  refine ⟨(o0.trans (fF w.drew g X1)).trans (fF _ g X2),X2,iU b1 X2,?_,?_⟩
  ·rw [hX2,List.size_toArray,cQ _ _ _ (by rw [hX1l];omega),hX1l]
  ·rw [hX2];show List.take _ (splice _ _ _)=_
   apply List.ext_getElem?
   intro j
   have hX1e:X1.toList=splice cur.toList ((i + 1) * 3) news:=by rw [hX1]
   by_cases hj:j < (n + 1) * 3
   ·rw [List.getElem?_take_of_lt hj,dM _ _ _ (by omega),hX1e,dM _ _ _ (by omega),nG,← hnews]
    have e1:((cur.toList.take (n * 3)).take (i * 3)).length=i * 3:=by rw [List.length_take,List.length_take];omega
    rw [List.append_assoc]
    by_cases j1:j < i * 3
    ·rw [if_neg (by omega),if_neg (by omega),List.getElem?_append_left (by omega),List.getElem?_take_of_lt j1,List.getElem?_take_of_lt (by omega)]
    ·rw [List.getElem?_append_right (by omega),e1]
     by_cases j2:j < (i + 1) * 3
     ·rw [if_pos (by omega),List.getElem?_append_left (by omega)]
     ·rw [if_neg (by omega),if_pos (by omega),List.getElem?_append_right (by omega),hevl]
      congr 1
      omega
   ·rw [List.getElem?_eq_none (by rw [List.length_take];omega),List.getElem?_eq_none]
    rw [nG,← hnews,List.length_append,List.length_append,List.length_take,List.length_take];omega
 have HV:Hid (∀ lb cb,_):=hov
 have H1:Hid (∀ ty dc sc,_):=hcp1
 have H2:Hid (∀ ty dc,_):=hcp2
 rw [← hev];clear b1 bv1 hcp1 hcp2 hov hX1 hX2 hgd hget hnews hlen hX1l hX1s hev hevl
 have hw1:IntKind.i64.wrap ((i:Int) + 1)=(i:Int) + 1:=by rw [IntKind.wrap_i64];omega
 have hb1:(0:Int)≤(i:Int) + 1:=by omega
 have htn:((i:Int) + 1).toNat=i + 1:=by omega
 have hb2:¬ (cap=i + 1):=by omega
 have hb3:(i:Int)≤(n:Int):=by omega
 have hb4:¬ (cap=i):=by omega
 have hb5:(i:Int)≤(n:Int) + 1:=by omega
 have hb6:(i:Int) + 1≤(n:Int) + 1:=by omega
 go_enter Tryz.func70,Tryz.ntmps70
 go_wp2_with fail
 rw [HV.out]
 go_wp2_with fail
 go_region_law_o (refine step_copy_runI rfl _ _ 22 22 rfl _ _ (by simp [Act.eval,Act.put]) (by simp [Act.eval,Act.put]) (H1.out _ (cap - (i + 1)) (cap - i)) ?_)
 go_wp2
 rw [H2.out]
 go_wp2
 go_ret
 exact ⟨rfl,hfin.out⟩
set_option maxHeartbeats 4000000 in
set_option maxRecDepth 100000 in
theorem qYf (w:World) (g n cap i vb vc:Nat) (cur cv:Array Value) (hg:Blk w g cur 67) (hv:Blk w vb cv 67) (hn:n≤cap) (hroom:cap < n + 1) (hbig:(n + 1) * 40≤140737488355328) (hs:cur.size=cap * 3) (hcv:cv.size=vc * 3) (hvc:1≤vc) (hi:i < n) (h1:∀ u ∈ cur.toList.take (n * 3),u.oneCell'=true) (h2:∀ u ∈ cv.toList.take 3,u.oneCell'=true) :
  Calls Tryz.prog 70 #[.slice (some ⟨g,0,none⟩) n cap,.int .i64 i,.slice (some ⟨vb,0,none⟩) 1 vc] w (Ret fun r w'=>∃ G,r=.slice (some ⟨w.heap.size,0,none⟩) (n + 1) G∧n + 1≤G∧G≤maxLen∧Below w.heap.size w w'∧∃ cur',Blk w' w.heap.size cur' 67∧cur'.size=G * 3∧cur'.toList.take ((n + 1) * 3)=nG (cur.toList.take (n * 3)) i (cv.toList.take 3)):=by
 have mixed:=mixed
 obtain ⟨hu,ti,z,hti,t2,t3,t4,t5⟩:=jL (zBi)
 have hcl:cur.toList.length=cap * 3:=by rw [Array.length_toList,hs]
 obtain ⟨N,hN⟩:∃ N,N=w.heap.size:=⟨_,rfl⟩
 have hgN:g < N:=by rw [hN];exact hg.lt
 have hvN:vb < N:=by rw [hN];exact hv.lt
 obtain ⟨G,hG⟩:∃ G,G=grownCap w (n + 1) cap 67:=⟨_,rfl⟩
 have hGn:n + 1≤G:=by rw [hG];exact grownCap_ge w _ _ _
 have hGm:G≤maxLen:=by rw [hG];exact grownCap_le_maxLen w (n + 1) cap 67 (by unfold maxLen;omega)
 obtain ⟨ROW,hROW⟩:∃ ROW:Array Value,ROW=(cur.toList.take (i * 3)).toArray ++ Builtin.zeroCells z.cells (n + 1 - i) ++ Builtin.zeroCells z.cells (G - (n + 1)):=⟨_,rfl⟩
 have hRl:ROW.size=G * 3:=by
  have hz3:∀ k,(Builtin.zeroCells z.cells k).size=k * 3:=fun k=>by rw [t5];simp [Builtin.zeroCells]
  rw [hROW,Array.size_append,Array.size_append,hz3,hz3,List.size_toArray,List.length_take,hcl];omega
 have hRt:ROW.toList.take (i * 3)=cur.toList.take (i * 3):=by
  rw [hROW,Array.toList_append,Array.toList_append,List.append_assoc,List.take_left' (by simp only [List.toList_toArray,List.length_take];omega)]
 have hrz:∀ ty,(Builtin.append_ #[22,3] ty #[.slice (some ⟨g,0,none⟩) i cap,.int .i64 ((n:Int) + 1 - (i:Int))]).run Tryz.prog w=.ok (.slice (some ⟨N,0,none⟩) (n + 1) G) (w.drew.alloc (.cells ROW 67)):=fun ty=>by
  have hold:(Builtin.firstCells ti.size i (.slice (some ⟨g,0,none⟩) i cap)).run Tryz.prog w.drew=.ok (cur.toList.take (i * 3)).toArray w.drew:=by
   rw [t2];exact run_firstCells_some w.drew 3 i ⟨g,0,none⟩ i cap (cur.toList.take (i * 3)) (by rw [List.length_take];omega) (fun j v hj=>by
    rw [Addr.add_lit,Nat.zero_add]
    have e:w.drew.cell? ⟨g,j,none⟩=cur[j]?:=hg.cell j
    rw [e];rw [List.getElem?_take] at hj;split at hj
    ·rw [Array.getElem?_toList] at hj;exact hj
    ·cases hj)
  have h:=Lib.run_append_grow_zeros w 22 3 ty 67 ti _ .i64 .i64 Tryz.underlying22 Tryz.underlying3 hti t4 (some ⟨g,0,none⟩) i cap _ hold (n + 1 - i) (by omega) (by omega) (by omega) (by omega) (by rw [t3];omega) (by rw [t3,show i + (n + 1 - i)=n + 1 by omega];exact growslice_fits hroom hbig)
  rw [show i + (n + 1 - i)=n + 1 by omega,← hG,← hROW,← hN] at h
  rw [show (n:Int) + 1 - (i:Int)=((n + 1 - i:Nat):Int) by omega]
  exact h
 have b0:Blk (w.alloc (.cells ROW 67)).drew N ROW 67:=by rw [hN];exact Blk.new w ROW 67
 have hvA:Blk (w.alloc (.cells ROW 67)).drew vb cv 67:=Blk.alloc hv _
 have hgA:Blk (w.alloc (.cells ROW 67)).drew g cur 67:=Blk.alloc hg _
 obtain ⟨ev,hev⟩:∃ ev,ev=cv.toList.take 3:=⟨_,rfl⟩
 have hevl:ev.length=3:=by rw [hev,List.length_take,Array.length_toList,hcv];omega
 obtain ⟨X1,hX1⟩:∃ X1:Array Value,X1=(splice ROW.toList (i * 3) ev).toArray:=⟨_,rfl⟩
 have hRL:ROW.toList.length=G * 3:=by rw [Array.length_toList,hRl]
 have hX1l:X1.toList.length=G * 3:=by rw [hX1];show (splice _ _ _).length=_;rw [cQ _ _ _ (by rw [hevl];omega),hRL]
 have hX1s:X1.size=G * 3:=by rw [← Array.length_toList,hX1l]
 have hcp1:∀ ty dc,(Builtin.copy_ #[22,22] ty #[.slice (some ⟨N,i * 3,none⟩) (n + 1 - i) dc,.slice (some ⟨vb,0,none⟩) 1 vc]).run Tryz.prog (w.alloc (.cells ROW 67)).drew=.ok (goInt (1:Nat)) ((w.alloc (.cells ROW 67)).drew.setRow N X1):=fun ty dc=>by
  have:=qC0 (w:=(w.alloc (.cells ROW 67)).drew) (o:=i * 3) (dLen:=n + 1 - i) (k:=1) (m:=1) (sc:=vc) (b:=⟨vb,0,none⟩) hu hti (by omega) (by rw [t2];exact hevl) (fun j u hj=>by
   rw [Addr.add_lit,hvA.cell,Nat.zero_add];rw [hev] at hj
   rcases Nat.lt_or_ge j 3 with h|h
   ·rw [List.getElem?_take_of_lt h,Array.getElem?_toList] at hj;exact hj
   ·rw [List.getElem?_take_eq_none h] at hj;cases hj) (fun u hu=>h2 u (by rw [hev] at hu;exact hu)) b0 (by rw [t2];omega) ty dc
  rw [← hX1] at this;exact this
 have b1:Blk ((w.alloc (.cells ROW 67)).drew.setRow N X1).drew N X1 67:=iU b0 X1
 have hgB:Blk ((w.alloc (.cells ROW 67)).drew.setRow N X1).drew g cur 67:=show Blk ((w.alloc (.cells ROW 67)).drew.setRow N X1) g cur 67 from Blk.only hgA (fF _ N X1) (Nat.ne_of_lt hgN)
 obtain ⟨news,hnews⟩:∃ news,news=(cur.toList.take (n * 3)).drop (i * 3):=⟨_,rfl⟩
 have hlen:news.length=(n - i) * 3:=by rw [hnews,List.length_drop,List.length_take,hcl];omega
 have hget:∀ t u,news[t]?=some u→cur[i * 3 + t]?=some u:=fun t u hu=>by
  rw [hnews,List.getElem?_drop] at hu
  have hlt:i * 3 + t < n * 3:=by
   rcases Nat.lt_or_ge (i * 3 + t) (n * 3) with h|h
   ·exact h
   ·rw [List.getElem?_take_eq_none h] at hu;cases hu
  rw [List.getElem?_take_of_lt hlt,Array.getElem?_toList] at hu;exact hu
 obtain ⟨X2,hX2⟩:∃ X2:Array Value,X2=(splice X1.toList ((i + 1) * 3) news).toArray:=⟨_,rfl⟩
 have hcp2:∀ ty dc sc,(Builtin.copy_ #[22,22] ty #[.slice (some ⟨N,(i + 1) * 3,none⟩) (n - i) dc,.slice (some ⟨g,i * 3,none⟩) (n - i) sc]).run Tryz.prog ((w.alloc (.cells ROW 67)).drew.setRow N X1).drew=.ok (goInt (n - i:Nat)) (((w.alloc (.cells ROW 67)).drew.setRow N X1).drew.setRow N X2):=fun ty dc sc=>by
  have:=qC0 (w:=((w.alloc (.cells ROW 67)).drew.setRow N X1).drew) (o:=(i + 1) * 3) (dLen:=n - i) (k:=n - i) (m:=n - i) (sc:=sc) (b:=⟨g,i * 3,none⟩) hu hti (by omega) (by rw [t2];exact hlen) (fun j u hj=>by rw [Addr.add_lit,hgB.cell];exact hget j u hj) (fun u hu=>h1 u (by rw [hnews] at hu;exact List.mem_of_mem_drop hu)) b1 (by rw [t2];omega) ty dc
  rw [← hX2] at this;exact this
 have hfin:Hid (Below N w (((w.alloc (.cells ROW 67)).drew.setRow N X1).drew.setRow N X2)∧∃ cur',Blk (((w.alloc (.cells ROW 67)).drew.setRow N X1).drew.setRow N X2) N cur' 67∧cur'.size=G * 3∧cur'.toList.take ((n + 1) * 3)=nG (cur.toList.take (n * 3)) i ev):=by
  refine ⟨?_,X2,iU b1 X2,?_,?_⟩
  ·have hb0:Below N w (w.alloc (.cells ROW 67)).drew:=by
    have h:=(Below.refl w.heap.size w).alloc (Nat.le_refl _) (.cells ROW 67)
    rw [hN];exact ⟨h.os,h.tape,h.output,h.size,h.block⟩
   have hb1:=(fF (w.alloc (.cells ROW 67)).drew N X1).below hb0 (Nat.le_refl _)
   have hb2:Below N w ((w.alloc (.cells ROW 67)).drew.setRow N X1).drew:=⟨hb1.os,hb1.tape,hb1.output,hb1.size,hb1.block⟩
   exact (fF _ N X2).below hb2 (Nat.le_refl _)
  ·rw [hX2,List.size_toArray,cQ _ _ _ (by rw [hX1l];omega),hX1l]
  ·rw [hX2];show List.take _ (splice _ _ _)=_
   have hX1e:X1.toList=splice ROW.toList (i * 3) ev:=by rw [hX1]
   rw [xL _ _ _ _ (by omega) (by omega),hX1e,xL _ _ _ _ (by omega) (by omega),hRt,nG,← hnews,List.take_take,Nat.min_eq_left (by omega)]
 have hG63:G≤9223372036854775807:=by unfold maxLen at hGm;omega
 have HZ:Hid (∀ ty,_):=hrz
 have H1:Hid (∀ ty dc,_):=hcp1
 have H2:Hid (∀ ty dc sc,_):=hcp2
 have HG:Hid (G≤maxLen):=hGm
 rw [← hev,← hN];clear hG hRl hRt b0 hvA hgA hevl hX1 hRL hX1l hX1s b1 hgB hlen hget hX2 hnews hev hrz hcp1 hcp2 hROW hGm;clear hN
 have hz2:¬ ((i:Int)=(n:Int)):=by omega
 have hz3:(cap:Int) < (n:Int) + 1:=by omega
 have hGi:¬ (G=i):=by omega
 have hGim:¬ (G=i + 1):=by omega
 have hci:¬ (cap=i):=by omega
 have hw1:IntKind.i64.wrap ((i:Int) + 1)=(i:Int) + 1:=by rw [IntKind.wrap_i64];omega
 have hb1:(0:Int)≤(i:Int) + 1:=by omega
 have hin:i≤n:=by omega
 have hic:i≤cap:=by omega
 have htn:((i:Int) + 1).toNat=i + 1:=by omega
 have hb3:(i:Int)≤(n:Int):=by omega
 have hb5:(i:Int)≤(n:Int) + 1:=by omega
 have hb6:(i:Int) + 1≤(n:Int) + 1:=by omega
 go_enter Tryz.func70,Tryz.ntmps70
 go_wp2_with (first
 |(at_builtin;refine Lib.wpList_append_run _ rfl _ _ _ _ rfl _ _ rfl rfl _ _ (HZ.out _) ?_)
 |(at_builtin;refine wpList_copy_runI _ rfl _ _ 22 22 rfl _ _ rfl rfl (H1.out _ _) ?_)
 |(at_builtin;refine wpList_copy_runI _ rfl _ _ 22 22 rfl _ _ rfl rfl (H2.out _ _ _) ?_))
 rw [H1.out]
 go_wp2_with fail
 go_region_law_o (refine step_copy_runI rfl _ _ 22 22 rfl _ _ (by simp [Act.eval,Act.put]) (by simp [Act.eval,Act.put]) (H2.out _ (G - (i + 1)) (cap - i)) ?_)
 go_wp2
 go_ret
 exact ⟨G,rfl,hGn,HG.out,hfin.out⟩
end Go.Proofs.YtbdomkfdkfdfgaaGreatDoor
end
