/-
  slices.Sort of texts: the row is sorted where it lies; the document's sorted.
-/
import Derived.Test.YtbdomkfdkfdfgaaGreatDoorTrC
import Derived.Sort.KeysCollected
import Derived.Sort.Walk0
import Derived.Test.YtbdomkfdkfdfgaaGreatDoorSrs
import Derived.Test.YtbdomkfdkfdfgaaGreatDoorTyP
import Derived.Sort.OwnSorted
set_option linter.unusedSimpArgs false
set_option linter.unusedVariables false
section
namespace Go.Tr
open Go Go.Sort Go.Proofs
def qZ6 (out:List ByteArray) (s:ByteArray):List ByteArray:=out.takeWhile (fun x=>!blt s x) ++ s :: out.dropWhile (fun x=>!blt s x)
def pJ (l:List ByteArray):List ByteArray:=l.foldl qZ6 []
def oG (t:List ByteArray):Prop:=t.Pairwise fun x y=>blt y x=false
theorem zFi {a b c:ByteArray} (h1:blt b a=false) (h2:blt c b=false):blt c a=false:=by
 cases e:blt c a with
|false=>rfl
|true =>
  rcases jJ a b with h|h|h
  ·rw [iP e h] at h2;cases h2
  ·rw [← h,e] at h2;cases h2
  ·rw [h] at h1;cases h1
theorem qZ5 {s:ByteArray}:∀ {out:List ByteArray},oG out→oG (qZ6 out s):=by
 intro out h;unfold qZ6
 induction out with
|nil=>simp [oG]
|cons x r ih =>
  obtain ⟨hx,hr⟩:=List.pairwise_cons.1 h
  cases hb:blt s x with
 |false =>
   simp only [List.takeWhile_cons,List.dropWhile_cons,hb,Bool.not_false,if_true,List.cons_append];refine List.pairwise_cons.2 ⟨fun y hy=>?_,ih hr⟩
   rcases List.mem_append.1 hy with hy|hy
   ·exact hx y ((List.takeWhile_sublist _).subset hy)
   ·rcases List.mem_cons.1 hy with rfl|hy
    ·exact hb
    ·exact hx y ((List.dropWhile_sublist _).subset hy)
 |true =>
   simp only [List.takeWhile_cons,List.dropWhile_cons,hb,Bool.not_true,Bool.false_eq_true,if_false,List.nil_append];refine List.pairwise_cons.2 ⟨fun y hy=>?_,h⟩
   rcases List.mem_cons.1 hy with rfl|hy
   ·exact iQ hb
   ·exact zFi (iQ hb) (hx y hy)
theorem zFs (out:List ByteArray) (s:ByteArray):(qZ6 out s).Perm (s :: out):=by
 unfold qZ6;refine List.perm_middle.trans (List.Perm.cons s ?_);rw [List.takeWhile_append_dropWhile]
theorem qG6:∀ (t out:List ByteArray),oG out→oG (t.foldl qZ6 out)
|[],out,h=>h
|e :: t,out,h=>by rw [List.foldl_cons];exact qG6 t _ (qZ5 h)
theorem qNd:∀ (t out:List ByteArray),(t.foldl qZ6 out).Perm (out ++ t)
|[],out=>by simp
|e :: t,out=>by
  rw [List.foldl_cons];refine (qNd t _).trans ?_;refine (List.Perm.append_right t (zFs out e)).trans ?_;exact (List.perm_middle (l₁:=out)).symm
theorem qFy (t:List ByteArray):oG (pJ t):=qG6 t [] .nil
theorem qAq (t:List ByteArray):(pJ t).Perm t:=qNd t []
theorem qD3 (t:List ByteArray):(pJ t).length=t.length:=(qAq t).length_eq
theorem qU6 {l X:List ByteArray} (h:oG X) (hp:X.Perm l):X=pJ l:=by
 refine List.Perm.eq_of_pairwise (le:=fun x y:ByteArray=>blt y x=false) (fun a b ha hb h1 h2=>?_) h (qFy l) (hp.trans (qAq l).symm)
 rcases jJ a b with h|h|h
 ·rw [h] at h2;cases h2
 ·exact h
 ·rw [h] at h1;cases h1
def byL (l:List ByteArray):List (List UInt8):=l.map fun s=>s.data.toList
theorem zLi (l:List ByteArray):(byL l).map (fun x=>(⟨x.toArray⟩:ByteArray))=l:=by
 unfold byL;rw [List.map_map]
 conv=>rhs;rw [← List.map_id l]
 exact List.map_congr_left fun s _=>rfl
theorem qGi (l:List ByteArray):((byL l).mergeSort fun x y=>decide (x≤y)).map (fun x=>(⟨x.toArray⟩:ByteArray))=pJ l:=by
 refine qU6 ?_ ?_
 ·unfold oG;rw [List.pairwise_map]
  have h:=List.pairwise_mergeSort (le:=fun x y:List UInt8=>decide (x≤y)) (fun a b c h1 h2=>by
   simp only [decide_eq_true_eq] at *;exact List.le_trans h1 h2) (fun a b=>by
   simp only [Bool.or_eq_true,decide_eq_true_eq];exact List.le_total a b) (byL l)
  refine h.imp fun {a b} hab=>?_
  simp only [decide_eq_true_eq] at hab;rw [blt,Lib.toList_data,Lib.toList_data,bytesLess_eq,decide_eq_false_iff_not];exact List.not_lt.2 hab
 ·have:=(List.mergeSort_perm (byL l) fun x y=>decide (x≤y)).map (fun x=>(⟨x.toArray⟩:ByteArray))
  rwa [zLi] at this
end Go.Tr
end
section
set_option maxRecDepth 20000
namespace Go.Proofs.YtbdomkfdkfdfgaaGreatDoor
open Go Go.Eng Go.RowKit Go.Tr Go.Lib Go.Sort Go.Proofs
def qCc (l:List ByteArray):List (List Value):=l.map fun s=>[Value.string s]
theorem qCb (l:List ByteArray):Uni 1 (qCc l):=⟨fun x hx=>by obtain ⟨s,-,rfl⟩:=List.mem_map.1 hx;rfl,fun x hx v hv=>by
 obtain ⟨s,-,rfl⟩:=List.mem_map.1 hx;simp only [List.mem_singleton] at hv;subst hv;rfl⟩
theorem rN (l:List ByteArray):pln (qCc l)=cX l:=by simp [pln,qCc,cX,qUz]
theorem wK (l:List ByteArray):(qCc l).flatten=(byL l).map encStr:=by
 induction l with
|nil=>rfl
|cons s r ih=>simp only [qCc,List.map_cons,List.flatten_cons,List.singleton_append,byL] at *;rw [ih]
theorem rP (l:List ByteArray):(qCc l).length=l.length:=by simp [qCc]
theorem hZ (l:List ByteArray):(byL l).length=l.length:=by simp [byL]
theorem zGt {S:HS} {id:Nat} {nw:Bool} {l:List ByteArray} (hl:l.length≤4194304) {K:HV→HS→Prop} (hr:rlk S.st id=some (.sl nw 9 1 (cX l))) (hK:K (.v (.tuple #[])) ⟨S.env,gJ id (.sl nw 9 1 (cX (pJ l))) S.st⟩) :
  HAt Tryz.prog 41 [.own id] S K :=
 ⟨zVl,fun c look w ρ xs vs G R=>by
  obtain ⟨R1,R2⟩:=R
  match vs,R1 with
 |[v0],_ =>
  have r0:=R2 0 (by simp) (by simp)
  simp only [List.getElem_cons_zero] at r0
  cases r0
  by_cases h0:l=[]
  ·subst h0;obtain ⟨o1,o2,o3⟩:=cM G hr;obtain ⟨ad,cap,e0⟩:=kY o1
   have e0':ρ id=.slice ad 0 cap:=e0
   rw [e0'];refine Calls.mono (Any.slices_Sort_string_none Tryz.sortS ad cap w) ?_;rintro e w' ⟨rfl,rfl⟩;exact mR ⟨_,_,hK,ρ,xs,G.same hr,.v _⟩
  ·have hpos:=List.length_pos_iff.2 h0
   obtain ⟨g,cap,cur,e0,b1,b2,b3,b4,b5⟩:=zA5 G (qCb l) (by decide) (by rw [rN];exact hr) (by rw [rP];exact hpos)
   rw [rP] at e0 b2 b5;rw [wK,Nat.mul_one] at b5;rw [Nat.mul_one] at b4;rw [e0]
   have hb:w.heap[g]?=some (.cells cur 9 (0,0)):=b1
   have hH:Holds encStr w g 0 (byL l).toArray:=holds_of_block hb (by rw [hZ];exact b5)
   have hcon:=Any.slices_Sort_string Tryz.sortS g 0 cap (byL l) w hH b1.lt (by rw [hZ];omega)
   rw [hZ] at hcon;refine Calls.mono hcon ?_;rintro e w' ⟨rfl,n,os,rfl⟩
   have hg:=grownBy_sorted (w:=w) (g:=g) (n:=n) (os:=os) ((byL l).mergeSort fun x y=>decide (x≤y)).toArray
   have ho:=ownsRow_sorted (w:=w) (base:=0) (n:=n) (os:=os) (ss:=byL l) (ts:=(byL l).mergeSort fun x y=>decide (x≤y)) (by simp) (Nat.zero_le g) hb (by rw [hZ];exact b2) b3 (by rw [b4,Nat.mul_one])
   have hf:((byL l).mergeSort fun x y=>decide (x≤y)).map encStr=(qCc (pJ l)).flatten:=by
    rw [← qGi,wK];generalize (byL l).mergeSort (fun x y=>decide (x≤y))=z
    unfold byL;rw [List.map_map,List.map_map];exact List.map_congr_left fun s _=>rfl
   rw [hZ,hf] at ho
   have hc:l.length=(qCc (pJ l)).length:=by rw [rP,qD3]
   have G2:=G.turnP (id:=id) (ty:=9) (sz:=1) (nw:=nw) (cs0:=qCc l) (cs:=qCc (pJ l)) (qCb _) (by rw [rN];exact hr) (by rw [← hc];exact e0) (w':=grow (putRow encStr (Sort.ahead w n) g 0 ((byL l).mergeSort fun x y=>decide (x≤y)).toArray) os) (by rw [e0,← hc];exact ho) hg.os hg.tape hg.output hg.size (fun b hlt hne=>hg.block b hlt fun e=>hne (Option.some.inj e))
   rw [rN] at G2;exact mR ⟨_,_,hK,ρ,_,G2,.v _⟩⟩
end Go.Proofs.YtbdomkfdkfdfgaaGreatDoor
end
