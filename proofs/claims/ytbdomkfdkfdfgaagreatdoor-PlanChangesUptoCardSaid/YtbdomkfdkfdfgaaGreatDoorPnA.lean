/-
  Plan: what steps make of a tree; the steps between two trees, every beginning of them: plain.
-/
import Derived.RangeFuncBox
import Derived.RangeFuncLeaves
import Derived.Shelf.Abstract
import Derived.WalkKit
import Derived.OwnWalkIn
import Derived.TacticsInMore
import Derived.LoopNIn
import Derived.LoopIn
import Derived.Test.YtbdomkfdkfdfgaaGreatDoorRng
import Derived.Test.YtbdomkfdkfdfgaaGreatDoorProg
import Derived.Test.YtbdomkfdkfdfgaaGreatDoorTka
set_option linter.unusedSimpArgs false
set_option linter.unusedVariables false
section
namespace Go.Proofs.YtbdomkfdkfdfgaaGreatDoor
open Go Go.RowKit Go.Shelf
attribute [local go_sem] Oper.semAt_some
def rv (len:Nat):List (Fin len):=(List.finRange len).reverse
theorem qD6 (len:Nat):(rv len).length=len:=by simp [rv]
theorem zMf {len k:Nat} (h:k < len):(rv len).take (k + 1)=(rv len).take k ++ [⟨len - 1 - k,by omega⟩]:=by
 rw [List.take_succ_eq_append_getElem (by rw [qD6];exact h)]
 congr 2
 simp [rv,List.getElem_reverse]
set_option maxRecDepth 100000 in
set_option maxHeartbeats 4000000 in
theorem zRr (F:Fence) (n:Nat) (h71:F.fn 71) (hro:F.round=none) (hn:1≤n) (l Bs:Nat) (T:Nat→Prop) (b off len cap:Nat) (vals:Nat→Nat→Value) (hreach:len * 40≤140737488351232) (hTb:T b) (hTs:T Bs) (J Jx:List (Fin len)→World→Prop)
  (hY:∀ pre (x:Fin len) W,J pre W→pre.length < len→YieldAt F (n - 1) Tryz.prog l #[.int .i64 ((x:Nat):Int),.agg #[vals x 0,vals x 1,vals x 2]] W fun e W' =>
   (e=.returned (.bool true)∧J (pre ++ [x]) W'∧Eng.Stay T W W')∨(e=.returned (.bool false)∧Jx (pre ++ [x]) W'))
  (W:World) (hBs:W.cell? ⟨Bs,0,none⟩=some (.slice (some ⟨b,off,none⟩) len cap))
  (hc:∀ i k,i < len→k < 3→W.cell? ⟨b,off + (i * 3 + k),none⟩=some (vals i k)) (h0:J [] W) :
  CallsIn F n Tryz.prog 71 #[.func (.yield l) #[] #[],.pointer (some ⟨Bs,0,none⟩)] W fun e W'=>(∃ v,e=.returned v) ∧
   ((∃ ys,ys=rv len∧J ys W')∨(∃ pre,True∧Jx pre W')):=by
 refine callsIn_of_wp Tryz.func71 rfl h71 ?_ hro;simp only [Tryz.ntmps71,List.size_toArray,List.length_cons,List.length_nil,Nat.reduceAdd,Nat.reduceSub,Array.replicate_succ,Array.replicate_zero,List.push_toArray,List.append_toArray,List.nil_append,List.cons_append]
 gi_wp2
 gi_loopw [3] (fun i wr=>∃ k:Nat,k≤len∧i=.int .i64 ((len:Int) - 1 - k)∧J ((rv len).take k) wr∧Eng.Stay T W wr)
  (fun i _=>(intOf i + 1).toNat)
 case atStart=>exact ⟨0,Nat.zero_le _,by simp,h0,fun _ _=>rfl⟩
 case round =>
  obtain ⟨k,hk,rfl,hJs,hnx⟩:=hrel
  have hBs':=(World.cell?_of_block (a:=⟨Bs,0,none⟩) (hnx Bs hTs)).trans hBs
  by_cases hlt:k < len
  ·obtain ⟨j,hj⟩:∃ j,len - 1 - k=j:=⟨_,rfl⟩
   have hjl:j < len:=by omega
   have e:((len:Int) - 1 - k)=(j:Int):=by omega
   rw [e]
   have c0:wr.cell? ⟨b,off + j * 3,none⟩=some (vals j 0):=(World.cell?_of_block (a:=⟨b,off + j * 3,none⟩) (hnx b hTb)).trans (hc j 0 hjl (by omega))
   have c1:wr.cell? ⟨b,off + j * 3 + 1,none⟩=some (vals j 1):=(World.cell?_of_block (a:=⟨b,off + j * 3 + 1,none⟩) (hnx b hTb)).trans (hc j 1 hjl (by omega))
   have c2:wr.cell? ⟨b,off + j * 3 + 2,none⟩=some (vals j 2):=(World.cell?_of_block (a:=⟨b,off + j * 3 + 2,none⟩) (hnx b hTb)).trans (hc j 2 hjl (by omega))
   obtain ⟨fn,tmps,assign,body,hy,hR⟩:=hY _ ⟨j,hjl⟩ wr hJs (by rw [List.length_take,qD6];omega)
   dsimp only at hy
   gi_wp2
   have hup:(rv len).take (k + 1)=(rv len).take k ++ [⟨j,hjl⟩]:=by rw [zMf hlt];congr 2;exact Fin.ext hj
   refine hR.mono ?_;rintro e W3 (⟨rfl,hJ3,hk3⟩|⟨rfl,hJx3⟩)
   ·gi_wp2
    go_roundw
    case rel=>exact ⟨k + 1,by omega,by congr 1;omega,by rw [hup];exact hJ3,fun q hq=>(hk3 q hq).trans (hnx q hq)⟩
    case measure=>simp [intOf]
   ·gi_wp2
    refine bodyPost_ret (results_none rfl _ _ _) rfl ?_;exact ⟨⟨_,rfl⟩,.inr ⟨_,trivial,hJx3⟩⟩
  ·obtain rfl:k=len:=by omega
   have e:((k:Int) - 1 - k)=-1:=by omega
   rw [e]
   gi_wp2
   go_end0
   exact ⟨⟨_,rfl⟩,.inl ⟨_,rfl,by rw [List.take_of_length_le (by rw [qD6];exact Nat.le_refl _)] at hJs;exact hJs⟩⟩
set_option maxRecDepth 100000 in
set_option maxHeartbeats 1000000 in
theorem zAp (F:Fence) (n:Nat) (h71:F.fn 71) (hro:F.round=none) (l Bs:Nat) (a:Option Addr) (cap:Nat) (J:World→Prop) (W:World) (hBs:W.cell? ⟨Bs,0,none⟩=some (.slice a 0 cap)) (h0:J W) :
  CallsIn F n Tryz.prog 71 #[.func (.yield l) #[] #[],.pointer (some ⟨Bs,0,none⟩)] W fun e W'=>(∃ v,e=.returned v)∧J W':=by
 refine callsIn_of_wp Tryz.func71 rfl h71 ?_ hro;simp only [Tryz.ntmps71,List.size_toArray,List.length_cons,List.length_nil,Nat.reduceAdd,Nat.reduceSub,Array.replicate_succ,Array.replicate_zero,List.push_toArray,List.append_toArray,List.nil_append,List.cons_append]
 gi_wp2
 gi_loopw [3] (fun i wr=>i=.int .i64 (-1)∧J wr) (fun _ _=>0)
 case atStart=>exact ⟨rfl,h0⟩
 case round =>
  obtain ⟨rfl,hJs⟩:=hrel
  gi_wp2
  go_end0
  exact ⟨⟨_,rfl⟩,hJs⟩
set_option maxHeartbeats 1000000 in
theorem zT9 (F:Fence) (n:Nat) (h47:F.fn 47) (hro:F.round=none) (a:Option Addr) (len cap:Nat) (w:World) :
  CallsIn F n Tryz.prog 47 #[.slice a len cap] w fun e w'=>e=.returned (.func (.func 71) #[] #[.pointer (some ⟨w.heap.size,0,none⟩)])∧w'=w.alloc (.cells #[.slice a len cap] 22):=by
 refine callsIn_of_wp Tryz.func47 rfl h47 ?_ hro;simp only [Tryz.ntmps47,List.size_toArray,List.length_cons,List.length_nil,Nat.reduceAdd,Nat.reduceSub,Array.replicate_succ,Array.replicate_zero,List.push_toArray,List.append_toArray,List.nil_append,List.cons_append]
 gi_wp2
 go_ret
 exact ⟨rfl,rfl⟩
theorem zLl (F:Fence) (n:Nat) (h71:F.fn 71) (hro:F.round=none) (hn:1≤n) (Bs:Nat) (sv:Value) (T:Nat→Prop) (len:Nat) (vals:Nat→Nat→Value) (hreach:len * 40≤140737488351232) (w:World) (hTs:T Bs) (hTl:∀ k,T k→k < w.heap.size)
  (hc:w.cell? ⟨Bs,0,none⟩=some sv) (hI:Eng.BkE T w sv len vals) :
  SeqStopsK F n Tryz.prog 71 #[.pointer (some ⟨Bs,0,none⟩)] (fun x:Fin len=>#[Value.int .i64 ((x:Nat):Int),.agg #[vals x 0,vals x 1,vals x 2]]) (Eng.Stay T) (fun ys=>ys=rv len) (fun _=>True) len w:=fun l J Jx W hW _ _ hY h0=>by
 have hc':=(hW.cell (p:=⟨Bs,0,none⟩) (hTl Bs hTs)).trans hc
 obtain ⟨a,cap,rfl,hb⟩:=hI
 rcases Nat.eq_zero_or_pos len with rfl|hpos
 ·exact (zAp F n h71 hro l Bs a cap (J []) W hc' h0).mono fun e W' ⟨he,hj⟩=>⟨he,.inl ⟨_,rfl,hj⟩⟩
 ·obtain ⟨b,off,rfl,hTb,hcl⟩:=hb hpos;exact zRr F n h71 hro hn l Bs T b off len cap vals hreach hTb hTs J Jx hY W hc' (fun i k hi hk=>(hW.cell (p:=⟨b,off + (i * 3 + k),none⟩) (hTl b hTb)).trans (hcl i k hi hk)) h0
end Go.Proofs.YtbdomkfdkfdfgaaGreatDoor
end
section
namespace Go.Tr
open Go Go.Lib
abbrev Act:=Int × ByteArray × (Int × ByteArray)
def doG:List Act→List Ent→List Ent × Int
|[],t=>(t,0)
|x :: r,t=>if qPi t x.2.1 x.2.2=0 then doG r (qHd t x.2.1 x.2.2) else ([],qPi t x.2.1 x.2.2)
theorem qYd {x:Act} {r:List Act} {t:List Ent} (h:qPi t x.2.1 x.2.2=0):doG (x :: r) t=doG r (qHd t x.2.1 x.2.2):=by rw [doG,if_pos h]
def zF1 (now:List Ent) (e:Ent):Bool:=!decide ((aF now e.1).1=e.2.1)
def zG5 (old:List Ent) (e:Ent):Bool:=!decide (aF old e.1=e.2)
def qFe (root:Int) (now l:List Ent):List Act:=(l.filter (zF1 now)).map fun e=>(root,e.1,kD)
def qHe (root:Int) (old l:List Ent):List Act:=(l.filter (zG5 old)).map fun e=>(root,e.1,e.2)
def zLo (root:Int) (old now:List Ent):List Act:=qFe root now old.reverse ++ qHe root old now
def AllG (R:List Ent→Prop) (N:List Ent):List Act→List Ent→Prop
|[],t=>R t∧t=N
|x :: r,t=>R t∧qPi t x.2.1 x.2.2=0∧AllG R N r (qHd t x.2.1 x.2.2)
theorem AllG.take {R:List Ent→Prop} {N:List Ent}:∀ {l:List Act} {t:List Ent},AllG R N l t→∀ n,(doG (l.take n) t).2=0∧R (doG (l.take n) t).1
|[],t,h,n=>by rw [List.take_nil];exact ⟨rfl,h.1⟩
|x :: r,t,h,0=>⟨rfl,h.1⟩
|x :: r,t,h,n + 1=>by
  rw [List.take_succ_cons,qYd h.2.1];exact h.2.2.take n
theorem AllG.last {R:List Ent→Prop} {N:List Ent}:∀ {l:List Act} {t:List Ent},AllG R N l t→doG l t=(N,0)
|[],t,h=>by rw [doG,h.2]
|x :: r,t,h=>by rw [qYd h.2.1];exact h.2.2.last
section
variable {old now:List Ent}
structure S1 (old now Q T:List Ent):Prop where
 tree:Tree T
 get:∀ q,aF T q=if eF Q q=true∧(aF now q).1≠(aF old q).1 then kD else aF old q
structure S2 (old now P T:List Ent):Prop where
 tree:Tree T
 get:∀ q,aF T q=if eF P q=true then aF now q else if (aF now q).1≠(aF old q).1 then kD else aF old q
structure Bt (old now T:List Ent):Prop where
 tree:Tree T
 get:∀ q,aF T q=aF old q∨aF T q=aF now q∨(aF T q=kD∧(aF old q).1≠(aF now q).1)
theorem S1.bt {Q T:List Ent} (h:S1 old now Q T):Bt old now T:=⟨h.tree,fun q=>by
 rw [h.get];split
 ·rename_i hq;exact .inr (.inr ⟨rfl,Ne.symm hq.2⟩)
 ·exact .inl rfl⟩
theorem S2.bt {P T:List Ent} (h:S2 old now P T):Bt old now T:=⟨h.tree,fun q=>by
 rw [h.get];split
 ·exact .inr (.inl rfl)
 ·split
  ·rename_i hq;exact .inr (.inr ⟨rfl,Ne.symm hq⟩)
  ·exact .inl rfl⟩
end
end Go.Tr
end
