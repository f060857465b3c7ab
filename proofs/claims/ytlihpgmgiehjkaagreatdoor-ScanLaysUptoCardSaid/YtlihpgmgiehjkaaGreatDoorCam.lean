/-
  What has come of a row that is lD through from its end: plain.
-/
import Derived.RangeFuncBox
import Derived.RangeFuncLeaves
import Derived.Shelf.Abstract
import Derived.WalkKit
import Derived.OwnWalkIn
import Derived.TacticsInMore
import Derived.LoopNIn
import Derived.LoopIn
import Derived.Test.YtlihpgmgiehjkaaGreatDoorRng
import Derived.Test.YtlihpgmgiehjkaaGreatDoorProg
import Derived.Test.YtlihpgmgiehjkaaGreatDoorUpe
set_option linter.unusedSimpArgs false
set_option linter.unusedVariables false
section
namespace Go.Proofs.YtlihpgmgiehjkaaGreatDoor
open Go Go.RowKit Go.Shelf
attribute [local go_sem] Oper.semAt_some
def rv (len:Nat):List (Fin len):=(List.finRange len).reverse
theorem qEe (len:Nat):(rv len).length=len:=by simp [rv]
theorem zMc {len k:Nat} (h:k < len):(rv len).take (k + 1)=(rv len).take k ++ [⟨len - 1 - k,by omega⟩]:=by
 rw [List.take_succ_eq_append_getElem (by rw [qEe];exact h)]
 congr 2
 simp [rv,List.getElem_reverse]
set_option maxRecDepth 100000 in
set_option maxHeartbeats 4000000 in
theorem zQ8 (F:Fence) (n:Nat) (h71:F.fn 89) (hro:F.round=none) (hn:1≤n) (l Bs:Nat) (T:Nat→Prop) (b off len cap:Nat) (vals:Nat→Nat→Value) (hreach:len * 40≤140737488351232) (hTb:T b) (hTs:T Bs) (J Jx:List (Fin len)→World→Prop)
  (hY:∀ pre (x:Fin len) W,J pre W→pre.length < len→YieldAt F (n - 1) Tryz.prog l #[.int .i64 ((x:Nat):Int),.agg #[vals x 0,vals x 1,vals x 2]] W fun e W' =>
   (e=.returned (.bool true)∧J (pre ++ [x]) W'∧Eng.Stay T W W')∨(e=.returned (.bool false)∧Jx (pre ++ [x]) W'))
  (W:World) (hBs:W.cell? ⟨Bs,0,none⟩=some (.slice (some ⟨b,off,none⟩) len cap))
  (hc:∀ i k,i < len→k < 3→W.cell? ⟨b,off + (i * 3 + k),none⟩=some (vals i k)) (h0:J [] W) :
  CallsIn F n Tryz.prog 89 #[.func (.yield l) #[] #[],.pointer (some ⟨Bs,0,none⟩)] W fun e W'=>(∃ v,e=.returned v) ∧
   ((∃ ys,ys=rv len∧J ys W')∨(∃ pre,(∃ k,pre=(rv len).take k)∧Jx pre W')):=by
 refine callsIn_of_wp Tryz.func89 rfl h71 ?_ hro;simp only [Tryz.ntmps89,List.size_toArray,List.length_cons,List.length_nil,Nat.reduceAdd,Nat.reduceSub,Array.replicate_succ,Array.replicate_zero,List.push_toArray,List.append_toArray,List.nil_append,List.cons_append]
 gi_wp2
 gi_loopw [3] (fun i wr=>∃ k:Nat,k≤len∧i=.int .i64 ((len:Int) - 1 - k)∧J ((rv len).take k) wr∧Eng.Stay T W wr)
  (fun i _=>(intOf i + 1).toNat)
 case atStart=>exact ⟨0,Nat.zero_le _,by simp,h0,fun _ _=>rfl⟩
 case round =>
  obtain ⟨k,hk,rfl,hJs,hnx⟩:=hrel
  have hBs':=(World.cell?_of_block (a:=⟨Bs,0,none⟩) (hnx Bs hTs)).trans hBs
  by_cases hlt:k < len
  ·obtain ⟨j,hj⟩:∃ j,len - 1 - k=j:=⟨_,rfl⟩
   have hjl:j < len:=by omega
   have e:((len:Int) - 1 - k)=(j:Int):=by omega
   rw [e]
   have c0:wr.cell? ⟨b,off + j * 3,none⟩=some (vals j 0):=(World.cell?_of_block (a:=⟨b,off + j * 3,none⟩) (hnx b hTb)).trans (hc j 0 hjl (by omega))
   have c1:wr.cell? ⟨b,off + j * 3 + 1,none⟩=some (vals j 1):=(World.cell?_of_block (a:=⟨b,off + j * 3 + 1,none⟩) (hnx b hTb)).trans (hc j 1 hjl (by omega))
   have c2:wr.cell? ⟨b,off + j * 3 + 2,none⟩=some (vals j 2):=(World.cell?_of_block (a:=⟨b,off + j * 3 + 2,none⟩) (hnx b hTb)).trans (hc j 2 hjl (by omega))
   obtain ⟨fn,tmps,assign,body,hy,hR⟩:=hY _ ⟨j,hjl⟩ wr hJs (by rw [List.length_take,qEe];omega)
   dsimp only at hy
   gi_wp2
   have hup:(rv len).take (k + 1)=(rv len).take k ++ [⟨j,hjl⟩]:=by rw [zMc hlt];congr 2;exact Fin.ext hj
   refine hR.mono ?_;rintro e W3 (⟨rfl,hJ3,hk3⟩|⟨rfl,hJx3⟩)
   ·gi_wp2
    go_roundw
    case rel=>exact ⟨k + 1,by omega,by congr 1;omega,by rw [hup];exact hJ3,fun q hq=>(hk3 q hq).trans (hnx q hq)⟩
    case measure=>simp [intOf]
   ·gi_wp2
    refine bodyPost_ret (results_none rfl _ _ _) rfl ?_;exact ⟨⟨_,rfl⟩,.inr ⟨_,⟨k + 1,hup.symm⟩,hJx3⟩⟩
  ·obtain rfl:k=len:=by omega
   have e:((k:Int) - 1 - k)=-1:=by omega
   rw [e]
   gi_wp2
   go_end0
   exact ⟨⟨_,rfl⟩,.inl ⟨_,rfl,by rw [List.take_of_length_le (by rw [qEe];exact Nat.le_refl _)] at hJs;exact hJs⟩⟩
set_option maxRecDepth 100000 in
set_option maxHeartbeats 1000000 in
theorem qZ3 (F:Fence) (n:Nat) (h71:F.fn 89) (hro:F.round=none) (l Bs:Nat) (a:Option Addr) (cap:Nat) (J:World→Prop) (W:World) (hBs:W.cell? ⟨Bs,0,none⟩=some (.slice a 0 cap)) (h0:J W) :
  CallsIn F n Tryz.prog 89 #[.func (.yield l) #[] #[],.pointer (some ⟨Bs,0,none⟩)] W fun e W'=>(∃ v,e=.returned v)∧J W':=by
 refine callsIn_of_wp Tryz.func89 rfl h71 ?_ hro;simp only [Tryz.ntmps89,List.size_toArray,List.length_cons,List.length_nil,Nat.reduceAdd,Nat.reduceSub,Array.replicate_succ,Array.replicate_zero,List.push_toArray,List.append_toArray,List.nil_append,List.cons_append]
 gi_wp2
 gi_loopw [3] (fun i wr=>i=.int .i64 (-1)∧J wr) (fun _ _=>0)
 case atStart=>exact ⟨rfl,h0⟩
 case round =>
  obtain ⟨rfl,hJs⟩:=hrel
  gi_wp2
  go_end0
  exact ⟨⟨_,rfl⟩,hJs⟩
set_option maxHeartbeats 1000000 in
theorem zTp (F:Fence) (n:Nat) (h47:F.fn 52) (hro:F.round=none) (a:Option Addr) (len cap:Nat) (w:World) :
  CallsIn F n Tryz.prog 52 #[.slice a len cap] w fun e w'=>e=.returned (.func (.func 89) #[] #[.pointer (some ⟨w.heap.size,0,none⟩)])∧w'=w.alloc (.cells #[.slice a len cap] 32):=by
 refine callsIn_of_wp Tryz.func52 rfl h47 ?_ hro;simp only [Tryz.ntmps52,List.size_toArray,List.length_cons,List.length_nil,Nat.reduceAdd,Nat.reduceSub,Array.replicate_succ,Array.replicate_zero,List.push_toArray,List.append_toArray,List.nil_append,List.cons_append]
 gi_wp2
 go_ret
 exact ⟨rfl,rfl⟩
theorem zE9 (F:Fence) (n:Nat) (h71:F.fn 89) (hro:F.round=none) (hn:1≤n) (Bs:Nat) (sv:Value) (T:Nat→Prop) (len:Nat) (vals:Nat→Nat→Value) (hreach:len * 40≤140737488351232) (w:World) (hTs:T Bs) (hTl:∀ k,T k→k < w.heap.size)
  (hc:w.cell? ⟨Bs,0,none⟩=some sv) (hI:Eng.BkE T w sv len vals) :
  SeqStopsK F n Tryz.prog 89 #[.pointer (some ⟨Bs,0,none⟩)] (fun x:Fin len=>#[Value.int .i64 ((x:Nat):Int),.agg #[vals x 0,vals x 1,vals x 2]]) (Eng.Stay T) (fun ys=>ys=rv len) (fun ys=>∃ k,ys=(rv len).take k) len w:=fun l J Jx W hW _ _ hY h0=>by
 have hc':=(hW.cell (p:=⟨Bs,0,none⟩) (hTl Bs hTs)).trans hc
 obtain ⟨a,cap,rfl,hb⟩:=hI
 rcases Nat.eq_zero_or_pos len with rfl|hpos
 ·exact (qZ3 F n h71 hro l Bs a cap (J []) W hc' h0).mono fun e W' ⟨he,hj⟩=>⟨he,.inl ⟨_,rfl,hj⟩⟩
 ·obtain ⟨b,off,rfl,hTb,hcl⟩:=hb hpos;exact zQ8 F n h71 hro hn l Bs T b off len cap vals hreach hTb hTs J Jx hY W hc' (fun i k hi hk=>(hW.cell (p:=⟨b,off + (i * 3 + k),none⟩) (hTl b hTb)).trans (hcl i k hi hk)) h0
end Go.Proofs.YtlihpgmgiehjkaaGreatDoor
end
section
set_option maxRecDepth 20000
namespace Go.Tr
open Go Go.Eng Go.RowKit
def came (old:List Ent) (pre:List (Fin (bR old).length)):List Ent:=pre.filterMap fun j:Fin (bR old).length=>old[j.1]?
theorem qR8 (old:List Ent) (pre:List (Fin (bR old).length)) (j:Fin (bR old).length) (h:j.1 < old.length):came old (pre ++ [j])=came old pre ++ [old[j.1]]:=by
 unfold came;rw [List.filterMap_append];simp [List.getElem?_eq_getElem h]
theorem zLk (old:List Ent) (pre:List (Fin (bR old).length)):(came old pre).length≤pre.length:=List.length_filterMap_le ..
theorem qXx (old:List Ent):came old (List.finRange (bR old).length).reverse=old.reverse:=by
 unfold came;rw [List.filterMap_reverse]
 congr 1
 have:∀ n (h:n=old.length),(List.finRange n).filterMap (fun j:Fin n=>old[(j:Nat)]?)=old:=by
  rintro _ rfl
  have e:(fun j:Fin old.length=>old[(j:Nat)]?)=some ∘ old.get:=funext fun j=>by rw [List.getElem?_eq_getElem j.2];rfl
  rw [e,List.filterMap_eq_map];refine List.ext_getElem (by simp) fun i h1 h2=>?_
  simp
 exact this _ (yV old)
theorem qXw (old:List Ent) (pre:List (Fin (bR old).length)):came old pre=pre.map fun j=>old[j.1]'(Nat.lt_of_lt_of_eq j.2 (yV old)):=by
 unfold came;rw [← List.filterMap_eq_map]
 congr 1
 funext j
 rw [List.getElem?_eq_getElem (Nat.lt_of_lt_of_eq j.2 (yV old))];rfl
theorem zE6 (old:List Ent) (k:Nat):came old ((List.finRange (bR old).length).reverse.take k)=old.reverse.take k:=by
 rw [← qXx old,qXw,qXw,List.map_take]
end Go.Tr
end
