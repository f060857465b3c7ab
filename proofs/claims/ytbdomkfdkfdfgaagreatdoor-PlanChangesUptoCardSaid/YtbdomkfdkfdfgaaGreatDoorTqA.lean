/-
  slices.SortFunc of a tree, by path.
-/
import Derived.Test.YtbdomkfdkfdfgaaGreatDoorTpB
import Derived.Test.YtbdomkfdkfdfgaaGreatDoorSrt
import Derived.Test.YtbdomkfdkfdfgaaGreatDoorTsP
import Derived.Lib.RowBridge
set_option linter.unusedSimpArgs false
set_option linter.unusedVariables false
set_option maxRecDepth 20000
namespace Go.Tr
open Go Go.Eng Go.RowKit Go.Proofs Go.Sort
def qPp (e:Ent):List Value:=[.string e.1,.int .i64 e.2.1,.string e.2.2]
theorem qX0:∀ (t:List Ent) (i k:Nat) (hi:i < t.length),k < 3→(iT t)[i * 3 + k]?=(qPp t[i])[k]?
|[],i,k,hi,_=>by simp at hi
|e :: r,0,k,hi,hk=>by
  match k,hk with
 |0,_=>rfl
 |1,_=>rfl
 |2,_=>rfl
|e :: r,i + 1,k,hi,hk=>by
  have:=qX0 r i k (by simpa using hi) hk
  rw [show (i + 1) * 3 + k=i * 3 + k + 1 + 1 + 1 by omega]
  simpa [iT] using this
theorem qUe (d:Array Ent):flatK qPp 3 d=(iT d.toList).toArray:=by
 apply Array.ext_getElem?
 intro p
 by_cases hp:p < d.size * 3
 ·have h1:p / 3 < d.toList.length:=by rw [Array.length_toList];omega
  have h2:=qX0 d.toList (p / 3) (p % 3) h1 (by omega)
  rw [show p / 3 * 3 + p % 3=p by omega] at h2
  have h5:(iT d.toList).toArray[p]?=(iT d.toList)[p]?:=List.getElem?_toArray
  rw [h5,h2]
  have h3:(qPp d.toList[p / 3]).length=3:=rfl
  rw [List.getElem?_eq_getElem (by omega),Array.getElem?_eq_getElem (by simpa using hp)]
  have h4:=get_flatK qPp 3 d p hp
  rw [getElem!_pos _ p (by simpa using hp),getElem!_pos d (p / 3) (by simpa using h1),getElem!_pos _ (p % 3) (by show _ < 3;omega)] at h4
  rw [h4];simp only [Array.getElem_toList]
 ·rw [Array.getElem?_eq_none (by simpa using hp),Array.getElem?_eq_none (by rw [List.size_toArray,lL,Array.length_toList];omega)]
end Go.Tr
namespace Go.Proofs.YtbdomkfdkfdfgaaGreatDoor
open Go Go.Eng Go.RowKit Go.Tr Go.Lib Go.Sort
theorem zNd:SWO (ltOf fun x y:Ent=>qHg x.1 y.1) where
 irrefl x:=by rw [ltOf,qDs];exact fP _
 trans x y z h1 h2:=by rw [ltOf,qDs] at *;exact iP h1 h2
 ntrans x y z h1 h2:=by rw [ltOf,qDs] at *;exact qCv h2 h1
set_option maxHeartbeats 1000000 in
theorem qUr (x y:Ent) (W:World):Calls Tryz.prog 109 #[.agg #[.string x.1,.int .i64 x.2.1,.string x.2.2],.agg #[.string y.1,.int .i64 y.2.1,.string y.2.2]] W fun e w'=>e=.returned (.int .i64 (qHg x.1 y.1))∧∃ q os',w'=grow (W.drewN q) os':=by
 have hcon:=fun W'=>Tryz.strings_Compare x.1 y.1 W'
 change ∀ W',Calls Tryz.prog 96 _ _ (fun e w'=>e=.returned (.int .i64 (qHg x.1 y.1))∧w'=W') at hcon
 generalize qHg x.1 y.1=r at hcon ⊢
 go_enter Tryz.func109,Tryz.ntmps109
 go_wp2_with (go_at_call 96;refine (hcon _).mono ?_;rintro e w' ⟨rfl,rfl⟩)
 go_ret
 exact ⟨rfl,0,_,by rw [alloc_eq_grow,alloc_eq_grow,grow_grow];rfl⟩
theorem qYl (blk off size:Nat) (w:World):CmpLays Tryz.prog 109 #[] qPp 3 (fun x y=>qHg x.1 y.1) blk off size w:=fun _ _ _ _ x y=>qUr x y _
theorem zLk {w:World} {g:Nat} {cs:Array Value} {t:TypeId} (h:Blk w g cs t) (os:Array Obj):Blk (grow w os) g cs t:=by
 have h':w.heap[g]?=_:=h
 show (w.heap ++ os)[g]?=_
 rw [Array.getElem?_append_left h.lt,h']
theorem qU7 (w:World) (g cap:Nat) (cur:Array Value) (t:List Ent) (hl:t.length≤4194304) (b1:Blk w g cur 67) (b2:t.length≤cap) (b4:cur.size=cap * 3) (b5:cur.toList.take (t.length * 3)=iT t) :
  Calls Tryz.prog 108 #[.slice (some ⟨g,0,none⟩) t.length cap,.func (.func 109) #[] #[]] w (Ret fun r w'=>r=.tuple #[]∧∃ s,s.Perm t∧rX s∧(w'.os=w.os∧w'.tape=w.tape∧w'.output=w.output∧w.heap.size≤w'.heap.size∧∀ b,b < w.heap.size→b≠g→w'.heap[b]?=w.heap[b]?)∧∃ cur',Blk w' g cur' 67∧cur'.size=cap * 3∧cur'.toList.take (s.length * 3)=iT s):=by
 have hH:HoldsK qPp 3 w g 0 t.toArray:=by
  intro p hpz;rw [qUe] at hpz ⊢;simp only [List.size_toArray] at hpz
  have hlen:=lL t
  refine ⟨?_,frozen_of_row w g _ cur 67 b1⟩;rw [b1.cell,Nat.zero_add,getElem!_pos _ p (by simpa using hpz)]
  have:cur.toList[p]?=(iT t)[p]?:=by rw [← b5,List.getElem?_take_of_lt (by omega)]
  rw [Array.getElem?_toList] at this;rw [this,List.getElem?_eq_getElem hpz];simp
 have eg:∀ args w,(callFunc 109 args).run Tryz.prog w=.ok (.enter 109 args) w:=enters_of Tryz.func109 (by kernel_rfl) rfl
 have hcon:=AnyQ.slices_SortFunc Tryz.sortE 3 Tryz.isAgg67 Tryz.sizeOf67 qPp (fun _=>rfl) (fun x v hv=>by simp [qPp] at hv;rcases hv with rfl|rfl|rfl <;> rfl) (fun x y=>qHg x.1 y.1) zNd 109 #[] g 0 cap t.toArray w eg (qYl g 0 _ w) hH b1.lt (by rw [List.size_toArray];omega)
 refine Calls.mono hcon ?_;rintro e w' ⟨rfl,d',n,os,⟨p1,-,p3⟩,hs,rfl⟩
 have hts:t.toArray.size=t.length:=List.size_toArray
 rw [hts] at p1 p3 hs
 have hsz:d'.toList.length=t.length:=by rw [Array.length_toList,p1]
 have hperm:d'.toList.Perm t:=by
  have e1:(d'.extract 0 t.length).toList=d'.toList:=by rw [← p1];simp
  have e2:(t.toArray.extract 0 t.length).toList=t:=by simp
  rw [e1,e2] at p3;exact p3
 have hnod:rX d'.toList:=by
  refine List.pairwise_iff_getElem.2 fun i j hi hj hij=>?_
  have:=hs i j (Nat.zero_le _) hij (by omega)
  rw [ltOf,qDs,getElem!_pos d' j (by simpa using hj),getElem!_pos d' i (by simpa using hi)] at this
  simpa using this
 have hfl:(iT d'.toList).length=t.length * 3:=by rw [lL,hsz]
 have hbn:Blk (w.drewN n) g cur 67:=b1
 obtain ⟨k1,k2⟩:=qDr ((iT d'.toList).map id) 0 hbn (by rw [List.length_map,hfl];omega)
 have hww:sortWorldK qPp 3 w g 0 n d' os=grow ((w.drewN n).setCells g 0 ((iT d'.toList).map id)) os:=by
  have:=putRow_eq_setCells id w g 0 (flatK qPp 3 t.toArray) (iT d'.toList) n hH (by rw [qUe,List.size_toArray,hfl,lL])
  rw [sortWorldK,putRowK,qUe,this]
 rw [hww];rw [List.map_id] at k1 k2 ⊢
 have hcl:cur.toList.length=cap * 3:=by rw [Array.length_toList,b4]
 refine mR ⟨rfl,d'.toList,hperm,hnod,⟨k2.os,k2.tape,k2.output,?_,fun b hlt hne=>?_⟩,_,zLk k1 os,?_,?_⟩
 ·rw [size_grow,k2.size];exact Nat.le_add_right _ _
 ·have h1:((w.drewN n).setCells g 0 (iT d'.toList)).heap[b]?=w.heap[b]?:=k2.block b hne
  rw [← h1];show (_ ++ os)[b]?=_
  rw [Array.getElem?_append_left]
  have:=k2.size
  show b < ((w.drewN n).setCells g 0 (iT d'.toList)).heap.size
  rw [this];exact hlt
 ·rw [List.size_toArray,dM _ _ _ (by omega),hcl]
 ·show List.take _ (splice _ _ _)=_
  rw [splice,List.take_zero,List.nil_append,List.take_left' (by rw [hfl,hsz])]
theorem zMd {S:HS} {id:Nat} {t:List Ent} (hl:t.length≤4194304) {K:HV→HS→Prop} (hr:rlk S.st id=some (fW t)) (hK:∀ s:List Ent,s.Perm t→rX s→K (.v (.tuple #[])) ⟨S.env,gJ id (fW s) S.st⟩) :
  HAt Tryz.prog 108 [.own id,.v (.func (.func 109) #[] #[])] S K :=
 ⟨zT5,fun c look w ρ xs vs G R=>by
  obtain ⟨R1,R2⟩:=R
  match vs,R1 with
 |[v0,v1],_ =>
  have r0:=R2 0 (by simp) (by simp)
  have r1:=R2 1 (by simp) (by simp)
  simp only [List.getElem_cons_zero,List.getElem_cons_succ] at r0 r1
  cases r1
  cases r0
  by_cases h0:t=[]
  ·subst h0;obtain ⟨o1,o2,o3⟩:=cM G hr;obtain ⟨ad,cap,e0⟩:=kY o1;rw [e0];refine Calls.mono (AnyF.slices_SortFunc_none Tryz.sortE ad cap _ w) ?_;rintro e w' ⟨rfl,rfl⟩;exact mR ⟨_,_,hK [] (List.Perm.refl _) .nil,ρ,xs,G.same hr,.v _⟩
  ·obtain ⟨g,cap,cur,e0,b1,b2,b3,b4,b5⟩:=zGz G hr (List.length_pos_iff.2 h0);rw [e0];refine Ret.mono (qU7 w g cap cur t hl b1 b2 b4 b5) ?_;rintro r w' ⟨rfl,s,hp,hn,⟨k1,k2,k3,k4,k5⟩,cur',d1,d2,d3⟩
   have hsl:s.length=t.length:=hp.length_eq
   refine ⟨_,_,hK s hp hn,ρ,_,G.upds id (fW t) (fW s) (iT s) k4 k1 k2 k3 hr rfl (fun b hlt hb=>k5 b hlt fun e=>hb (by rw [e0,e];rfl)) _ (fun i=>?_) ⟨?_,⟨of_eq_true (yU _),fun i k hi hk=>?_⟩,(G.rows id _ hr).new⟩,.v _⟩
   ·exact gL id _ _ _ hr i
   ·simp only [Row.ty,Row.sz,Row.len,yV];rw [e0,hsl];exact ⟨by rw [lL,hsl],.inr ⟨g,cap,cur',rfl,Nat.zero_le _,d1,b2,b3,d2,by rw [← hsl];exact d3⟩⟩
   ·obtain ⟨x,h1,h2,h3⟩:=qE6 s i k hi hk;exact ⟨x,h2,h3,by rw [h1];exact .v x⟩⟩
end Go.Proofs.YtbdomkfdkfdfgaaGreatDoor
