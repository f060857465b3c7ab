/-
  The document's Replace.
-/
import Derived.Test.YtbdomkfdkfdfgaaGreatDoorTfl
import Derived.Test.YtbdomkfdkfdfgaaGreatDoorSrt
import Derived.Test.YtbdomkfdkfdfgaaGreatDoorTsP
import Derived.Lib.RowBridge
import Derived.Test.YtbdomkfdkfdfgaaGreatDoorTrQ
set_option linter.unusedSimpArgs false
set_option linter.unusedVariables false
section
set_option maxRecDepth 20000
namespace Go.Tr
open Go Go.Eng Go.RowKit Go.Proofs Go.Sort
def qRk (e:Ent):List Value:=[.string e.1,.int .i64 e.2.1,.string e.2.2]
theorem qZ1:∀ (t:List Ent) (i k:Nat) (hi:i < t.length),k < 3→(dJ t)[i * 3 + k]?=(qRk t[i])[k]?
|[],i,k,hi,_=>by simp at hi
|e :: r,0,k,hi,hk=>by
  match k,hk with
 |0,_=>rfl
 |1,_=>rfl
 |2,_=>rfl
|e :: r,i + 1,k,hi,hk=>by
  have:=qZ1 r i k (by simpa using hi) hk
  rw [show (i + 1) * 3 + k=i * 3 + k + 1 + 1 + 1 by omega]
  simpa [dJ] using this
theorem qWe (d:Array Ent):flatK qRk 3 d=(dJ d.toList).toArray:=by
 apply Array.ext_getElem?
 intro p
 by_cases hp:p < d.size * 3
 ·have h1:p / 3 < d.toList.length:=by rw [Array.length_toList];omega
  have h2:=qZ1 d.toList (p / 3) (p % 3) h1 (by omega)
  rw [show p / 3 * 3 + p % 3=p by omega] at h2
  have h5:(dJ d.toList).toArray[p]?=(dJ d.toList)[p]?:=List.getElem?_toArray
  rw [h5,h2]
  have h3:(qRk d.toList[p / 3]).length=3:=rfl
  rw [List.getElem?_eq_getElem (by omega),Array.getElem?_eq_getElem (by simpa using hp)]
  have h4:=get_flatK qRk 3 d p hp
  rw [getElem!_pos _ p (by simpa using hp),getElem!_pos d (p / 3) (by simpa using h1),getElem!_pos _ (p % 3) (by show _ < 3;omega)] at h4
  rw [h4];simp only [Array.getElem_toList]
 ·rw [Array.getElem?_eq_none (by simpa using hp),Array.getElem?_eq_none (by rw [List.size_toArray,jP,Array.length_toList];omega)]
end Go.Tr
namespace Go.Proofs.YtbdomkfdkfdfgaaGreatDoor
open Go Go.Eng Go.RowKit Go.Tr Go.Lib Go.Sort
theorem zQl:SWO (ltOf fun x y:Ent=>qKl x.1 y.1) where
 irrefl x:=by rw [ltOf,qGq];exact fD _
 trans x y z h1 h2:=by rw [ltOf,qGq] at *;exact kK h1 h2
 ntrans x y z h1 h2:=by rw [ltOf,qGq] at *;exact qFm h2 h1
set_option maxHeartbeats 1000000 in
theorem qWj (x y:Ent) (W:World):Calls Tryz.prog 109 #[.agg #[.string x.1,.int .i64 x.2.1,.string x.2.2],.agg #[.string y.1,.int .i64 y.2.1,.string y.2.2]] W fun e w'=>e=.returned (.int .i64 (qKl x.1 y.1))∧∃ q os',w'=grow (W.drewN q) os':=by
 have hcon:=fun W'=>Tryz.strings_Compare x.1 y.1 W'
 change ∀ W',Calls Tryz.prog 96 _ _ (fun e w'=>e=.returned (.int .i64 (qKl x.1 y.1))∧w'=W') at hcon
 generalize qKl x.1 y.1=r at hcon ⊢
 go_enter Tryz.func109,Tryz.ntmps109
 go_wp2_with (go_at_call 96;refine (hcon _).mono ?_;rintro e w' ⟨rfl,rfl⟩)
 go_ret
 exact ⟨rfl,0,_,by rw [alloc_eq_grow,alloc_eq_grow,grow_grow];rfl⟩
theorem zAn (blk off size:Nat) (w:World):CmpLays Tryz.prog 109 #[] qRk 3 (fun x y=>qKl x.1 y.1) blk off size w:=fun _ _ _ _ x y=>qWj x y _
theorem zNp {w:World} {g:Nat} {cs:Array Value} {t:TypeId} (h:Blk w g cs t) (os:Array Obj):Blk (grow w os) g cs t:=by
 have h':w.heap[g]?=_:=h
 show (w.heap ++ os)[g]?=_
 rw [Array.getElem?_append_left h.lt,h']
theorem qW2 (w:World) (g cap:Nat) (cur:Array Value) (t:List Ent) (hl:t.length≤4194304) (b1:Blk w g cur 67) (b2:t.length≤cap) (b4:cur.size=cap * 3) (b5:cur.toList.take (t.length * 3)=dJ t) :
  Calls Tryz.prog 108 #[.slice (some ⟨g,0,none⟩) t.length cap,.func (.func 109) #[] #[]] w (Ret fun r w'=>r=.tuple #[]∧∃ s,s.Perm t∧qBf s∧(w'.os=w.os∧w'.tape=w.tape∧w'.output=w.output∧w.heap.size≤w'.heap.size∧∀ b,b < w.heap.size→b≠g→w'.heap[b]?=w.heap[b]?)∧∃ cur',Blk w' g cur' 67∧cur'.size=cap * 3∧cur'.toList.take (s.length * 3)=dJ s):=by
 have hH:HoldsK qRk 3 w g 0 t.toArray:=by
  intro p hpz;rw [qWe] at hpz ⊢;simp only [List.size_toArray] at hpz
  have hlen:=jP t
  refine ⟨?_,frozen_of_row w g _ cur 67 b1⟩;rw [b1.cell,Nat.zero_add,getElem!_pos _ p (by simpa using hpz)]
  have:cur.toList[p]?=(dJ t)[p]?:=by rw [← b5,List.getElem?_take_of_lt (by omega)]
  rw [Array.getElem?_toList] at this;rw [this,List.getElem?_eq_getElem hpz];simp
 have eg:∀ args w,(callFunc 109 args).run Tryz.prog w=.ok (.enter 109 args) w:=enters_of Tryz.func109 (by kernel_rfl) rfl
 have hcon:=AnyQ.slices_SortFunc Tryz.sortE 3 Tryz.isAgg67 Tryz.sizeOf67 qRk (fun _=>rfl) (fun x v hv=>by simp [qRk] at hv;rcases hv with rfl|rfl|rfl <;> rfl) (fun x y=>qKl x.1 y.1) zQl 109 #[] g 0 cap t.toArray w eg (zAn g 0 _ w) hH b1.lt (by rw [List.size_toArray];omega)
 refine Calls.mono hcon ?_;rintro e w' ⟨rfl,d',n,os,⟨p1,-,p3⟩,hs,rfl⟩
 have hts:t.toArray.size=t.length:=List.size_toArray
 rw [hts] at p1 p3 hs
 have hsz:d'.toList.length=t.length:=by rw [Array.length_toList,p1]
 have hperm:d'.toList.Perm t:=by
  have e1:(d'.extract 0 t.length).toList=d'.toList:=by rw [← p1];simp
  have e2:(t.toArray.extract 0 t.length).toList=t:=by simp
  rw [e1,e2] at p3;exact p3
 have hnod:qBf d'.toList:=by
  refine List.pairwise_iff_getElem.2 fun i j hi hj hij=>?_
  have:=hs i j (Nat.zero_le _) hij (by omega)
  rw [ltOf,qGq,getElem!_pos d' j (by simpa using hj),getElem!_pos d' i (by simpa using hi)] at this
  simpa using this
 have hfl:(dJ d'.toList).length=t.length * 3:=by rw [jP,hsz]
 have hbn:Blk (w.drewN n) g cur 67:=b1
 obtain ⟨k1,k2⟩:=qJ ((dJ d'.toList).map id) 0 hbn (by rw [List.length_map,hfl];omega)
 have hww:sortWorldK qRk 3 w g 0 n d' os=grow ((w.drewN n).setCells g 0 ((dJ d'.toList).map id)) os:=by
  have:=putRow_eq_setCells id w g 0 (flatK qRk 3 t.toArray) (dJ d'.toList) n hH (by rw [qWe,List.size_toArray,hfl,jP])
  rw [sortWorldK,putRowK,qWe,this]
 rw [hww];rw [List.map_id] at k1 k2 ⊢
 have hcl:cur.toList.length=cap * 3:=by rw [Array.length_toList,b4]
 refine qA2 ⟨rfl,d'.toList,hperm,hnod,⟨k2.os,k2.tape,k2.output,?_,fun b hlt hne=>?_⟩,_,zNp k1 os,?_,?_⟩
 ·rw [size_grow,k2.size];exact Nat.le_add_right _ _
 ·have h1:((w.drewN n).setCells g 0 (dJ d'.toList)).heap[b]?=w.heap[b]?:=k2.block b hne
  rw [← h1];show (_ ++ os)[b]?=_
  rw [Array.getElem?_append_left]
  have:=k2.size
  show b < ((w.drewN n).setCells g 0 (dJ d'.toList)).heap.size
  rw [this];exact hlt
 ·rw [List.size_toArray,cQ _ _ _ (by omega),hcl]
 ·show List.take _ (splice _ _ _)=_
  rw [splice,List.take_zero,List.nil_append,List.take_left' (by rw [hfl,hsz])]
theorem zPh {S:HS} {id:Nat} {t:List Ent} (hl:t.length≤4194304) {K:HV→HS→Prop} (hr:rlk S.st id=some (dT t)) (hK:∀ s:List Ent,s.Perm t→qBf s→K (.v (.tuple #[])) ⟨S.env,jV id (dT s) S.st⟩) :
  HAt Tryz.prog 108 [.own id,.v (.func (.func 109) #[] #[])] S K :=
 ⟨zWa,fun c look w ρ xs vs G R=>by
  obtain ⟨R1,R2⟩:=R
  match vs,R1 with
 |[v0,v1],_ =>
  have r0:=R2 0 (by simp) (by simp)
  have r1:=R2 1 (by simp) (by simp)
  simp only [List.getElem_cons_zero,List.getElem_cons_succ] at r0 r1
  cases r1
  cases r0
  by_cases h0:t=[]
  ·subst h0;obtain ⟨o1,o2,o3⟩:=dK G hr;obtain ⟨ad,cap,e0⟩:=rU o1;rw [e0];refine Calls.mono (AnyF.slices_SortFunc_none Tryz.sortE ad cap _ w) ?_;rintro e w' ⟨rfl,rfl⟩;exact qA2 ⟨_,_,hK [] (List.Perm.refl _) .nil,ρ,xs,G.same hr,.v _⟩
  ·obtain ⟨g,cap,cur,e0,b1,b2,b3,b4,b5⟩:=qE1 G hr (List.length_pos_iff.2 h0);rw [e0];refine Ret.mono (qW2 w g cap cur t hl b1 b2 b4 b5) ?_;rintro r w' ⟨rfl,s,hp,hn,⟨k1,k2,k3,k4,k5⟩,cur',d1,d2,d3⟩
   have hsl:s.length=t.length:=hp.length_eq
   refine ⟨_,_,hK s hp hn,ρ,_,G.upds id (dT t) (dT s) (dJ s) k4 k1 k2 k3 hr rfl (fun b hlt hb=>k5 b hlt fun e=>hb (by rw [e0,e];rfl)) _ (fun i=>?_) ⟨?_,⟨of_eq_true (yU _),fun i k hi hk=>?_⟩,(G.rows id _ hr).new⟩,.v _⟩
   ·exact jW id _ _ _ hr i
   ·simp only [Row.ty,Row.sz,Row.len,yV];rw [e0,hsl];exact ⟨by rw [jP,hsl],.inr ⟨g,cap,cur',rfl,Nat.zero_le _,d1,b2,b3,d2,by rw [← hsl];exact d3⟩⟩
   ·obtain ⟨x,h1,h2,h3⟩:=qCu s i k hi hk;exact ⟨x,h2,h3,by rw [h1];exact .v x⟩⟩
end Go.Proofs.YtbdomkfdkfdfgaaGreatDoor
end
section
set_option maxRecDepth 20000
namespace Go.Tr
open Go Go.Eng
def zJ9 (t:List Ent) (p:ByteArray) (u:List Ent):List Ent:=(t.filter fun e=>!dY e.1 p) ++ u
def oR (t:List Ent) (p:ByteArray) (u:List Ent):Int :=
 if pOk p 5=false then 10 else if (u.all fun e=>dY e.1 p)=false then 1 else dD (pS (zJ9 t p u))
def xP (t:List Ent) (p:ByteArray) (u:List Ent):List Ent:=if oR t p u=0 then pS (zJ9 t p u) else []
theorem zCv {a b:List Ent} (h:a.length=b.length) (ha:dD a≠0) (hb:dD b≠0):dD a=dD b:=by
 unfold dD at *
 rw [h] at *
 split
 ·rfl
 ·rename_i hh;rw [if_neg hh] at ha hb
  cases e1:okR a <;> cases e2:okR b <;> simp_all
theorem zHm {s l:List Ent} (hp:s.Perm l) (hn:qBf s):dD s=dD (pS l)∧(dD s=0→s=pS l):=by
 have hps:s.Perm (pS l):=hp.trans (qDw l).symm
 by_cases h0:dD s=0
 ·have hr:=qFl (xF h0).2
  have:pS l=s:=qKq hr hp.symm
  rw [this];exact ⟨rfl,fun _=>rfl⟩
 ·by_cases h1:dD (pS l)=0
  ·have hr:=qFl (xF h1).2
   have:s=pS l:=qXx hn hr hps
   rw [← this];exact ⟨rfl,fun _=>rfl⟩
  ·exact ⟨zCv hps.length_eq h0 h1,fun h=>absurd h h0⟩
end Go.Tr
namespace Go.Proofs.YtbdomkfdkfdfgaaGreatDoor
open Go Go.Eng Go.RowKit Go.Tr
set_option maxHeartbeats 8000000 in
theorem zHl (t:List Ent) (p:ByteArray) (u:List Ent) (hl:t.length≤1048576) (hlu:u.length≤1048576) (sz:p.size≤1048576) (szt:∀ e ∈ t,e.1.size≤1048576) (szu:∀ e ∈ u,e.1.size≤1048576):HFun Tryz.prog 80 [.lst false (aG t),.v (.string p),.lst false (aG u)] (fun h st=>h=.tup [.own 0,.v (.int .i64 (oR t p u))]∧st=[(0,dT (xP t p u))]):=by
 refine eX (N:=57) Tryz.func80 rfl Tryz.ntmps80 Tryz.results80 (by simp) ?_
 have c50:HFun Tryz.prog 66 [.v (.string p),.v (.int .i64 5)] (fun h st=>h=.v (.int .i64 (okN (pOk p 5)))):=qMd p 5 sz (by omega)
 refine zE ?_;refine zJ (fun K hK=>?_);simp (disch:=omega) only [push_cast,↓Int.cast_ofNat_Int,simprocAttr];refine hK _ ?_;clear hK K
 cases ok:pOk p 5 with
|false =>
  have hE:oR t p u=10:=by simp [oR,ok]
  rw [ok,qXv] at c50;refine zE ?_;refine zE ?_;refine zJ (fun K hK=>?_);simp (disch:=omega) only [push_cast,↓Int.cast_ofNat_Int,simprocAttr]
  refine bE qRm c50 (.cons (.v _) (.cons (.v _) .nil)) ?_;with_reducible refine aB ?_;simp (disch:=omega) only [push_cast,↓Int.cast_ofNat_Int,simprocAttr]
  refine hK _ ?_;clear hK K;refine yD rfl ?_;refine zE ?_;refine zJ (fun K hK=>?_);simp (disch:=omega) only [push_cast,↓Int.cast_ofNat_Int,simprocAttr];refine hK _ ?_;clear hK K
  refine eW 6 9000 67 3 rfl (by simp only [dX,fM,fN,bQ,aY,aZ,aT,cY,bD,cE,bC,bB,cM,bP,bN,aX,bV,bW,cJ,cX,dC,cD,Nat.reduceBEq,Nat.reduceEqDiff,reduceIte,cond_true,cond_false,List.map_cons,List.map_nil];exact rfl) ?_
  refine zW ?_;refine zK ?_;simp only [yA,yM,yH,yE,aA,aC,yK,yJ,zS,zM,Nat.reduceEqDiff,reduceIte,reduceCtorEq];exact eU rfl (aP []) ⟨by rw [hE],by rw [xP,hE];rfl⟩
|true =>
 rw [ok,qXu] at c50;refine zE ?_;refine zE ?_;refine zJ (fun K hK=>?_);simp (disch:=omega) only [push_cast,↓Int.cast_ofNat_Int,simprocAttr]
 refine bE qRm c50 (.cons (.v _) (.cons (.v _) .nil)) ?_;with_reducible refine aB ?_;simp (disch:=omega) only [push_cast,↓Int.cast_ofNat_Int,simprocAttr]
 refine hK _ ?_;clear hK K;refine yC rfl ?_;refine zC ?_;refine zE ?_;refine zJ (fun K hK=>?_);simp (disch:=omega) only [push_cast,↓Int.cast_ofNat_Int,simprocAttr];refine hK _ ?_;clear hK K
 refine zE ?_;refine zE ?_;refine zJ (fun K hK=>?_);simp (disch:=omega) only [push_cast,↓Int.cast_ofNat_Int,simprocAttr,yV];refine hK _ ?_;clear hK K
 refine zA ?_;refine zD ?_;refine cP (fun x:Nat × List Ent=>⟨[(1,.v (.string p)),(2,.lst false (aG u)),(8,.own 136),(18,.lst false (aG t)),(19,.v (.int .i64 t.length)),(20,.v (.int .i64 x.1))],[(136,dT x.2)]⟩) (fun x=>x.1≤t.length∧x.2=(t.take x.1).filter fun e=>!dY e.1 p) (fun x=>t.length - x.1) [1,2,8,18,19,20] [136] (0,[]) (by simp only [zZ,zR,zP,zQ,zN,zS,zM,zX,zU,Nat.reduceEqDiff,reduceIte];rfl) ⟨Nat.zero_le _,rfl⟩ ?_
 rintro ⟨i,out⟩ ⟨hi,ho⟩;simp only at hi ho
 by_cases hlt:i < t.length
 ·have hsz:=szt _ (List.getElem_mem hlt)
  have hol:out.length≤i:=by
   rw [ho];refine Nat.le_trans (List.length_filter_le ..) ?_;rw [List.length_take];omega
  have cu:=qKo t[i].1 p hsz sz
  refine zE ?_;refine zJ (fun K hK=>?_);simp (disch:=omega) only [push_cast,↓Int.cast_ofNat_Int,simprocAttr];refine hK _ ?_;clear hK K
  refine zE ?_;refine yD rfl ?_;refine zC ?_;refine zE ?_;refine zD ?_;refine zE ?_;refine zJ (fun K hK=>?_);simp (disch:=omega) only [push_cast,↓Int.cast_ofNat_Int,simprocAttr,yV,yU,yW hlt];refine hK _ ?_;clear hK K
  refine zE ?_;refine zJ (fun K hK=>?_);simp (disch:=omega) only [push_cast,↓Int.cast_ofNat_Int,simprocAttr]
  refine bE zNg cu (.cons (.v _) (.cons (.v _) .nil)) ?_;with_reducible refine aB ?_;simp (disch:=omega) only [push_cast,↓Int.cast_ofNat_Int,simprocAttr]
  refine hK _ ?_;clear hK K
  cases hu:dY t[i].1 p with
 |false =>
   have e2:aG out ++ [[FV.v (.string t[i].1),.v (.int .i64 t[i].2.1),.v (.string t[i].2.2)]]=aG (out ++ [t[i]]):=mR out _ _ _
   refine yD rfl ?_;refine zJ (fun K hK=>?_);simp (disch:=omega) only [push_cast,↓Int.cast_ofNat_Int,simprocAttr,yV,e2];(repeat refine ⟨by first|omega|decide|((repeat' apply And.intro) <;> first|omega|decide),?_⟩);refine hK _ ?_;clear hK K
   refine zB ?_;refine zA ?_;refine zJ (fun K hK=>?_);simp (disch:=omega) only [push_cast,↓Int.cast_ofNat_Int,simprocAttr];refine hK _ ?_;clear hK K
   refine zA ?_;refine ⟨(i + 1,out ++ [t[i]]),by simp only [zZ,zR,zP,zQ,zN,zS,zM,zX,zU,Nat.reduceEqDiff,reduceIte];rfl,⟨hlt,?_⟩,by dsimp only;omega⟩
   dsimp only;rw [List.take_succ_eq_append_getElem hlt,List.filter_append,← ho];simp [hu]
 |true =>
   refine yC rfl ?_;refine zC ?_;refine zB ?_;refine zA ?_;refine zJ (fun K hK=>?_);simp (disch:=omega) only [push_cast,↓Int.cast_ofNat_Int,simprocAttr];refine hK _ ?_;clear hK K
   refine zA ?_;refine ⟨(i + 1,out),by simp only [zZ,zR,zP,zQ,zN,zS,zM,zX,zU,Nat.reduceEqDiff,reduceIte];rfl,⟨hlt,?_⟩,by dsimp only;omega⟩
   dsimp only;rw [List.take_succ_eq_append_getElem hlt,List.filter_append,← ho];simp [hu]
 ·have hne:i=t.length:=by omega
  subst hne;rw [List.take_length] at ho
  have hol:out.length≤t.length:=by
   rw [ho];exact List.length_filter_le ..
  have hL:zJ9 t p u=out ++ u:=by rw [zJ9,← ho]
  have hmem:∀ e ∈ out,e.1.size≤1048576:=fun e he=>by
   rw [ho] at he;exact szt e (List.mem_filter.1 he).1
  clear ho;refine zE ?_;refine zJ (fun K hK=>?_);simp (disch:=omega) only [push_cast,↓Int.cast_ofNat_Int,simprocAttr];refine hK _ ?_;clear hK K
  refine zE ?_;refine yC rfl ?_;refine zT ?_;refine zG ?_;refine zG ?_;refine zH ?_;refine zE ?_;refine zE ?_;refine zJ (fun K hK=>?_);simp (disch:=omega) only [push_cast,↓Int.cast_ofNat_Int,simprocAttr,yV];refine hK _ ?_;clear hK K
  refine zA ?_;refine zD ?_;refine cP (fun x:Nat=>⟨[(1,.v (.string p)),(2,.lst false (aG u)),(8,.own 136),(34,.lst false (aG u)),(35,.v (.int .i64 u.length)),(36,.v (.int .i64 x))],[(136,dT out)]⟩) (fun x=>x≤u.length∧∀ j (h:j < u.length),j < x→dY u[j].1 p=true) (fun x=>u.length - x) [1,2,8,34,35,36] [136] 0 (by simp only [zZ,zR,zP,zQ,zN,zS,zM,zX,zU,Nat.reduceEqDiff,reduceIte];rfl) ⟨Nat.zero_le _,fun j h hj=>by omega⟩ ?_
  rintro k ⟨hk,hb⟩
  by_cases hkl:k < u.length
  ·have hsz:=szu _ (List.getElem_mem hkl)
   have cu:=qKo u[k].1 p hsz sz
   refine zE ?_;refine zJ (fun K hK=>?_);simp (disch:=omega) only [push_cast,↓Int.cast_ofNat_Int,simprocAttr];refine hK _ ?_;clear hK K
   refine zE ?_;refine yD rfl ?_;refine zC ?_;refine zE ?_;refine zD ?_;refine zE ?_;refine zJ (fun K hK=>?_);simp (disch:=omega) only [push_cast,↓Int.cast_ofNat_Int,simprocAttr,yV,yU,yW hkl];refine hK _ ?_;clear hK K
   refine zE ?_;refine zJ (fun K hK=>?_);simp (disch:=omega) only [push_cast,↓Int.cast_ofNat_Int,simprocAttr]
   refine bE zNg cu (.cons (.v _) (.cons (.v _) .nil)) ?_;with_reducible refine aB ?_;simp (disch:=omega) only [push_cast,↓Int.cast_ofNat_Int,simprocAttr]
   refine hK _ ?_;clear hK K
   cases hu:dY u[k].1 p with
  |false =>
    have hE:oR t p u=1:=by
     have:(u.all fun e=>dY e.1 p)=false:=List.all_eq_false.2 ⟨u[k],List.getElem_mem hkl,by rw [hu];decide⟩
     simp [oR,ok,this]
    refine yD rfl ?_;refine zE ?_;refine zJ (fun K hK=>?_);simp (disch:=omega) only [push_cast,↓Int.cast_ofNat_Int,simprocAttr];refine hK _ ?_;clear hK K
    refine eW 6 9000 67 3 rfl (by simp only [dX,fM,fN,bQ,aY,aZ,aT,cY,bD,cE,bC,bB,cM,bP,bN,aX,bV,bW,cJ,cX,dC,cD,Nat.reduceBEq,Nat.reduceEqDiff,reduceIte,cond_true,cond_false,List.map_cons,List.map_nil];exact rfl) ?_
    refine zW ?_;refine zL ?_;refine zK ?_;refine zK ?_;refine zL ?_;refine zK ?_;simp only [yA,yM,yH,yE,aA,aC,yK,yJ,zS,zM,Nat.reduceEqDiff,reduceIte,reduceCtorEq];exact eU rfl (aP []) ⟨by rw [hE],by rw [xP,hE];rfl⟩
  |true =>
    refine yC rfl ?_;refine zC ?_;refine zB ?_;refine zA ?_;refine zJ (fun K hK=>?_);simp (disch:=omega) only [push_cast,↓Int.cast_ofNat_Int,simprocAttr];refine hK _ ?_;clear hK K
    refine zA ?_;refine ⟨k + 1,by simp only [zZ,zR,zP,zQ,zN,zS,zM,zX,zU,Nat.reduceEqDiff,reduceIte];rfl,⟨hkl,fun j hj h=>?_⟩,by omega⟩
    by_cases e:j=k
    ·subst e;exact hu
    ·exact hb j hj (by omega)
  ·have hkk:k=u.length:=by omega
   subst hkk
   have hall:(u.all fun e=>dY e.1 p)=true:=List.all_eq_true.2 fun e he=>by
    obtain ⟨j,hj,rfl⟩:=List.getElem_of_mem he;exact hb j hj hj
   have hE:oR t p u=dD (pS (out ++ u)):=by
    rw [oR,if_neg (by rw [ok];decide),if_neg (by rw [hall];decide),hL]
   have e3:aG out ++ aG u=aG (out ++ u):=(qGg out u)
   refine zE ?_;refine zJ (fun K hK=>?_);simp (disch:=omega) only [push_cast,↓Int.cast_ofNat_Int,simprocAttr];refine hK _ ?_;clear hK K
   refine zE ?_;refine yC rfl ?_;refine zT ?_;refine zG ?_;refine zG ?_;refine zH ?_;refine zE ?_;refine zJ (fun K hK=>?_);simp (disch:=omega) only [push_cast,↓Int.cast_ofNat_Int,simprocAttr,yV,yU,e3];(repeat refine ⟨by first|omega|decide|((repeat' apply And.intro) <;> first|omega|decide),?_⟩);refine hK _ ?_;clear hK K
   refine yB [8] [136] (by simp only [zZ,zR,zP,zQ,zN,zS,zM,zX,zU,Nat.reduceEqDiff,reduceIte];exact rfl) ?_
   refine zE ?_;refine zJ (fun K hK=>?_);simp (disch:=omega) only [push_cast,↓Int.cast_ofNat_Int,simprocAttr]
   refine zPh (t:=out ++ u) (by rw [List.length_append];omega) rfl ?_
   intro s hp hn;with_reducible refine aB ?_;simp (disch:=omega) only [push_cast,↓Int.cast_ofNat_Int,simprocAttr]
   refine hK _ ?_;clear hK K;obtain ⟨q1,q2⟩:=zHm hp hn
   have hsl:s.length≤2097152:=by rw [hp.length_eq,List.length_append];omega
   have c15:=zQk s (by omega) (fun e he=>by
    rcases List.mem_append.1 (hp.mem_iff.1 he) with h|h
    ·exact hmem e h
    ·exact szu e h)
   rw [← q1] at hE;refine zE ?_;refine zE ?_;refine zJ (fun K hK=>?_);simp (disch:=omega) only [push_cast,↓Int.cast_ofNat_Int,simprocAttr]
   refine bE zV9 c15 (.cons (gD (yT _) rfl) .nil) ?_;with_reducible refine aB ?_;simp (disch:=omega) only [push_cast,↓Int.cast_ofNat_Int,simprocAttr]
   refine hK _ ?_;clear hK K
   by_cases h0:dD s=0
   ·have hT:xP t p u=s:=by rw [xP,if_pos (hE.trans h0),hL,q2 h0]
    rw [hE,hT,h0];refine zE ?_;refine zJ (fun K hK=>?_);simp (disch:=omega) only [push_cast,↓Int.cast_ofNat_Int,simprocAttr];refine hK _ ?_;clear hK K
    refine yC rfl ?_;refine zC ?_;refine zE ?_;refine zJ (fun K hK=>?_);simp (disch:=omega) only [push_cast,↓Int.cast_ofNat_Int,simprocAttr];refine hK _ ?_;clear hK K
    refine zA ?_;refine zW ?_;simp only [yA,yM,yH,yE,aA,aC,yK,yJ,zS,zM,Nat.reduceEqDiff,reduceIte,reduceCtorEq];exact eU rfl (aP _) ⟨rfl,rfl⟩
   ·have hT:xP t p u=[]:=by rw [xP,if_neg (fun h=>h0 (hE.symm.trans h))]
    have hz:decide (dD s=0)=false:=decide_eq_false h0
    rw [hE,hT];generalize dD s=e at hz;refine zE ?_;refine zJ (fun K hK=>?_);simp (disch:=omega) only [push_cast,↓Int.cast_ofNat_Int,simprocAttr,hz];refine hK _ ?_;clear hK K
    refine yD rfl ?_;refine zE ?_;refine zJ (fun K hK=>?_);simp (disch:=omega) only [push_cast,↓Int.cast_ofNat_Int,simprocAttr];refine hK _ ?_;clear hK K
    refine eW 6 9000 67 3 rfl (by simp only [dX,fM,fN,bQ,aY,aZ,aT,cY,bD,cE,bC,bB,cM,bP,bN,aX,bV,bW,cJ,cX,dC,cD,Nat.reduceBEq,Nat.reduceEqDiff,reduceIte,cond_true,cond_false,List.map_cons,List.map_nil];exact rfl) ?_
    refine zW ?_;refine zK ?_;simp only [yA,yM,yH,yE,aA,aC,yK,yJ,zS,zM,Nat.reduceEqDiff,reduceIte,reduceCtorEq];exact eU rfl (aP []) ⟨rfl,rfl⟩
end Go.Proofs.YtbdomkfdkfdfgaaGreatDoor
end
section
set_option maxRecDepth 20000
namespace Go.Proofs.YtbdomkfdkfdfgaaGreatDoor
open Go Go.Eng Go.RowKit Go.Tr
end Go.Proofs.YtbdomkfdkfdfgaaGreatDoor
end
