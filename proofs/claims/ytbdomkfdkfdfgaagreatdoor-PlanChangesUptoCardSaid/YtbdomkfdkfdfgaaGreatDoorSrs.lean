/-
  slices.Sort of strings, laid by the kit's lay-plain.
-/
import Derived.Test.YtbdomkfdkfdfgaaGreatDoorTrC
import Derived.Test.YtbdomkfdkfdfgaaGreatDoorGd
import Derived.Test.YtbdomkfdkfdfgaaGreatDoorTrD
import Derived.Shelf.Slices.CompactS
import Derived.Ground.NamesProg
import Derived.Test.YtbdomkfdkfdfgaaGreatDoorProg
import Derived.Test.YtbdomkfdkfdfgaaGreatDoorGc
import Derived.Sort.Grow
import Derived.Shelf.Sort.Plain
import Derived.Shelf.Slices.In.SortNone
set_option linter.unusedVariables false
set_option linter.unusedSimpArgs false
section
namespace Go.Proofs.YtbdomkfdkfdfgaaGreatDoor
open Go Go.Eng Go.RowKit Go.ChangeShapes Go.WideShapes Go.ChangeAt Go.Tr
theorem qNe {b:Nat} {f:FV} (h:Fit (.sl b [.str,.int .i64,.str]) f):∃ t:List Ent,f=.lst false (aL t)∧True:=by
 cases h with
|sl hb hl h =>
  rename_i xs
  have:∀ x ∈ xs,∃ e:Ent,x=qUl e:=fun x hx=>by
   have h1:=hl x hx
   match x,h1 with
  |[f0,f1,f2],_ =>
   have a:=h _ hx 0 (by simp) (by simp)
   have b:=h _ hx 1 (by simp) (by simp)
   have c:=h _ hx 2 (by simp) (by simp)
   simp only [List.getElem_cons_zero,List.getElem_cons_succ] at a b c
   cases a;cases b;cases c
   exact ⟨(_,_,_),rfl⟩
  clear hb hl h
  induction xs with
 |nil=>exact ⟨[],rfl,trivial⟩
 |cons x r ih =>
   obtain ⟨e,rfl⟩:=this x (by simp)
   obtain ⟨t,ht,-⟩:=ih (fun y hy=>this y (by simp [hy]))
   simp only [FV.lst.injEq,true_and] at ht;exact ⟨e :: t,by rw [ht];rfl,trivial⟩
theorem qUc (t:List Ent):t.length≤fw (.lst false (aL t))∧∀ e ∈ t,e.1.size≤fw (.lst false (aL t))∧e.2.2.size≤fw (.lst false (aL t)):=by
 rw [zJ4]
 have:∀ t:List Ent,t.length≤((aL t).map fws).sum∧∀ e ∈ t,e.1.size≤((aL t).map fws).sum∧e.2.2.size≤((aL t).map fws).sum:=by
  intro t
  induction t with
 |nil=>exact ⟨Nat.le_refl _,by simp⟩
 |cons x r ih =>
   have e1:((aL (x :: r)).map fws).sum=fws (qUl x) + ((aL r).map fws).sum:=by simp [aL]
   have e2:x.1.size + 1 + x.2.2.size≤fws (qUl x):=by simp [fws,qUl,zRg];omega
   rw [e1];refine ⟨by simp only [List.length_cons];omega,fun e he=>?_⟩
   rcases List.mem_cons.1 he with rfl|he
   ·exact ⟨by omega,by omega⟩
   ·have:=ih.2 e he;exact ⟨by omega,by omega⟩
 obtain ⟨h1,h2⟩:=this t;exact ⟨by omega,fun e he=>by have:=h2 e he;exact ⟨by omega,by omega⟩⟩
end Go.Proofs.YtbdomkfdkfdfgaaGreatDoor
end
section
namespace Go.Proofs.YtbdomkfdkfdfgaaGreatDoor
open Go.Shelf
def Tryz.laysCompact_ren:Go.Shelf.Ren:=⟨fun|194=>42|n=>n,fun|31=>81|9=>9|3=>3|4=>4|0=>0|n=>n,fun|n=>n⟩
theorem Tryz.laysCompact:Go.Proofs.Lays.n194 Tryz.prog Tryz.laysCompact_ren:={
 mixed:=by kernel_rfl
 f194:=Tryz.func42.trans (congrArg some (by kernel_rfl))
 t0:=Tryz.underlying0
 a0:=Tryz.isAgg0
 z0:=Tryz.sizeOf0
 v0:=Tryz.zeroValue0
 t3:=Tryz.underlying3
 a3:=Tryz.isAgg3
 z3:=Tryz.sizeOf3
 v3:=Tryz.zeroValue3
 t4:=Tryz.underlying4
 a4:=Tryz.isAgg4
 z4:=Tryz.sizeOf4
 v4:=Tryz.zeroValue4
 t9:=Tryz.underlying9
 a9:=Tryz.isAgg9
 z9:=Tryz.sizeOf9
 v9:=Tryz.zeroValue9
 t31:=Tryz.underlying81
 a31:=Tryz.isAgg81
 z31:=Tryz.sizeOf81
 v31:=Tryz.zeroValue81 }
end Go.Proofs.YtbdomkfdkfdfgaaGreatDoor
end
section
namespace Go.Eng
open Go Go.RowKit
inductive PlainH:HV→Prop
|v (x:Value):PlainH (.v x)
|tup (xs:List Value):PlainH (.tup (xs.map .v))
section
variable {P:Program} {N:Nat} {w w':World} {A A':Nat→Prop} {n0 n1:Nat} {ρ ρ':Nat→Value}
theorem RepH.plain {v:Value} {h:HV} (hr:RepH w A n0 ρ v h) (hp:PlainH h):RepH w' A' n1 ρ' v h:=by
 cases hp with
|v x=>have:=bF hr;subst this;exact .v _
|tup xs =>
  cases hr with
 |tup hn h =>
  refine .tup hn fun j a b=>?_
  have:=h j a b
  simp only [List.getElem_map] at this ⊢
  have e:=bF this
  rw [e];exact .v _
end
end Go.Eng
end
section
namespace Go.Eng
open Go Go.RowKit
section
variable {P:Program} {N:Nat} {c:Ctx} {S:HS} {look:Nat→Option Value} {w w':World} {ρ:Nat→Value} {xs:Nat→List Value}
theorem Good.upds (h:Good c S look w ρ xs) (id:Nat) (r0 r:Row) (ys:List Value) (hs:w.heap.size≤w'.heap.size) (hos:w'.os=w.os) (htape:w'.tape=w.tape) (hout:w'.output=w.output)
  (hr0:rlk S.st id=some r0) (hnw:r.nw=r0.nw) (hb:∀ b,b < w.heap.size→(ρ id).ownBlock≠some b→w'.heap[b]?=w.heap[b]?)
  (st':aB) (hst:∀ i,rlk st' i=if i=id then some r else rlk S.st i)
  (hrow:RowOk w' (c.A ρ st') c ρ id r ys) :
  Good c ⟨S.env,st'⟩ look w' ρ (fun i=>if i=id then ys else xs i):=by
 have hA:∀ b,c.A ρ st' b→c.A ρ S.st b:=by
  rintro b (h0|⟨i,s,hi,hbi⟩)
  ·exact .inl h0
  ·right
   rw [hst] at hi
   by_cases e:i=id
   ·subst e;exact ⟨i,r0,hr0,hbi⟩
   ·rw [if_neg e] at hi;exact ⟨i,s,hi,hbi⟩
 have hb':∀ b,b < w.heap.size→¬ c.A ρ S.st b→w'.heap[b]?=w.heap[b]?:=fun b hl hn=>hb b hl fun e=>hn (.inr ⟨id,r0,hr0,e⟩)
 have tr:∀ v x,RepH w (c.A ρ S.st) c.n0 ρ v x→RepH w' (c.A ρ st') c.n0 ρ v x:=fun v x hv=>hv.up hs hb' (fun b _=>hA b) (Nat.le_refl _)
 have back:∀ i s,rlk st' i=some s→∃ s0,rlk S.st i=some s0:=by
  intro i s hi;rw [hst] at hi
  by_cases e:i=id
  ·subst e;exact ⟨r0,hr0⟩
  ·rw [if_neg e] at hi;exact ⟨s,hi⟩
 refine ⟨?_,?_,?_,?_,h.a0⟩
 ·intro i s hi;rw [hst] at hi
  by_cases e:i=id
  ·subst e;rw [if_pos rfl] at hi;simp only [Option.some.injEq] at hi;subst hi;rw [if_pos rfl];exact hrow
  ·rw [if_neg e] at hi;rw [if_neg e];exact (h.rows i s hi).up hs hb' (fun b _=>hA b) (fun b hbi=>hb b (h.lt hi hbi) fun e2=>h.apart i id s r0 b e hi hr0 hbi e2)
 ·intro i j ri rj b hne hi hj hbi hbj;obtain ⟨s0,h1⟩:=back i ri hi;obtain ⟨s1,h2⟩:=back j rj hj;exact h.apart i j s0 s1 b hne h1 h2 hbi hbj
 ·intro k x hk;obtain ⟨v,h1,h2⟩:=h.env k x hk;exact ⟨v,h1,tr v x h2⟩
 ·refine h.kept.trans (T':=fun b=>(ρ id).ownBlock=some b) ⟨hos,htape,hout,hs,fun b hlt hn=>hb b hlt hn⟩ fun b hlt e=>?_
  rcases ((h.rows id r0 hr0).new b e).1 with hge|hT
  ·omega
  ·exact hT
theorem zM1 {f:FuncId} {args args':List HV} {xs:List Value} {K:HV→HS→Prop} (hc:aE P f=true) (H:HFun P f args' (fun h st=>h=.tup (xs.map .v))) (hl:Lends S.st args args') (hK:K (.tup (xs.map .v)) S):HAt P f args S K :=
 ⟨hc,fun c look w ρ xs' vs G R=>Ret.mono (H w vs (nU G R hl)) fun v w' ⟨B,h,st,h8,q,ρ',xs',G',hr⟩=>⟨_,_,hK,ρ,_,G.below B,by subst q;exact hr.plain (.tup xs)⟩⟩
end
end Go.Eng
end
section
namespace Go.Eng
open Go Go.RowKit
def pln (cs:List (List Value)):List (List FV):=cs.map (List.map FV.v)
structure Uni (sz:Nat) (cs:List (List Value)):Prop where
 wid:∀ x ∈ cs,x.length=sz
 one:∀ x ∈ cs,∀ v ∈ x,v.oneCell'=true
theorem qHl (cs:List (List Value)):(pln cs).length=cs.length:=by simp [pln]
theorem qXy {α:Type} {sz:Nat}:∀ {cs:List (List α)},(∀ x ∈ cs,x.length=sz)→cs.flatten.length=cs.length * sz
|[],_=>by simp
|x :: r,h=>by
  rw [List.flatten_cons,List.length_append,qXy (fun y hy=>h y (by simp [hy])),h x (by simp),List.length_cons,Nat.add_mul,Nat.one_mul,Nat.add_comm]
theorem qXz {α:Type} {sz:Nat}:∀ {cs:List (List α)} (i k:Nat),(∀ x ∈ cs,x.length=sz)→(hi:i < cs.length)→k < sz→cs.flatten[i * sz + k]?=cs[i][k]?
|[],i,k,_,hi,_=>by simp at hi
|x :: r,0,k,h,hi,hk=>by
  have hx:=h x (by simp)
  rw [List.flatten_cons,Nat.zero_mul,Nat.zero_add,List.getElem?_append_left (by omega)];rfl
|x :: r,i + 1,k,h,hi,hk=>by
  have hx:=h x (by simp)
  have:=qXz (cs:=r) i k (fun y hy=>h y (List.mem_cons_of_mem _ hy)) (by simpa using hi) hk
  rw [List.flatten_cons,List.getElem?_append_right (by rw [hx,Nat.add_mul];omega),hx,show (i + 1) * sz + k - sz=i * sz + k by rw [Nat.add_mul,Nat.one_mul];omega,this]
  rfl
theorem qTu {cs:List (List Value)} {sz i k:Nat} (U:Uni sz cs) (hi:i < (pln cs).length) (hk:k < (pln cs)[i].length):∃ x,(pln cs)[i][k]=.v x∧cs.flatten[i * sz + k]?=some x∧x.oneCell'=true:=by
 have hi':i < cs.length:=by simpa [pln] using hi
 have e:(pln cs)[i]=cs[i].map FV.v:=by simp [pln]
 have hk':k < cs[i].length:=by rw [e] at hk;simpa using hk
 refine ⟨cs[i][k],by simp [e],?_,U.one _ (List.getElem_mem hi') _ (List.getElem_mem hk')⟩
 have hw:=U.wid _ (List.getElem_mem hi')
 rw [qXz i k U.wid hi' (by omega),List.getElem?_eq_getElem hk']
theorem zQ3 {w:World} {A:Nat→Prop} {n0 sz:Nat} {arr:List Value} {cs:List (List Value)} (U:Uni sz cs) (h0:0 < sz) (hl:arr.length=cs.length * sz) (h:∀ i k (hi:i < (pln cs).length) (hk:k < (pln cs)[i].length),∃ u,arr[i * sz + k]?=some u∧u.oneCell'=true∧RepF w A n0 u (pln cs)[i][k]):arr=cs.flatten:=by
 apply List.ext_getElem?
 intro p
 by_cases hp:p < cs.length * sz
 ·have h1:p / sz < cs.length:=Nat.div_lt_of_lt_mul (by rw [Nat.mul_comm];exact hp)
  have hi:p / sz < (pln cs).length:=by rw [qHl];exact h1
  have hk:p % sz < (pln cs)[p / sz].length:=by
   have e:(pln cs)[p / sz]=(cs[p / sz]'h1).map FV.v:=by simp [pln]
   rw [e,List.length_map,U.wid _ (List.getElem_mem _)];exact Nat.mod_lt _ h0
  obtain ⟨u,u1,-,u3⟩:=h (p / sz) (p % sz) hi hk;obtain ⟨x,h1,h2,-⟩:=qTu U hi hk;rw [h1] at u3
  cases u3
  have e:p / sz * sz + p % sz=p:=by rw [Nat.mul_comm];exact Nat.div_add_mod p sz
  rw [e] at u1 h2;rw [u1,h2]
 ·rw [List.getElem?_eq_none (by omega),List.getElem?_eq_none (by rw [qXy U.wid];omega)]
theorem zA5 {c:Ctx} {S:HS} {look:Nat→Option Value} {w:World} {ρ:Nat→Value} {xs:Nat→List Value} (G:Good c S look w ρ xs) {id ty sz:Nat} {nw:Bool} {cs:List (List Value)} (U:Uni sz cs) (hz:0 < sz) (hr:rlk S.st id=some (.sl nw ty sz (pln cs))) (h0:0 < cs.length) :
  ∃ g cap cur,ρ id=.slice (some ⟨g,0,none⟩) cs.length cap∧Blk w g cur ty∧cs.length≤cap∧cap≤maxLen∧cur.size=cap * sz∧cur.toList.take (cs.length * sz)=cs.flatten:=by
 obtain ⟨o1,o2,o3⟩:=cM G hr;rw [qHl] at o1;obtain ⟨g,cap,hv,h1,h2,-⟩:=gM o1 h0;rw [hv] at o1;obtain ⟨cur,b1,b2,b3,b4,b5⟩:=tX o1
 have:=zQ3 U hz o1.1 o3
 exact ⟨g,cap,cur,hv,b1,b2,b3,b4,by rw [b5,this]⟩
theorem Good.turnP {c:Ctx} {S:HS} {look:Nat→Option Value} {w w':World} {ρ:Nat→Value} {xs:Nat→List Value} (G:Good c S look w ρ xs) {id ty sz g cap:Nat} {nw:Bool} {cs0 cs:List (List Value)} (U:Uni sz cs) (hr:rlk S.st id=some (.sl nw ty sz (pln cs0))) (hg:ρ id=.slice (some ⟨g,0,none⟩) cs.length cap)
  (hO:Own w' 0 ty sz (ρ id) cs.length cs.flatten) (k1:w'.os=w.os) (k2:w'.tape=w.tape) (k3:w'.output=w.output) (k4:w.heap.size≤w'.heap.size) (k5:∀ b,b < w.heap.size→b≠g→w'.heap[b]?=w.heap[b]?) :
  Good c ⟨S.env,gJ id (.sl nw ty sz (pln cs)) S.st⟩ look w' ρ (fun i=>if i=id then cs.flatten else xs i):=by
 refine G.upds id (.sl nw ty sz (pln cs0)) (.sl nw ty sz (pln cs)) cs.flatten k4 k1 k2 k3 hr rfl (fun b hlt hb=>k5 b hlt fun e=>hb (by rw [hg,e];rfl)) _ (fun i=>gL id _ _ _ hr i) ⟨?_,⟨fun x hx=>?_,fun i k hi hk=>?_⟩,(G.rows id _ hr).new⟩
 ·simpa [Row.ty,Row.sz,Row.len,qHl] using hO
 ·obtain ⟨y,hy,rfl⟩:=List.mem_map.1 hx;rw [List.length_map];exact U.wid y hy
 ·obtain ⟨x,h1,h2,h3⟩:=qTu U hi hk;exact ⟨x,h2,h3,by rw [h1];exact .v x⟩
theorem Good.fin {c:Ctx} {st:aB} {w w':World} {ρ:Nat→Value} {xs:Nat→List Value} (G:Good c ⟨[],st⟩ (fun _=>none) w ρ xs) (hw:c.w0=w) {nw:Bool} {ty sz:Nat} {cs0 cs:List (List Value)} (U:Uni sz cs) (hr:rlk st 0=some (.sl nw ty sz (pln cs0))) {v:Value}
  (hO:Own w' 0 ty sz v cs.length cs.flatten) (hg:w.grownBy w' (ρ 0).ownBlock) (hb:∀ b,v.ownBlock=some b→w.heap.size≤b∨(ρ 0).ownBlock=some b) :
  Good c ⟨[],[(0,.sl nw ty sz (pln cs))]⟩ (fun _=>none) w' (fun _=>v) (fun _=>cs.flatten):=by
 have hn0:=c.hn
 have hnew:=(G.rows 0 _ hr).new
 refine ⟨fun i r h=>?_,fun i j r s b hne h h'=>?_,fun k h hk=>by simp [hlk] at hk,G.kept.trans (T':=fun b=>(ρ 0).ownBlock=some b) ⟨hg.os,hg.tape,hg.output,hg.size,fun b hlt hne=>hg.block b hlt fun e=>hne e.symm⟩ (fun b hlt hT=>?_),G.a0⟩
 ·simp only [rlk] at h;split at h
  ·rename_i e;simp only [Option.some.injEq] at h;subst h;refine ⟨by simpa [Row.ty,Row.sz,Row.len,qHl] using hO,⟨fun x hx=>?_,fun i k hi hk=>?_⟩,fun b hb'=>?_⟩
   ·obtain ⟨y,hy,rfl⟩:=List.mem_map.1 hx;rw [List.length_map];exact U.wid y hy
   ·obtain ⟨x,h1,h2,h3⟩:=qTu U hi hk;exact ⟨x,h2,h3,by rw [h1];exact .v x⟩
   ·rcases hb b hb' with h|h
    ·rw [hw] at hn0 ⊢;exact ⟨.inl h,fun _=>by omega⟩
    ·exact hnew b h
  ·cases h
 ·simp only [rlk] at h h';split at h
  ·split at h'
   ·omega
   ·cases h'
  ·cases h
 ·rcases (hnew b hT).1 with h|h
  ·omega
  ·exact h
end Go.Eng
end
section
namespace Go.Proofs.YtbdomkfdkfdfgaaGreatDoor
open Go.Shelf
def Tryz.sortS_ren:Go.Shelf.Ren:=⟨fun|190=>41|125=>64|258=>63|128=>92|129=>93|302=>83|303=>84|304=>85|305=>86|306=>87|307=>88|308=>89|309=>90|310=>91|333=>119|329=>120|330=>121|334=>122|335=>123|336=>124|344=>143|n=>n,fun|31=>81|9=>9|3=>3|46=>109|0=>0|51=>136|53=>138|4=>4|183=>130|182=>129|131=>110|5=>5|218=>158|222=>162|228=>180|229=>181|n=>n,fun|n=>n⟩
theorem Tryz.sortS:Go.Proofs.Lays.n190 Tryz.prog Tryz.sortS_ren:={
 mixed:=by kernel_rfl
 f125:=Tryz.func64.trans (congrArg some (by kernel_rfl))
 f128:=Tryz.func92.trans (congrArg some (by kernel_rfl))
 f129:=Tryz.func93.trans (congrArg some (by kernel_rfl))
 f190:=Tryz.func41.trans (congrArg some (by kernel_rfl))
 f258:=Tryz.func63.trans (congrArg some (by kernel_rfl))
 f302:=Tryz.func83.trans (congrArg some (by kernel_rfl))
 f303:=Tryz.func84.trans (congrArg some (by kernel_rfl))
 f304:=Tryz.func85.trans (congrArg some (by kernel_rfl))
 f305:=Tryz.func86.trans (congrArg some (by kernel_rfl))
 f306:=Tryz.func87.trans (congrArg some (by kernel_rfl))
 f307:=Tryz.func88.trans (congrArg some (by kernel_rfl))
 f308:=Tryz.func89.trans (congrArg some (by kernel_rfl))
 f309:=Tryz.func90.trans (congrArg some (by kernel_rfl))
 f310:=Tryz.func91.trans (congrArg some (by kernel_rfl))
 f329:=Tryz.func120.trans (congrArg some (by kernel_rfl))
 f330:=Tryz.func121.trans (congrArg some (by kernel_rfl))
 f333:=Tryz.func119.trans (congrArg some (by kernel_rfl))
 f334:=Tryz.func122.trans (congrArg some (by kernel_rfl))
 f335:=Tryz.func123.trans (congrArg some (by kernel_rfl))
 f336:=Tryz.func124.trans (congrArg some (by kernel_rfl))
 f344:=Tryz.func143.trans (congrArg some (by kernel_rfl))
 t0:=Tryz.underlying0
 a0:=Tryz.isAgg0
 z0:=Tryz.sizeOf0
 v0:=Tryz.zeroValue0
 t3:=Tryz.underlying3
 a3:=Tryz.isAgg3
 z3:=Tryz.sizeOf3
 v3:=Tryz.zeroValue3
 t4:=Tryz.underlying4
 a4:=Tryz.isAgg4
 z4:=Tryz.sizeOf4
 v4:=Tryz.zeroValue4
 t5:=Tryz.underlying5
 a5:=Tryz.isAgg5
 z5:=Tryz.sizeOf5
 v5:=Tryz.zeroValue5
 t9:=Tryz.underlying9
 a9:=Tryz.isAgg9
 z9:=Tryz.sizeOf9
 v9:=Tryz.zeroValue9
 t31:=Tryz.underlying81
 a31:=Tryz.isAgg81
 z31:=Tryz.sizeOf81
 v31:=Tryz.zeroValue81
 t46:=Tryz.underlying109
 a46:=Tryz.isAgg109
 z46:=Tryz.sizeOf109
 v46:=Tryz.zeroValue109
 t51:=Tryz.underlying136
 a51:=Tryz.isAgg136
 z51:=Tryz.sizeOf136
 v51:=Tryz.zeroValue136
 t53:=Tryz.underlying138
 a53:=Tryz.isAgg138
 z53:=Tryz.sizeOf138
 v53:=Tryz.zeroValue138
 t131:=Tryz.underlying110
 a131:=Tryz.isAgg110
 z131:=Tryz.sizeOf110
 v131:=Tryz.zeroValue110
 t182:=Tryz.underlying129
 a182:=Tryz.isAgg129
 z182:=Tryz.sizeOf129
 v182:=Tryz.zeroValue129
 t183:=Tryz.underlying130
 a183:=Tryz.isAgg130
 z183:=Tryz.sizeOf130
 v183:=Tryz.zeroValue130
 t218:=Tryz.underlying158
 a218:=Tryz.isAgg158
 z218:=Tryz.sizeOf158
 v218:=Tryz.zeroValue158
 t222:=Tryz.underlying162
 a222:=Tryz.isAgg162
 z222:=Tryz.sizeOf162
 v222:=Tryz.zeroValue162
 t228:=Tryz.underlying180
 a228:=Tryz.isAgg180
 z228:=Tryz.sizeOf180
 v228:=Tryz.zeroValue180
 t229:=Tryz.underlying181
 a229:=Tryz.isAgg181
 z229:=Tryz.sizeOf181
 v229:=Tryz.zeroValue181 }
end Go.Proofs.YtbdomkfdkfdfgaaGreatDoor
end
