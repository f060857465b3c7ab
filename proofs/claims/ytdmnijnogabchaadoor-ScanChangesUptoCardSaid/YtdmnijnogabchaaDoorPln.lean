/-
  A row of plain cells in memory: of no program.
-/
import Derived.Test.YtdmnijnogabchaaDoorDkI
import Derived.Test.YtdmnijnogabchaaDoorItq
import Derived.Test.YtdmnijnogabchaaDoorDkB
import Derived.Sort.Grow
set_option linter.unusedSimpArgs false
set_option linter.unusedVariables false
section
namespace Go.Dk
open Go Go.Tr Go.Eng
def zKt (x k:Int) (s:Nat):Int:=IntKind.u64.wrap (bits .xor .u64 x (x.fdiv (2 ^ min s IntKind.u64.bits)) * k)
def zL6 (a b:Int):Int :=
 let z:=zKt (zKt (IntKind.u64.wrap (a + IntKind.u64.wrap (b * 11400714819323198485))) 13787848793156543929 30) 10723151780598845931 27
 bits .xor .u64 z (z.fdiv (2 ^ min 31 IntKind.u64.bits))
def zLf (pick:Int) (x:Itm):ByteArray :=
 if x.anew=true then (if 0 < pick.tmod ((x.data.size:Int) + 2) then x.data.extract 0 (pick.tmod ((x.data.size:Int) + 2) - 1).toNat else x.kept)
 else x.data.extract 0 ((x.kept.size:Int) + pick.tmod ((x.data.size:Int) - x.kept.size + 1)).toNat
def zKu (pick:Int) (x:Itm):Itm:={ x with kept:=zLf pick x,data:=zLf pick x,loose:=false,anew:=false }
def qV9 (loss:Int):List ByteArray→Int→Dk→Dk
|[],_,d=>d
|p :: r,n,d=>if (fM d p).loose=true then qV9 loss r (n + 1) (qV5 d p (zKu (zL6 (IntKind.u64.wrap loss) (IntKind.u64.wrap (n + 1))) (fM d p))) else qV9 loss r n d
def zGa (d:Dk) (loss:Int):Dk:={ qV9 loss (eK d.L) 0 d with down:=false,armed:=-1 }
end Go.Dk
end
section
set_option maxRecDepth 20000
namespace Go.Proofs.YtdmnijnogabchaaDoor
open Go Go.Eng Go.RowKit Go.Tr Go.Dk
def xT (d:Dk) (p:ByteArray):List ByteArray:=(d.L.filter fun e=>decide (par e.1=p)).map fun e=>e.1
def dL (d:Dk) (p:ByteArray):Int:=(fM d p).stamp
end Go.Proofs.YtdmnijnogabchaaDoor
end
section
set_option maxRecDepth 20000
namespace Go.Proofs.YtdmnijnogabchaaDoor
open Go Go.Eng Go.RowKit Go.Tr Go.Dk
theorem zFy (d:Dk) (p:ByteArray) (r1 r2:Nat) (hs:p.size≤1048576):HFunM Tryd.prog 43 [.ptr 0 6 0 0,.v (.string p)] [(0,.bx false 50 (d.cells r1 r2))] (d.maps kS r1 r2) (fun h st g=>h=.v (.int .i64 (dL d p))∧st=[(0,.bx false 50 (d.cells r1 r2))]∧g=d.maps kS r1 r2):=by
 refine nH (N:=14) Tryd.func43 rfl Tryd.ntmps43 Tryd.results43 (by simp) ?_
 simp only [bW];rw [eE];refine aA ?_;refine aD (fun K hK=>?_);simp (disch:=omega) only [push_cast,↓iC9,simprocAttr];refine hK _ ?_;clear hK K
 refine aA ?_;refine aA ?_;refine aD (fun K hK=>?_);simp (disch:=omega) only [push_cast,↓iC9,simprocAttr];refine hK _ ?_;clear hK K
 refine aB ?_;refine bT rfl ?_;refine aY ?_;refine aA ?_;refine bK ?_;refine aQ 5 (fun K1 hK1=>?_);simp (disch:=omega) only [push_cast,↓iC9,simprocAttr];refine hK1 _ ?_;(try clear hK1 K1)
 refine iP (i:=0) mtI rfl rfl rfl rfl rfl rfl (mx hs) ?_;refine aQ 2 (fun K1 hK1=>?_);simp (disch:=omega) only [push_cast,↓iC9,simprocAttr,aF,aE,oN,mG];refine hK1 _ ?_;(try clear hK1 K1)
 refine bA ?_
 have hxd:(bM d.L p).getD itm0=fM d p:=rfl
 rw [hxd];refine aB ?_;refine bN ?_;simp only [aN,aU,yH,yE,yK,yJ,aW,zS,zM,Nat.reduceEqDiff,reduceIte,reduceCtorEq];refine dA [0] [] (by first|rfl|simp [bsL,MO.bs]) (by decide) (by decide) (by simp only [push_cast,simprocAttr]) (by simp only [push_cast,simprocAttr]) (by simp only [push_cast,simprocAttr];rfl) (by simp only [push_cast,simprocAttr];rfl) ?_
 exact ⟨rfl,rfl,rfl⟩
end Go.Proofs.YtdmnijnogabchaaDoor
end
section
namespace Go.Eng
open Go Go.RowKit
def pln (cs:List (List Value)):List (List FV):=cs.map (List.map FV.v)
structure Uni (sz:Nat) (cs:List (List Value)):Prop where
 wid:∀ x ∈ cs,x.length=sz
 one:∀ x ∈ cs,∀ v ∈ x,v.oneCell'=true
theorem qD4 (cs:List (List Value)):(pln cs).length=cs.length:=by simp [pln]
theorem qAi {α:Type} {sz:Nat}:∀ {cs:List (List α)},(∀ x ∈ cs,x.length=sz)→cs.flatten.length=cs.length * sz
|[],_=>by simp
|x :: r,h=>by
  rw [List.flatten_cons,List.length_append,qAi (fun y hy=>h y (by simp [hy])),h x (by simp),List.length_cons,Nat.add_mul,Nat.one_mul,Nat.add_comm]
theorem oY {α:Type} {sz:Nat}:∀ {cs:List (List α)} (i:Nat),(∀ x ∈ cs,x.length=sz)→(cs.take i).flatten=cs.flatten.take (i * sz)
|[],i,_=>by simp
|x :: r,0,h=>by simp
|x :: r,i + 1,h=>by
  have hx:=h x (by simp)
  rw [List.take_succ_cons,List.flatten_cons,List.flatten_cons,oY i (fun y hy=>h y (by simp [hy])),List.take_append,List.take_of_length_le (l:=x) (by rw [hx,Nat.add_mul];omega),hx,show (i + 1) * sz - sz=i * sz by rw [Nat.add_mul,Nat.one_mul];omega]
theorem qUv {α:Type} {sz:Nat}:∀ {cs:List (List α)} (i k:Nat),(∀ x ∈ cs,x.length=sz)→(hi:i < cs.length)→k < sz→cs.flatten[i * sz + k]?=cs[i][k]?
|[],i,k,_,hi,_=>by simp at hi
|x :: r,0,k,h,hi,hk=>by
  have hx:=h x (by simp)
  rw [List.flatten_cons,Nat.zero_mul,Nat.zero_add,List.getElem?_append_left (by omega)];rfl
|x :: r,i + 1,k,h,hi,hk=>by
  have hx:=h x (by simp)
  have:=qUv (cs:=r) i k (fun y hy=>h y (List.mem_cons_of_mem _ hy)) (by simpa using hi) hk
  rw [List.flatten_cons,List.getElem?_append_right (by rw [hx,Nat.add_mul];omega),hx,show (i + 1) * sz + k - sz=i * sz + k by rw [Nat.add_mul,Nat.one_mul];omega,this]
  rfl
theorem qQy {cs:List (List Value)} {sz i k:Nat} (U:Uni sz cs) (hi:i < (pln cs).length) (hk:k < (pln cs)[i].length):∃ x,(pln cs)[i][k]=.v x∧cs.flatten[i * sz + k]?=some x∧x.oneCell'=true:=by
 have hi':i < cs.length:=by simpa [pln] using hi
 have e:(pln cs)[i]=cs[i].map FV.v:=by simp [pln]
 have hk':k < cs[i].length:=by rw [e] at hk;simpa using hk
 refine ⟨cs[i][k],by simp [e],?_,U.one _ (List.getElem_mem hi') _ (List.getElem_mem hk')⟩
 have hw:=U.wid _ (List.getElem_mem hi')
 rw [qUv i k U.wid hi' (by omega),List.getElem?_eq_getElem hk']
theorem zH3 {w:World} {A:Nat→Prop} {n0 sz:Nat} {arr:List Value} {cs:List (List Value)} (U:Uni sz cs) (h0:0 < sz) (hl:arr.length=cs.length * sz) (h:∀ i k (hi:i < (pln cs).length) (hk:k < (pln cs)[i].length),∃ u,arr[i * sz + k]?=some u∧u.oneCell'=true∧RepF w A n0 u (pln cs)[i][k]):arr=cs.flatten:=by
 apply List.ext_getElem?
 intro p
 by_cases hp:p < cs.length * sz
 ·have h1:p / sz < cs.length:=Nat.div_lt_of_lt_mul (by rw [Nat.mul_comm];exact hp)
  have hi:p / sz < (pln cs).length:=by rw [qD4];exact h1
  have hk:p % sz < (pln cs)[p / sz].length:=by
   have e:(pln cs)[p / sz]=(cs[p / sz]'h1).map FV.v:=by simp [pln]
   rw [e,List.length_map,U.wid _ (List.getElem_mem _)];exact Nat.mod_lt _ h0
  obtain ⟨u,u1,-,u3⟩:=h (p / sz) (p % sz) hi hk;obtain ⟨x,h1,h2,-⟩:=qQy U hi hk;rw [h1] at u3
  cases u3
  have e:p / sz * sz + p % sz=p:=by rw [Nat.mul_comm];exact Nat.div_add_mod p sz
  rw [e] at u1 h2;rw [u1,h2]
 ·rw [List.getElem?_eq_none (by omega),List.getElem?_eq_none (by rw [qAi U.wid];omega)]
theorem zF6 {c:Ctx} {S:HS} {look:Nat→Option Value} {w:World} {ρ:Nat→Value} {xs:Nat→List Value} (G:Good c S look w ρ xs) {id ty sz:Nat} {nw:Bool} {cs:List (List Value)} (U:Uni sz cs) (hz:0 < sz) (hr:rlk S.st id=some (.sl nw ty sz (pln cs))) (h0:0 < cs.length) :
  ∃ g cap cur,ρ id=.slice (some ⟨g,0,none⟩) cs.length cap∧Blk w g cur ty∧cs.length≤cap∧cap≤maxLen∧cur.size=cap * sz∧cur.toList.take (cs.length * sz)=cs.flatten:=by
 obtain ⟨o1,o2,o3⟩:=cL G hr;rw [qD4] at o1;obtain ⟨g,cap,hv,h1,h2,-⟩:=fL o1 h0;rw [hv] at o1;obtain ⟨cur,b1,b2,b3,b4,b5⟩:=sW o1
 have:=zH3 U hz o1.1 o3
 exact ⟨g,cap,cur,hv,b1,b2,b3,b4,by rw [b5,this]⟩
theorem Good.turnP {c:Ctx} {S:HS} {look:Nat→Option Value} {w w':World} {ρ:Nat→Value} {xs:Nat→List Value} (G:Good c S look w ρ xs) {id ty sz g cap:Nat} {nw:Bool} {cs0 cs:List (List Value)} (U:Uni sz cs) (hr:rlk S.st id=some (.sl nw ty sz (pln cs0))) (hg:ρ id=.slice (some ⟨g,0,none⟩) cs.length cap)
  (hO:Own w' 0 ty sz (ρ id) cs.length cs.flatten) (k1:w'.os=w.os) (k2:w'.tape=w.tape) (k3:w'.output=w.output) (k4:w.heap.size≤w'.heap.size) (k5:∀ b,b < w.heap.size→b≠g→w'.heap[b]?=w.heap[b]?) :
  Good c ⟨S.env,gW id (.sl nw ty sz (pln cs)) S.st⟩ look w' ρ (fun i=>if i=id then cs.flatten else xs i):=by
 refine G.upds id (.sl nw ty sz (pln cs0)) (.sl nw ty sz (pln cs)) cs.flatten k4 k1 k2 k3 hr rfl (fun b hlt hb=>k5 b hlt fun e=>hb (by rw [hg,e];rfl)) _ (fun i=>gL id _ _ _ hr i) ⟨?_,⟨fun x hx=>?_,fun i k hi hk=>?_⟩,(G.rows id _ hr).new⟩
 ·simpa [Row.ty,Row.sz,Row.len,qD4] using hO
 ·obtain ⟨y,hy,rfl⟩:=List.mem_map.1 hx;rw [List.length_map];exact U.wid y hy
 ·obtain ⟨x,h1,h2,h3⟩:=qQy U hi hk;exact ⟨x,h2,h3,by rw [h1];exact .v x⟩
theorem Good.fin {c:Ctx} {st:aC} {w w':World} {ρ:Nat→Value} {xs:Nat→List Value} (G:Good c ⟨[],st⟩ (fun _=>none) w ρ xs) (hw:c.w0=w) {nw:Bool} {ty sz:Nat} {cs0 cs:List (List Value)} (U:Uni sz cs) (hr:rlk st 0=some (.sl nw ty sz (pln cs0))) {v:Value}
  (hO:Own w' 0 ty sz v cs.length cs.flatten) (hg:w.grownBy w' (ρ 0).ownBlock) (hb:∀ b,v.ownBlock=some b→w.heap.size≤b∨(ρ 0).ownBlock=some b) :
  Good c ⟨[],[(0,.sl nw ty sz (pln cs))]⟩ (fun _=>none) w' (fun _=>v) (fun _=>cs.flatten):=by
 have hn0:=c.hn
 have hnew:=(G.rows 0 _ hr).new
 refine ⟨fun i r h=>?_,fun i j r s b hne h h'=>?_,fun k h hk=>by simp [hlk] at hk,G.kept.trans (T':=fun b=>(ρ 0).ownBlock=some b) ⟨hg.os,hg.tape,hg.output,hg.size,fun b hlt hne=>hg.block b hlt fun e=>hne e.symm⟩ (fun b hlt hT=>?_),G.a0⟩
 ·simp only [rlk] at h;split at h
  ·rename_i e;simp only [Option.some.injEq] at h;subst h;refine ⟨by simpa [Row.ty,Row.sz,Row.len,qD4] using hO,⟨fun x hx=>?_,fun i k hi hk=>?_⟩,fun b hb'=>?_⟩
   ·obtain ⟨y,hy,rfl⟩:=List.mem_map.1 hx;rw [List.length_map];exact U.wid y hy
   ·obtain ⟨x,h1,h2,h3⟩:=qQy U hi hk;exact ⟨x,h2,h3,by rw [h1];exact .v x⟩
   ·rcases hb b hb' with h|h
    ·rw [hw] at hn0 ⊢;exact ⟨.inl h,fun _=>by omega⟩
    ·exact hnew b h
  ·cases h
 ·simp only [rlk] at h h';split at h
  ·split at h'
   ·omega
   ·cases h'
  ·cases h
 ·rcases (hnew b hT).1 with h|h
  ·omega
  ·exact h
end Go.Eng
end
