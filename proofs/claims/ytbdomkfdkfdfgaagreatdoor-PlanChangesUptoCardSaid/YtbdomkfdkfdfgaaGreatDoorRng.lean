/-
  Functions whose body holds a range over a function: its end, with the mark among the deferred calls.
-/
import Derived.Test.YtbdomkfdkfdfgaaGreatDoorMr
import Derived.RangeFuncKeeps
import Derived.RangeFuncLeaves
set_option linter.unusedSimpArgs false
set_option linter.unusedVariables false
section
namespace Go.Eng
open Go Go.RowKit Go.Maps
section
variable {P:Program} {N:Nat} {S:HS} {g:MS} {Q:qQ}
theorem zLp {Qp:xW} {l:Env} {w:World} {id:Nat} {ops:List Oper} (keys:List Nat) (n:Nat) (hm:P.follows .mixedOrders=true) (bH:pZ l=keys) (hok:vE keys ops n=true) (hlt:DLt N ops n)
  {C:World→Prop} {R:Nat→Value→World→Prop} (hC:C w.drew) {Le:Nat→World→World→Prop} (hLe:∀ i w,Le i w w) (hS:∀ j i u w w',j < n→i < n→j≠i→C w→R j u w→Le i w w'→R j u w')
  (H:∀ i o,i < n→ops[i]?=some o→∀ (vs:Nat→Value) (w:World),C w→(∀ j t,j < i→aK ops j=some t→t ∈ o.looksAt ops.toArray→R j (vs j) w) →
   ∃ b,gd (fU l ops vs i) (bW ops) o.guard (·=b)∧(b=true→Yields P (execOp (evD (fU l ops vs i)) o) w fun u w'=>R i u w'∧C w'∧Le i w w')∧(b=false→R i undef w))
  (hT:∀ (F:Fr N) (vs:Nat→Value) (w:World),aZ N (fU l ops vs n)=true→C w→(∀ j,j < n→R j (vs j) w)→wpListIn (FW F.ds.2) 0 P ops.toArray (qZx N F.ds Qp) (ops.drop n) (mk F (fU l ops vs n)) w):W P N (.region id ops.toArray true) Qp l w:=fun hk F=>by
 have ok:=oF hok
 refine wpIn_region_any hm ?_
 have:=qSs ok F hk (fun t ht=>sC (by rw [bH];exact ht)) hlt hLe hS H (Q:=qZx N F.ds Qp)
  (fun vs w' hw' hR=>hT F vs w' (xD hlt hk n (Nat.le_refl _)) hw' hR)
  ops.length (Array.replicate ops.length false) (mk F l) w.drew (fun _=>undef) (lQ _)
  ⟨by simp,(fun i j hi=>by rw [getD_replicate_false] at hi;cases hi),(fun i hi=>by rw [getD_replicate_false] at hi;cases hi),rfl,by simp [mk,jQ,F.hN],(fun j t _ hl=>by rw [getD_replicate_false] at hl;cases hl),fun t _=>rfl,hC⟩
  (fun j _ hl=>by rw [getD_replicate_false] at hl;cases hl)
 simpa using this
theorem zNm {id:Nat} {ops:List Oper} (n:Nat) (hm:P.follows .mixedOrders=true) (hok:vE (bH S.env) ops n=true)
  (h:∀ K1:HS→Prop,(∀ S',HVM P N ops Q (ops.drop n) g S'→K1 S')→HVr P N (bW ops) K1 (ops.take n) S):HWM P N (.region id ops.toArray true) Q g S:=fun c l w I M=>by
 have hks:∀ k ∈ bH S.env,∃ v,lk l k=some v:=fun k hk=>by
  obtain ⟨x,hx⟩:=nV hk;obtain ⟨ρ,xs,G⟩:=I;obtain ⟨v,h1,-⟩:=G.env k x hx;exact ⟨v,h1⟩
 refine qFl (bH S.env) ?_
 have I':Inv c S (lk (keep (bH S.env) l)) w:=I.agree fun k x hk=>nE (sL hk)
 have hkk:pZ (keep (bH S.env) l)=bH S.env:=oJ hks
 generalize keep (bH S.env) l=l' at I' hkk;obtain ⟨ρ,xs,G⟩:=I'
 have ok:=oF hok
 have hlen:(ops.take n).length=n:=by rw [List.length_take];have:=ok.hn;omega
 have get_take:∀ {i:Nat} {o:Oper},(ops.take n)[i]?=some o→i < n∧ops[i]?=some o:=fun {i o} h=>by
  have hi:=(List.getElem?_eq_some_iff.1 h).1
  rw [hlen] at hi;rw [List.getElem?_take_of_lt hi] at h;exact ⟨hi,h⟩
 obtain ⟨hs,-,heads,S1,e1,F1,h1⟩:=qFm (E0:=S.env) (st:=S.st) (ops.take n) 0 S (fun _=>.junk) (fun k o hk=>by rw [Nat.zero_add];exact (get_take hk).2) rfl (fun t x hx=>.inr ⟨fun j hj=>absurd hj (Nat.not_lt_zero _),hx⟩) (h _ fun _ h=>h)
 rw [hlen,Nat.zero_add] at F1
 have head:∀ i o,i < n→ops[i]?=some o→HeadOk P N ops S.env S.st hs i o:=fun i o hi ho=>by
  have:=heads i o (by rw [List.getElem?_take_of_lt hi];exact ho)
  rw [Nat.zero_add] at this;exact this
 have uniq:∀ i j t,i < n→j < n→aK ops i=some t→aK ops j=some t→i=j:=by
  intro i j t hi hj h1 h2
  rcases Nat.lt_trichotomy i j with h|h|h
  ·rcases ok.uniq j i hj h with e|e
   ·rw [h2] at e;cases e
   ·exact absurd (h2.trans h1.symm) e
  ·exact h
  ·rcases ok.uniq i j hi h with e|e
   ·rw [h1] at e;cases e
   ·exact absurd (h1.trans h2.symm) e
 have hlt:DLt N ops n:=fun i t hi hd=>by
  obtain ⟨o,ho,hod⟩:=oS hd
  have:=(head i o hi ho).lt
  rw [hod] at this;exact this
 have frame:∀ (vs:Nat→Value) (w':World) (i:Nat) (E:aJ),i≤n→Below w.heap.size w w'→FrOk ops S.env hs i E →
   (∀ j t x,j < i→aK ops j=some t→hlk E t=some x→RepH w' (c.A ρ S.st) c.n0 ρ (vs j) (hs j))→Good c ⟨E,S.st⟩ (lk (fU l' ops vs i)) w' ρ xs:=fun vs w' i E hi hB F hv=>by
  have GB:=G.below hB
  refine ⟨GB.rows,GB.apart,fun k x hk=>?_,GB.kept,GB.a0⟩
  rcases F k x hk with ⟨j,a,b,d⟩|⟨a,b⟩
  ·refine ⟨vs j,(jD (l:=l') (vs:=vs) hlt (base:=Array.replicate N undef) (by simp) b (fun q hq hne e=>hne (uniq q j k hq (by omega) e b)) i hi a).1,?_⟩
   rw [← d];exact hv j k x a b hk
  ·obtain ⟨v,v1,v2⟩:=GB.env k x b;exact ⟨v,by rw [(kK (l:=l') (vs:=vs) #[] k i a).1];exact v1,v2⟩
 refine zLp (bH S.env) n hm hkk hok hlt (C:=fun w'=>Below w.heap.size w w') (R:=fun j u w'=>RepH w' (c.A ρ S.st) c.n0 ρ u (hs j)) (Below.refl _ _).drew (Le:=fun _ w w'=>Below w.heap.size w w') (fun _ w=>Below.refl _ _) (fun j _ u w1 w2 _ _ _ _ hr hB=>hr.above hB) ?_ ?_
 ·intro i o hi ho vs w1 hC hR;obtain ⟨T,TF,TS,run⟩:=(head i o hi ho).head
  have GT:Good c ⟨T,S.st⟩ (lk (fU l' ops vs i)) w1 ρ xs:=frame vs w1 i T (by omega) hC TF fun j t x hj hd hx=>hR j t hj hd (pV (TS t x hx))
  obtain ⟨b,b1,b2,b3⟩:=run c _ w1 ρ xs GT;refine ⟨b,b1,fun hb=>?_,fun hb=>?_⟩
  ·exact (jG (fun x X hx=>by simp [evD,hx]) (b2 hb)).mono fun u w2 ⟨hu,hB⟩=>⟨hu,hC.trans (hB.mono hC.size),hB⟩
  ·rw [b3 hb];exact .v _
 ·intro F vs w1 hk1 hC hR;obtain ⟨E1,st1⟩:=S1
  have e1:st1=S.st:=e1
  subst e1
  have G1:=frame vs w1 n E1 (Nat.le_refl _) hC F1 fun j t x hj _ _=>hR j hj
  exact h1 c F _ w1 hk1 ⟨ρ,xs,G1⟩ (M.block fun b hb _=>hC.block b hb.lt)
def bsL (g:MS):List Nat:=g.flatMap MO.bs
def HFunM (P:Program) (f:FuncId) (args:List HV) (st:aB) (g:MS) (Q:HV→aB→MS→Prop):Prop :=
 ∀ (c:Ctx) (w:World) (ρ:Nat→Value) (xs:Nat→List Value) (vs:List Value),c.w0=w→Good c ⟨[],st⟩ (fun _=>none) w ρ xs→MsOk P c w g→uL w (c.A ρ st) c.n0 ρ vs args →
  Calls P f vs.toArray w (Ret fun v w'=>∃ h st' g' ρ' xs',(∀ i r,rlk st' i=some r→i < 8)∧(∀ j,qZ (rlk st j)→qZ (rlk st' j))∧(∃ m,bsL g'=bsL g ++ m)∧Q h st' g'∧Good c ⟨[],st'⟩ (fun _=>none) w' ρ' xs'∧MsOk P c w' g'∧RepH w' (c.A ρ' st') c.n0 ρ' v h)
theorem HFunM.mono {f:FuncId} {args:List HV} {st:aB} {R R':HV→aB→MS→Prop} (h:HFunM P f args st g R) (hq:∀ h st g,R h st g→R' h st g):HFunM P f args st g R' :=
 fun c w ρ xs vs hw G M hr=>Ret.mono (h c w ρ xs vs hw G M hr) fun v w' ⟨x,st',g',ρ',xs',a,b,d,q,r⟩=>⟨x,st',g',ρ',xs',a,b,d,hq _ _ _ q,r⟩
theorem zR1 {x:Code} {Qh:fH} (h:HWM P N x (fun e _ S=>Qh e S) [] S):HW P N x Qh S:=fun c l w I =>
 (h c l w I ⟨fun i m hi=>by simp at hi,fun i j m m' b _ hi=>by simp at hi,fun i m b hi=>by simp at hi⟩).mono fun e l' w' ⟨S',g',I',_,q⟩=>⟨S',I',q⟩
end
end Go.Eng
end
section
namespace Go.Eng
open Go Go.RowKit
def Stay (T:Nat→Prop) (A B:World):Prop:=∀ k,T k→B.heap[k]?=A.heap[k]?
def BkE (T:Nat→Prop) (W:World) (sv:Value) (len:Nat) (vals:Nat→Nat→Value):Prop :=
 ∃ a cap,sv=.slice a len cap∧(0 < len→∃ b off,a=some ⟨b,off,none⟩∧T b∧∀ i k,i < len→k < 3→W.cell? ⟨b,off + (i * 3 + k),none⟩=some (vals i k))
variable {P:Program} {N:Nat}
def MD (P:Program) (N:Nat) (fn:Func) (R:Value→World→Prop) (ds:List Deferred) (c:Code) (l:Env) (w:World):Prop :=
 aZ N l=true→∀ F:Fr N,F.ds=(ds,none)→c.wpIn (FW none) 0 P (bodyPostM Fence.wide 0 P fn (Ret R)) (mk F l) w
theorem qYk {f:FuncId} {fn:Func} {c:Code} {args:List Value} {w:World} {R:Value→World→Prop}
  (hf:P.funcs[f]?=some fn) (hb:fn.body=some c) (hN:fn.ntmps=N) (hle:args.length≤N)
  (h:MD P N fn R [] c (mN 0 args) w):Calls P f args.toArray w (Ret R):=by
 subst hN;refine (callsIn_wide (n:=0)).1 (callsIn_of_wp_marks (F:=Fence.wide) hf hb trivial ?_)
 let F:Fr fn.ntmps:=⟨args.toArray ++ Array.replicate (fn.ntmps - args.toArray.size) undef,by simp;omega,([],none)⟩
 have e:mk F (mN 0 args)={ tmps:=args.toArray ++ Array.replicate (fn.ntmps - args.toArray.size) undef,defers:=[] }:=by
  show Act.mk _ _=Act.mk _ _
  rw [qD4];intro p hp;obtain ⟨_,h2⟩:=qFk args 0 p hp;simp only [Nat.sub_zero] at h2
  have hlt:p.1 < args.length:=by
   rcases Nat.lt_or_ge p.1 args.length with h|h
   ·exact h
   ·rw [List.getElem?_eq_none h] at h2;cases h2
  show (args.toArray ++ Array.replicate (fn.ntmps - args.toArray.size) undef)[p.1]?=some p.2
  rw [Array.getElem?_append_left (by simpa using hlt)]
  simpa using h2
 rw [← e];exact h (qB1 0 args (by simpa using hle)) F rfl
theorem zRy {fn:Func} {R:Value→World→Prop} {ds:List Deferred} {x y:Code} {l:Env} {w:World}
  (h:W P N x (fun e l' w'=>e=.normal∧MD P N fn R ds y l' w') l w):MD P N fn R ds (.seq x y) l w:=fun hk F hF=>by
 have h1:=h hk F
 rw [hF] at h1;refine wpIn_seq (Code.wpIn_mono ?_ h1);rintro e a w' ⟨F',l',hf,rfl,hk',he,hQ⟩;subst he;exact hQ hk' F' hf
theorem zRz {fn:Func} {R:Value→World→Prop} {D:Nat} {c:Code} {l:Env} {w:World}
  (h:W P N c (fun e l' w'=>(e=.normal∨e=.ret)∧w'.heap[D]?=some (.deferred (some []))∧kV P l' (w'.putObj D (.deferred none)) fn.results.toList fun vs=>R (tup vs) (w'.putObj D (.deferred none))) l w) :
  MD P N fn R [{ target:=.collected D,args:=#[] }] c l w:=fun hk F hF=>by
 have h1:=h hk F
 rw [hF] at h1;refine Code.wpIn_mono ?_ h1;rintro e a w' ⟨F',l',hf,rfl,hk',he,hD,hr⟩;obtain ⟨v,r1,r2⟩:=qAt F' hk' hr
 have hl:LeavesInM Fence.wide 0 P fn (mk F' l').tmps (Ret R) (mk F' l').defers .returning w':=by
  have:(mk F' l').defers=[{ target:=.collected D,args:=#[] }]:=congrArg Prod.fst hf
  rw [this];exact ⟨by simp,.inl ⟨D,_,rfl,run_takeDeferred hD,v,r1,r2⟩⟩
 rcases he with rfl|rfl
 ·exact hl
 ·exact hl
end Go.Eng
end
