/-
  Maps (texts to values of any tN) and walks over them, beside the engine's state: regions, code.
-/
import Derived.Test.YtdmnijnogabchaaDoorGd
import Derived.Test.YtdmnijnogabchaaDoorApe
import Derived.Maps.OwnSet
import Derived.Maps.RangeWalk
set_option linter.unusedSimpArgs false
set_option linter.unusedVariables false
namespace Go.Eng
open Go Go.RowKit Go.Maps
abbrev MTab:=List UInt8→Option Value
def mK (v:Value):Option (DataW Value × List MemPlace):=some (.held v,[])
structure Reads (D:DataW Value) (M:MTab):Prop where
 map:IsMap D
 has:∀ s,Maps.has D (.string s)=(M s).isSome
 at':∀ s z,D.atKey (.string s) z=match M s with
 |some v=>.held v
 |none=>z
def MTab.put (M:MTab) (s:List UInt8) (v:Value):MTab:=fun t=>if t=s then some v else M t
def MTab.del (M:MTab) (s:List UInt8):MTab:=fun t=>if t=s then none else M t
inductive MO where
|map (r:Nat) (k:TypeId) (n:Nat) (M:MTab)
|itr (it r:Nat) (k:TypeId) (n:Nat) (M:MTab) (left:List UInt8→Bool) (cnt:Nat) (cur:Option (ByteArray × Value))
|dfr (D:Nat)
|opn (r:Nat) (t k:TypeId) (n:Nat) (M:MTab) (s:List UInt8) (e:Value)
def MO.bs:MO→List Nat
|.map r _ _ _=>[r]
|.itr it r _ _ _ _ _ _=>[it,r]
|.dfr D=>[D]
|.opn r _ _ _ _ _ _=>[r]
def zLg (P:Program) (w:World) (it:Nat):Option (ByteArray × Value)→Prop
|none=>True
|some (s,v)=>(Instr.entry (.pointer (some ⟨it,0,none⟩))).run P w=.ok (.tuple #[.string s,v]) w
def MO.ok (P:Program) (w:World):MO→Prop
|.map r k n M=>∃ D:DataW Value,w.ownsMap P k mK r n D∧Reads D M
|.itr it r k n M left cnt cur=>(∃ (D:DataW Value) (lf:Lit→Bool),w.ranges P k mK r it n D lf cnt∧Reads D M∧∀ s,lf (.string s)=left s)∧zLg P w it cur
|.dfr D=>w.heap[D]?=some (.deferred (some []))
|.opn r t k n M s e=>(∃ es cl,w.heap[r]?=some (.map es cl))∧∀ (w2:World) (v:Value),w2.heap[r]?=w.heap[r]?→∃ w3,(Instr.entryStore t (.map (some r)) e v).run P w2=.ok () w3∧w2.grownBy w3 (some r)∧∃ D:DataW Value,w3.ownsMap P k mK r (n + 1) D∧Reads D (M.put s v)
abbrev MS:=List MO
structure MsOk (P:Program) (c:Ctx) (w:World) (g:MS):Prop where
 ok:∀ (i:Nat) (m:MO),g[i]?=some m→m.ok P w
 nd:∀ (i j:Nat) (m m':MO) (b:Nat),i≠j→g[i]?=some m→g[j]?=some m'→b ∈ m.bs→b ∈ m'.bs→False
 foot:∀ (i:Nat) (m:MO) (b:Nat),g[i]?=some m→b ∈ m.bs→c.w0.heap.size≤b∨c.T b
def dullB (w:World) (b:Nat):Prop:=(∃ es cl,w.heap[b]?=some (.map es cl))∨(∃ a s e d,w.heap[b]?=some (.mapIter a s e d))∨∃ x,w.heap[b]?=some (.deferred x)
theorem dullB.lt {w:World} {b:Nat} (h:dullB w b):b < w.heap.size:=by
 rcases h with ⟨_,_,h⟩|⟨_,_,_,_,h⟩|⟨_,h⟩ <;> exact (Array.getElem?_eq_some_iff.1 h).1
theorem dullB.cell {w:World} {b o:Nat} {u:Value} (h:dullB w b) (hu:w.cell? ⟨b,o,none⟩=some u):False:=by
 rcases h with ⟨_,_,h⟩|⟨_,_,_,_,h⟩|⟨_,h⟩ <;> · simp only [World.cell?,h] at hu;cases hu
theorem MO.dull {P:Program} {w:World} {m:MO} (h:m.ok P w):∀ b ∈ m.bs,dullB w b:=by
 cases m with
|map r k n M =>
  obtain ⟨D,⟨es,cl,h1,_⟩,_⟩:=h;intro b hb;simp only [MO.bs,List.mem_singleton] at hb;subst hb;exact .inl ⟨es,cl,h1⟩
|itr it r k n M left cnt cur =>
  obtain ⟨⟨D,lf,⟨es,cl,since,seen,c0,h1,_,_,_,h2,_⟩,_⟩,_⟩:=h;intro b hb;simp only [MO.bs,List.mem_cons,List.not_mem_nil,or_false] at hb
  rcases hb with rfl|rfl
  ·exact .inr (.inl ⟨_,_,_,_,h2⟩)
  ·exact .inl ⟨es,cl,h1⟩
|dfr D =>
  intro b hb;simp only [MO.bs,List.mem_singleton] at hb;subst hb;exact .inr (.inr ⟨_,h⟩)
|opn r t k n M s e =>
  obtain ⟨⟨es,cl,h⟩,_⟩:=h;intro b hb;simp only [MO.bs,List.mem_singleton] at hb;subst hb;exact .inl ⟨es,cl,h⟩
theorem qXd {P:Program} {w w':World} {it r:Nat} {a:Nat} {e:Array Nat} {d:Nat} {es:Array MapEntry} {cl:Nat} {v:Value} (h1:w.heap[it]?=some (.mapIter (some r) a e d)) (h2:w.heap[r]?=some (.map es cl))
  (e1:w'.heap[it]?=w.heap[it]?) (e2:w'.heap[r]?=w.heap[r]?) (h:(Instr.entry (.pointer (some ⟨it,0,none⟩))).run P w=.ok v w):(Instr.entry (.pointer (some ⟨it,0,none⟩))).run P w'=.ok v w':=by
 rw [h1] at e1;rw [h2] at e2
 have key:∀ (u:World),u.heap[it]?=some (.mapIter (some r) a e d)→u.heap[r]?=some (.map es cl)→(Instr.entry (.pointer (some ⟨it,0,none⟩))).run P u=(match e.back? with
  |some stamp=>if cl != d then (Instr.entry (.pointer (some ⟨it,0,none⟩))).run P u else match es.find? (·.born == stamp) with
   |some x=>.ok (.tuple #[x.key,x.val]) u
   |none=>(Instr.entry (.pointer (some ⟨it,0,none⟩))).run P u
  |none=>(Instr.entry (.pointer (some ⟨it,0,none⟩))).run P u):=fun u u1 u2=>by
  split
  ·rename_i stamp hs;split
   ·rfl
   ·rename_i hc;split
    ·rename_i x hx;simp only [Instr.entry,getObj,Sem.run_bind,Sem.run,u1,u2,Result.andThen,hs,hx,if_neg hc];rfl
    ·rfl
  ·rfl
 have bad:∀ (u:World),u.heap[it]?=some (.mapIter (some r) a e d)→u.heap[r]?=some (.map es cl)→(e.back?=none∨(cl != d)=true∨∃ stamp,e.back?=some stamp∧es.find? (·.born == stamp)=none)→∀ v u',(Instr.entry (.pointer (some ⟨it,0,none⟩))).run P u≠.ok v u':=by
  rintro u u1 u2 hb v u' hr;simp only [Instr.entry,getObj,Sem.run_bind,Sem.run,u1,u2,Result.andThen] at hr
  rcases hb with hb|hb|⟨st,hb,hf⟩
  ·rw [hb] at hr;cases hr
  ·cases hbk:e.back? with
  |none=>rw [hbk] at hr;cases hr
  |some s=>rw [hbk] at hr;simp only [getObj,Sem.run_bind,Sem.run,u2,Result.andThen] at hr;rw [if_pos hb] at hr;cases hr
  ·rw [hb] at hr;simp only [getObj,Sem.run_bind,Sem.run,u2,Result.andThen] at hr
   by_cases hc:(cl != d)=true
   ·rw [if_pos hc] at hr;cases hr
   ·rw [if_neg hc,hf] at hr;cases hr
 cases hs:e.back? with
|none=>exact absurd h (bad w h1 h2 (.inl hs) _ _)
|some stamp =>
  by_cases hc:(cl != d)=true
  ·exact absurd h (bad w h1 h2 (.inr (.inl hc)) _ _)
  ·cases hf:es.find? (·.born == stamp) with
  |none=>exact absurd h (bad w h1 h2 (.inr (.inr ⟨stamp,hs,hf⟩)) _ _)
  |some x =>
    rw [key w h1 h2,hs] at h;rw [key w' e1 e2,hs];simp only [if_neg hc,hf] at h ⊢
    injection h with h3 h4
    rw [h3]
theorem MO.ok_block {P:Program} {w w':World} {m:MO} (h:m.ok P w) (hb:∀ b ∈ m.bs,w'.heap[b]?=w.heap[b]?):m.ok P w':=by
 cases m with
|map r k n M =>
  obtain ⟨D,⟨es,cl,h1,h2⟩,h3⟩:=h;exact ⟨D,⟨es,cl,by rw [hb r (by simp [MO.bs])];exact h1,h2⟩,h3⟩
|itr it r k n M left cnt cur =>
  obtain ⟨⟨D,lf,⟨es,cl,since,seen,c0,h1,h2,h3,h4,h5,h6⟩,h7⟩,h8⟩:=h
  have b1:=hb it (by simp [MO.bs])
  have b2:=hb r (by simp [MO.bs])
  refine ⟨⟨D,lf,⟨es,cl,since,seen,c0,b2.trans h1,h2,h3,h4,b1.trans h5,h6⟩,h7⟩,?_⟩
  cases cur with
 |none=>trivial
 |some p=>exact qXd h5 h1 b1 b2 h8
|dfr D=>exact (hb D (by simp [MO.bs])).trans h
|opn r t k n M s e =>
  obtain ⟨⟨es,cl,h1⟩,h2⟩:=h
  have b1:=hb r (by simp [MO.bs])
  exact ⟨⟨es,cl,b1.trans h1⟩,fun w2 v hw2=>h2 w2 v (hw2.trans b1)⟩
theorem MsOk.dull {P:Program} {c:Ctx} {w:World} {g:MS} (M:MsOk P c w g) {i:Nat} {m:MO} {b:Nat} (hi:g[i]?=some m) (hb:b ∈ m.bs):dullB w b:=MO.dull (M.ok i m hi) b hb
theorem MsOk.block {P:Program} {c:Ctx} {w w':World} {g:MS} (M:MsOk P c w g) (hb:∀ b,dullB w b→(c.w0.heap.size≤b∨c.T b)→w'.heap[b]?=w.heap[b]?):MsOk P c w' g :=
 ⟨fun i m hi=>MO.ok_block (M.ok i m hi) fun b hb'=>hb b (M.dull hi hb') (M.foot i m b hi hb'),M.nd,M.foot⟩
theorem getElem?_set' {α:Type} {l:List α} {i j:Nat} {a x:α} (h:(l.set i a)[j]?=some x):(j=i∧x=a)∨(j≠i∧l[j]?=some x):=by
 rw [List.getElem?_set] at h;split at h
 ·rename_i e;split at h
  ·exact .inl ⟨e.symm,(Option.some.inj h).symm⟩
  ·cases h
 ·rename_i e;exact .inr ⟨fun e'=>e e'.symm,h⟩
theorem MsOk.set {P:Program} {c:Ctx} {w w':World} {g:MS} (M:MsOk P c w g) {i:Nat} {m m':MO} (hi:g[i]?=some m) (hok:m'.ok P w') (hbs:∀ b ∈ m'.bs,b ∈ m.bs∨w.heap.size≤b) (hs:c.w0.heap.size≤w.heap.size)
  (hoth:∀ b,b < w.heap.size→b ∉ m.bs→w'.heap[b]?=w.heap[b]?):MsOk P c w' (g.set i m'):=by
 refine ⟨fun j x hj=>?_,fun j1 j2 x1 x2 b hne h1 h2 hb1 hb2=>?_,fun j x b hj hb=>?_⟩
 ·rcases getElem?_set' hj with ⟨rfl,rfl⟩|⟨hne,hj⟩
  ·exact hok
  ·exact MO.ok_block (M.ok j x hj) fun b hb=>hoth b (M.dull hj hb).lt fun hbm=>M.nd j i x m b hne hj hi hb hbm
 ·rcases getElem?_set' h1 with ⟨e1,f1⟩|⟨n1,g1⟩ <;> rcases getElem?_set' h2 with ⟨e2,f2⟩|⟨n2,g2⟩
  ·exact hne (e1.trans e2.symm)
  ·subst e1 f1
   rcases hbs b hb1 with h|h
   ·exact M.nd j1 j2 m x2 b hne hi g2 h hb2
   ·have:=(M.dull g2 hb2).lt;omega
  ·subst e2 f2
   rcases hbs b hb2 with h|h
   ·exact M.nd j1 j2 x1 m b hne g1 hi hb1 h
   ·have:=(M.dull g1 hb1).lt;omega
  ·exact M.nd j1 j2 x1 x2 b hne g1 g2 hb1 hb2
 ·rcases getElem?_set' hj with ⟨rfl,rfl⟩|⟨hne,hj⟩
  ·rcases hbs b hb with h|h
   ·exact M.foot _ m b hi h
   ·exact .inl (by omega)
  ·exact M.foot j x b hj hb
section
variable {P:Program} {N:Nat} {c:Ctx} {S:HS} {g:MS} {look:Nat→Option Value} {w w':World} {ρ:Nat→Value} {xs:Nat→List Value}
theorem jD (G:Good c S look w ρ xs) {b:Nat} (h:dullB w b):¬ eW ρ S.st b:=by
 rintro ⟨i,s,hi,hb⟩
 rcases (G.rows i s hi).own.2 with ⟨h2,_⟩|⟨g',cap,cur,h2,_,h3,_⟩
 ·rw [h2] at hb;cases hb
 ·rw [h2] at hb;simp only [Value.ownBlock,Option.some.injEq] at hb;subst hb
  rcases h with ⟨_,_,h⟩|⟨_,_,_,_,h⟩|⟨_,h⟩ <;> (rw [h] at h3;cases h3)
theorem RepF.upm {A:Nat→Prop} {n0:Nat} {v:Value} {x:FV} (h:RepF w A n0 v x) (hs:w.heap.size≤w'.heap.size) (hb:∀ b o u,w.cell? ⟨b,o,none⟩=some u→w'.cell? ⟨b,o,none⟩=some u):RepF w' A n0 v x:=by
 induction h with
|v x=>exact .v x
|lst sz vals hn hc hm hnil hsz ha h1 hr ih =>
  refine .lst sz vals hn hc hm hnil hsz (fun h0=>?_) h1 (fun i k hi hk=>ih i k hi hk)
  obtain ⟨b,off,ea,h2,h3,h4,h5⟩:=ha h0;exact ⟨b,off,ea,h2,by omega,h4,fun i k hi hk=>hb _ _ _ (h5 i k hi hk)⟩
theorem RepH.upm {A:Nat→Prop} {n0:Nat} {v:Value} {x:HV} (h:RepH w A n0 ρ v x) (hs:w.heap.size≤w'.heap.size) (hb:∀ b o u,w.cell? ⟨b,o,none⟩=some u→w'.cell? ⟨b,o,none⟩=some u):RepH w' A n0 ρ v x:=by
 induction h with
|v x=>exact .v x
|lst h=>exact .lst (h.upm hs hb)
|own id h1=>exact .own id h1
|vw sz off m h a b d x e=>exact .vw sz off m h a b d x e
|ptr sz i k h=>exact .ptr sz i k h
|elt h h1 h2=>exact .elt (h.upm hs hb) h1 h2
|agg hn h1 h ih=>exact .agg hn h1 ih
|tup hn h ih=>exact .tup hn ih
|junk v=>exact .junk v
theorem Good.upm (G:Good c S look w ρ xs) (hs:w.heap.size≤w'.heap.size) (hb:∀ b o u,w.cell? ⟨b,o,none⟩=some u→w'.cell? ⟨b,o,none⟩=some u) (ho:∀ b,eW ρ S.st b→w'.heap[b]?=w.heap[b]?) (hk:Kept c.T c.w0 w'):Good c S look w' ρ xs:=by
 refine ⟨fun i s hi=>?_,G.apart,fun t y hy=>?_,hk,G.a0⟩
 ·have R:=G.rows i s hi
  refine ⟨R.own.block fun b hb'=>ho b ⟨i,s,hi,hb'⟩,?_,R.new⟩
  have rp:=R.rep
  cases s with
 |sl nw ty sz els =>
   refine ⟨rp.1,fun p q hp hq=>?_⟩
   obtain ⟨u,u1,u2,u3⟩:=rp.2 p q hp hq;exact ⟨u,u1,u2,u3.upm hs hb⟩
 |bx nw ty cells =>
   refine ⟨rp.1,fun q hq=>?_⟩
   obtain ⟨u,u1,u2,u3⟩:=rp.2 q hq;exact ⟨u,u1,u2,u3.upm hs hb⟩
 |hl nw ty sz els =>
   refine ⟨rp.1,fun p q hp hq=>?_⟩
   obtain ⟨u,u1,u2,u3⟩:=rp.2 p q hp hq;exact ⟨u,u1,u2,u3.upm hs hb⟩
 ·obtain ⟨v,h1,h2⟩:=G.env t y hy;exact ⟨v,h1,h2.upm hs hb⟩
theorem Good.turn (G:Good c S look w ρ xs) {b:Nat} (hd:dullB w b) (hf:c.w0.heap.size≤b∨c.T b) (hg:w.grownBy w' (some b)):Good c S look w' ρ xs:=by
 have hno:=jD G hd
 refine G.upm hg.size (fun a o u hu=>?_) (fun a ha=>hg.block a ?_ fun e=>hno ((Option.some.inj e) ▸ ha)) ?_
 ·have hne:a≠b:=fun e=>hd.cell (o:=o) (u:=u) (e ▸ hu)
  rw [qG (hg.block a (World.block_lt_of_cell? w ⟨a,o,none⟩ hu) fun e=>hne (Option.some.inj e))];exact hu
 ·obtain ⟨i,s,h5,h6⟩:=ha;exact G.lt h5 h6
 ·exact G.kept.trans (T':=fun a=>a=b) ⟨hg.os,hg.tape,hg.output,hg.size,fun a ha hne=>hg.block a ha fun e=>hne (Option.some.inj e)⟩ fun a ha e=>by
   subst e
   rcases hf with h|h
   ·omega
   ·exact h
theorem qAv (I:Inv c S look w) (M:MsOk P c w g):∃ c1:Ctx,Inv c1 S look w∧∀ S' look' w',Inv c1 S' look' w'→Inv c S' look' w'∧MsOk P c w' g:=by
 obtain ⟨ρ,xs,G⟩:=I;obtain ⟨G1,hA⟩:=G.sub (T:=S.env) (st1:=S.st) (look1:=look) (fun k r hr=>⟨r,hr,fun _ h=>h⟩) (fun t x hx=>G.env t x hx)
 refine ⟨_,⟨ρ,xs,G1⟩,fun S' look' w' ⟨ρ',xs',G'⟩=>⟨⟨ρ',xs',?_⟩,M.block fun b hb _=>G'.kept.block b hb.lt (jD G hb)⟩⟩
 have hO:∀ b,eW ρ S.st b→c.w0.heap.size≤b∨c.T b:=fun b ⟨i,s,hi,hb⟩=>((G.rows i s hi).new b hb).1
 have hAA:∀ b,c.A ρ' S'.st b→Ctx.A ⟨w,eW ρ S.st,fun b=>c.A ρ S.st b∧¬ eW ρ S.st b,c.n0,Nat.le_trans c.hn G.kept.size,c.B⟩ ρ' S'.st b:=by
  rintro b (h0|h0)
  ·refine .inl ⟨.inl h0,fun ho=>?_⟩
   have h1:=G.a0 b h0
   rcases hO b ho with h2|h2
   ·omega
   ·exact h1.2 h2
  ·exact .inr h0
 refine ⟨fun i s hi=>?_,G'.apart,fun t y hy=>?_,G.kept.trans G'.kept fun b hb hT=>?_,G.a0⟩
 ·have R:=G'.rows i s hi
  refine (R.up (Nat.le_refl _) (fun _ _ _=>rfl) (fun b _=>hAA b) (fun _ _=>rfl)).ctx rfl rfl fun b hb=>?_
  rcases (R.new b hb).1 with h1|h1
  ·have h1:w.heap.size≤b:=h1
   have:=G.kept.size
   exact .inl (by omega)
  ·exact hO b h1
 ·obtain ⟨v,h1,h2⟩:=G'.env t y hy;exact ⟨v,h1,h2.up (Nat.le_refl _) (fun _ _ _=>rfl) (fun b _=>hAA b) (Nat.le_refl _)⟩
 ·rcases hO b hT with h1|h1
  ·omega
  ·exact h1
theorem qRl (F:Fr N) {all more:List Oper} {Qa:Exit→Act→World→Prop} {K:Env→World→Prop} (hK:∀ l w,bF N l=true→K l w→wpListIn (FW F.ds.2) 0 P all.toArray Qa more (mk F l) w) :
  ∀ (pre:List Oper) (l:Env) (w:World),bF N l=true→VC P N (bQ all) K pre l w→wpListIn (FW F.ds.2) 0 P all.toArray Qa (pre ++ more) (mk F l) w
|[],l,w,hk,h=>hK l w hk h
|o :: rest,l,w,hk,h=>by
  have h:=tD F hk h
  obtain ⟨hd,h⟩:=h
  have hk':∀ v,bF N (stp o.dst v l)=true:=fun v=>dM hk (fun k e=>by rw [e] at hd;exact hd)
  rw [List.cons_append];unfold wpListIn
  cases hw:Region.wanted o (yielded all.toArray (mk F l).tmps)
  ·rw [hw] at h;simp only [qU8] at h;rw [if_neg (by simp),iY]
   exact ⟨fun _ _=>trivial,qRl F hK rest _ _ (hk' _) h⟩
  ·rw [hw] at h;simp only [qU8] at h;rw [if_pos rfl];refine (bY ((eU (fun x X hx=>iM F hk hx) h).mono fun v w' hv=>?_))
   rw [iY];exact qRl F hK rest _ _ (hk' _) hv
end
abbrev iD:=Exit→MS→HS→Prop
def mQ (P:Program) (N:Nat) (c:Ctx) (ds:List Deferred × Option Nat) (Q:iD):Exit→Act→World→Prop:=qSw N ds (fun e l w=>∃ S g,Inv c S (lk l) w∧MsOk P c w g∧Q e g S)
def HVM (P:Program) (N:Nat) (all:List Oper) (Q:iD) (ops:List Oper) (g:MS) (S:HS):Prop :=
 ∀ (c:Ctx) (F:Fr N) (l:Env) (w:World),bF N l=true→Inv c S (lk l) w→MsOk P c w g→wpListIn (FW F.ds.2) 0 P all.toArray (mQ P N c F.ds Q) ops (mk F l) w
def gOK (e:aR) (ds:List (Option Nat)) (g:Option (Nat × Bool)):Bool:=match hG e ds g with
|.yes=>true
|.ask _ b want=>b == want
|_=>false
section
variable {P:Program} {N:Nat} {all more ops:List Oper} {Q:iD} {g:MS} {S:HS}
theorem bA (h:Q .normal g S):HVM P N all Q [] g S:=fun c F l w hk I M=>by
 unfold wpListIn;exact ⟨F,l,rfl,rfl,hk,S,g,I,M,h⟩
theorem aQ (n:Nat) (h:∀ K1:HS→Prop,(∀ S',HVM P N all Q (ops.drop n) g S'→K1 S')→HV2 P N (bQ all) K1 (ops.take n) S):HVM P N all Q ops g S:=fun c F l w hk I M=>by
 obtain ⟨c1,I1,back⟩:=qAv I M
 have h1:=sQ (c:=c1) _ S l w (h _ fun _ h=>h) I1
 have:=qRl F (all:=all) (more:=ops.drop n) (Qa:=mQ P N c F.ds Q) (fun l1 w1 hk1 hK1=>by
  obtain ⟨S',I2,hK⟩:=hK1;obtain ⟨I3,M3⟩:=back S' _ _ I2;exact hK c F l1 w1 hk1 I3 M3) _ l w hk h1
 rw [List.take_append_drop] at this;exact this
theorem jK {c:Ctx} {l:Env} {w:World} (I:Inv c S (lk l) w) (F:Fr N) (hk:bF N l=true) {o:Oper} (hg:gOK S.env (bQ all) o.guard=true):Region.wanted o (yielded all.toArray (mk F l).tmps)=true:=by
 have h:gd l (bQ all) o.guard (·=true):=by
  unfold gOK at hg;split at hg
  ·rename_i e;exact qJ5 e rfl
  ·rename_i d b want e;exact (qF I e (k:=(·=true)) hg).1
  ·cases hg
 exact tD F hk h
theorem pP {o:Oper} (hg:gOK S.env (bQ all) o.guard=true) (hd:cQ N o.dst=true)
  (h:∀ (c:Ctx) (l:Env) (w:World) (ρ:Nat→Value) (xs:Nat→List Value),Good c S (lk l) w ρ xs→MsOk P c w g→∀ ev':Operand→Value,(∀ x X,ev l x=some X→ev' x=X) →
   ∃ v w' g' h',Yields P (execOp ev' o) w (fun u w1=>u=v∧w1=w')∧InvV c S h' v (lk l) w'∧MsOk P c w' g'∧HVM P N all Q more g' (S.set o.dst h')) :
  HVM P N all Q (o :: more) g S:=fun c F l w hk I M=>by
 have hd:=dN hd
 have I0:=I
 obtain ⟨ρ,xs,G⟩:=I;obtain ⟨v,w',g',h',hy,I',M',hK⟩:=h c l w ρ xs G M _ (fun x X hx=>iM F hk hx)
 have hk':bF N (stp o.dst v l)=true:=dM hk (fun k e=>by rw [e] at hd;exact hd)
 unfold wpListIn;rw [jK I0 F hk hg,if_pos rfl];refine (bY (hy.mono fun u w1 ⟨e1,e2⟩=>?_))
 subst e1;subst e2;rw [iY];exact hK c F _ _ hk' (I'.set o.dst) M'
end
end Go.Eng
