/-
  Scan: what a walk goes through is what stands in the volume; what it finds qLe: plain.
-/
import Derived.Test.YtdmnijnogabchaaDoorSwB
import Derived.Test.YtdmnijnogabchaaDoorDkR
import Derived.Test.YtdmnijnogabchaaDoorItq
set_option linter.unusedSimpArgs false
set_option linter.unusedVariables false
section
set_option maxRecDepth 20000
namespace Go.Eng
open Go Go.RowKit Go.Maps
section
variable {P:Program} {N:Nat} {x:Code} {Q:iD} {g:MS} {S:HS}
theorem zFo (n:Nat) {g':MS} (hg:g.take n=g') (h:HWM P N x Q g' S):HWM P N x Q g S:=fun c l w I M=>by
 subst hg
 have up:∀ {i:Nat} {m:MO},(g.take n)[i]?=some m→g[i]?=some m:=fun {i m} hi=>by
  have hl:=(List.getElem?_eq_some_iff.1 hi).1
  rw [List.length_take] at hl;rw [List.getElem?_take_of_lt (by omega)] at hi;exact hi
 exact h c l w I ⟨fun i m hi=>M.ok i m (up hi),fun i j m m' b hne hi hj=>M.nd i j m m' b hne (up hi) (up hj),fun i m b hi=>M.foot i m b (up hi)⟩
theorem qVj (k id ty sz:Nat) {S':HS} (hk:hlk S.env k=some (.v (.slice none 0 0))) (hs:((S.kill (only id)).row id (.sl true ty sz [])).rep k (.own id)=S') (h:HWM P N x Q g S'):HWM P N x Q g S:=fun c l w I M=>by
 subst hs;refine h c l w ?_ M;obtain ⟨ρ,xs,G⟩:=I
 have G2:=G.new id (.sl true ty sz []) [] (.slice none 0 0) (w':=w) (Below.refl _ _) (fun b hb=>by cases hb) (fun _ _ =>
  ⟨by rw [aJ];exact World.ownsRow_nil w 0 ty sz,⟨by simp,fun i k hi=>absurd hi (by simp)⟩,fun b hb=>by rw [aJ] at hb;cases hb⟩)
 refine ⟨_,_,G2.rows,G2.apart,fun j y hj=>?_,G2.kept,G2.a0⟩
 simp only [HS.rep,yX] at hj
 by_cases e:j=k
 ·subst e;rw [if_pos rfl] at hj
  have h1:hlk ((S.kill (only id)).row id (.sl true ty sz [])).env j=some (.v (.slice none 0 0)):=by
   show hlk (gE (only id) S.env) j=_
   rw [fY,hk];simp [HV.kill]
  rw [h1] at hj;simp only [Option.map_some,Option.some.injEq] at hj;subst hj;obtain ⟨v,a,b⟩:=G2.env j _ h1
  have:=bB b
  subst this;refine ⟨_,a,?_⟩
  have:=RepH.own (w:=w) (A:=c.A (eH ρ id (.slice none 0 0)) (((S.kill (only id)).row id (.sl true ty sz [])).rep j (.own id)).st) (n0:=c.n0) (ρ:=eH ρ id (.slice none 0 0)) id (by rw [aJ];rfl)
  rw [aJ] at this;exact this
 ·rw [if_neg e] at hj;exact G2.env j y hj
end
end Go.Eng
namespace Go.Proofs.YtdmnijnogabchaaDoor
open Go Go.Eng Go.RowKit Go.Maps Go.Tr Go.Dk Go.Sw
abbrev Sn:=ByteArray × Int × Nd
def zHf (x:Sn):List FV:=[.v (.string x.1),.v (.int .i64 x.2.1),.v (.int .i64 x.2.2.1),.v (.string x.2.2.2)]
def nA (l:List Sn):List (List FV):=l.map zHf
theorem qAy (l:List Sn):(nA l).length=l.length:=by simp [nA]
theorem zAn (l:List Sn):Wid 4 (nA l)=True:=eq_true (qP3 l fun _=>rfl)
theorem zAo {l:List Sn} {i:Nat} {d:List FV} (h:i < l.length):(nA l).getD i d=[.v (.string l[i].1),.v (.int .i64 l[i].2.1),.v (.int .i64 l[i].2.2.1),.v (.string l[i].2.2.2)]:=by unfold nA;rw [sC h];rfl
theorem qV6 (l:List Sn) (p:ByteArray) (n k:Int) (b:ByteArray):nA l ++ [[.v (.string p),.v (.int .i64 n),.v (.int .i64 k),.v (.string b)]]=nA (l ++ [(p,n,k,b)]):=by simp [nA,zHf]
def qWr (kn:kZ) (x:Sn):kZ:=if x.2.2.1=2 then fun p n=>if p=x.1∧n=x.2.1 then some x.2.2 else kn p n else kn
def knS (l:List Sn):kZ:=l.foldl qWr fun _ _=>none
def qBk (M:MTab) (x:Sn):MTab:=if x.2.2.1=2 then M.put (qQh x.1 x.2.1) (kB x.2.2) else M
def kmS (l:List Sn):MTab:=l.foldl qBk fun _=>none
def zJt (x:Sn):Prop:=x.1.size≤1048576∧(Lit.int .i64 x.2.1).wf=true
theorem zHk:∀ (l:List Sn),(∀ x ∈ l,zJt x)→∀ (M:MTab) (kn:kZ),KnOk M kn→KnOk (l.foldl qBk M) (l.foldl qWr kn)
|[],_,M,kn,h=>h
|x :: l,hl,M,kn,h=>by
  obtain ⟨h1,h2⟩:=hl x (List.mem_cons_self ..);refine zHk l (fun y hy=>hl y (List.mem_cons_of_mem _ hy)) _ _ ?_
  unfold qBk qWr;split
  ·refine ⟨fun p n hp hn=>?_⟩
   have hx:x.1.size≤maxLen:=Nat.le_trans h1 (by decide)
   simp only [MTab.put]
   by_cases e:qQh p n=qQh x.1 x.2.1
   ·obtain ⟨e1,e2⟩:=zB8 hp hn hx h2 e;rw [if_pos e,if_pos ⟨e1,e2⟩];rfl
   ·rw [if_neg e,if_neg (fun ⟨e1,e2⟩=>e (by rw [e1,e2]))]
    exact h.is p n hp hn
  ·exact h
theorem zH9 {l:List Sn} (hl:∀ x ∈ l,zJt x):KnOk (kmS l) (knS l):=zHk l hl _ _ ⟨fun p n _ _=>rfl⟩
def xD (d:Dk) (v:ByteArray):Int:=if pOk v 1=false then 10 else if d.down then 14 else if tN d v≠1 then 11 else 0
def wk0:Wk:=⟨[],[],0,0,0⟩
def qN (d:Dk) (v:ByteArray) (l:List Sn):Wk:=eF d v (knS l) wk0 (vis d 1048577 v)
theorem qK5 (d:Dk) (v:ByteArray) (kn:kZ):∀ (l:List ByteArray) (w:Wk),pM w.F→pM (eF d v kn w l).F
|[],w,h=>h
|q :: l,w,h=>by
  rw [iU];refine qK5 d v kn l _ ?_;unfold iT;split
  ·exact xF _ _ h
  ·split
   ·exact xF _ _ h
   ·exact xF _ _ h
theorem xN (p:ByteArray) {α:Type} (x:α):∀ (L:List (ByteArray × α)),(put p x L).length≤L.length + 1
|[]=>Nat.le_refl _
|(t,y) :: r=>by
  have:=xN p x r
  rw [put]
  (repeat' split) <;> simp only [List.length_cons] <;> omega
theorem qK6 (d:Dk) (v:ByteArray) (kn:kZ):∀ (l:List ByteArray) (w:Wk),(eF d v kn w l).F.length≤w.F.length + l.length
|[],w=>Nat.le_refl _
|q :: l,w=>by
  rw [iU,List.length_cons]
  have h:=qK6 d v kn l (iT d v kn w q)
  have h1:(iT d v kn w q).F.length≤w.F.length + 1:=by
   unfold iT;split
   ·exact xN _ _ _
   ·split
    ·exact xN _ _ _
    ·exact xN _ _ _
  omega
theorem zC9 (v q:ByteArray):(gM v q).size≤q.size:=by unfold gM;rw [ByteArray.size_extract];omega
theorem qK7 (d:Dk) (v:ByteArray) (kn:kZ) {B:Nat}:∀ (l:List ByteArray) (w:Wk),(∀ q ∈ l,q.size≤B)→(∀ e ∈ w.F,e.1.size≤B)→∀ e ∈ (eF d v kn w l).F,e.1.size≤B
|[],w,_,h=>h
|q :: l,w,hl,h=>by
  rw [iU];refine qK7 d v kn l _ (fun x hx=>hl x (List.mem_cons_of_mem _ hx)) fun e he=>?_
  have hq:=hl q (List.mem_cons_self ..)
  have ho:=zC9 v q
  have put1:∀ (x:Nd),e ∈ put (gM v q) x w.F→e.1.size≤B:=fun x hx=>by
   rcases qQ4 hx with rfl|hx
   ·show (gM v q).size≤B;omega
   ·exact h e hx
  unfold iT at he;split at he
  ·exact put1 _ he
  ·split at he
   ·exact put1 _ he
   ·exact put1 _ he
def qGb (w:Wk):List Sn:=w.F.map fun e=>(e.1,(bM w.T e.1).getD 0,e.2)
end Go.Proofs.YtdmnijnogabchaaDoor
end
section
set_option maxRecDepth 20000
namespace Go.Sw
open Go Go.Tr Go.Eng Go.Dk Go.Proofs.YtdmnijnogabchaaDoor
structure Fit (d:Dk):Prop where
 par:∀ p x,bM d.L p=some x→par p={ data:=#[] }∨∃ y,bM d.L (par p)=some y∧y.dir=true
 key:∀ p x,bM d.L p=some x→pOk p 6=true
 dir:∀ p x,bM d.L p=some x→x.dir=true→x.stamp=0∧x.loose=false
 st:∀ p x,bM d.L p=some x→0≤x.stamp∧x.stamp≤d.stamps
theorem Fit.ne {d:Dk} (h:Fit d) {p:ByteArray} {x:Itm} (hx:bM d.L p=some x):p≠{ data:=#[] }:=qQz (h.key p x hx)
theorem zA3 {d:Dk} (hr:pM d.L) {p q:ByteArray}:q ∈ xT d p↔(bM d.L q).isSome=true∧par q=p:=by
 simp only [xT,List.mem_map,List.mem_filter,decide_eq_true_eq];constructor
 ·rintro ⟨e,⟨he,hpe⟩,rfl⟩;exact ⟨by rw [jE hr (show (e.1,e.2) ∈ d.L from he)];rfl,hpe⟩
 ·rintro ⟨hs,hp⟩;obtain ⟨x,hx⟩:=Option.isSome_iff_exists.1 hs;exact ⟨(q,x),⟨fX hx,hp⟩,rfl⟩
theorem qXp {d:Dk} (hr:pM d.L):∀ (k:Nat) (p q:ByteArray),p≠{ data:=#[] }→q ∈ vis d k p→(bM d.L q).isSome=true∧qD1 q p=true∧p.size < q.size
|0,p,q,_,h=>by simp [vis] at h
|k + 1,p,q,hp,h=>by
  rw [qRt,List.mem_flatMap] at h;obtain ⟨c,hc,hq⟩:=h;obtain ⟨h1,h2⟩:=(zA3 hr).1 hc
  have hcp:qD1 c p=true:=by rw [← h2];exact zB3
  have hlt:p.size < c.size:=by have:=zC6 (p:=c) (by rw [h2];exact hp);rw [h2] at this;exact this
  rw [nD,List.mem_cons] at hq
  rcases hq with rfl|hq
  ·exact ⟨h1,hcp,hlt⟩
  ·split at hq
   ·obtain ⟨a,b,e⟩:=qXp hr k c q (fun e=>by subst e;have:(({ data:=#[] }:ByteArray)).size=0:=rfl;omega) hq
    exact ⟨a,qVu b hcp,by omega⟩
   ·simp at hq
end Go.Sw
end
