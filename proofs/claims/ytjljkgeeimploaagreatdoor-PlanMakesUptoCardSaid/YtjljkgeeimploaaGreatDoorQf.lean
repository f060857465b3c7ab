/- What the walk of the law stands on. -/
import Derived.Test.YtjljkgeeimploaaGreatDoorQe
import Derived.ProofKit
import Derived.OpenShut
import Derived.ShutString
import Derived.ChangeOld
import Derived.Below
import Derived.SizedLaws
import Derived.Test.YtjljkgeeimploaaGreatDoorRows
import Derived.JoinedCond
import Derived.Deep.CondSized
import GoSem.Op.String
import Derived.Lib.Bytealg
import Derived.Lib.SplitLaws
import Derived.Lib.IndexBytes
import Derived.Test.YtjljkgeeimploaaGreatDoorProg
import Derived.Shelf.Small.Strs
import Derived.Shelf.Strings.Search1
import Derived.Shelf.Strings.Count
import Derived.Shelf.Strings.Builder1
import Derived.Shelf.Strings.Builder2
import Derived.Shelf.Strings.OnBuilder
import Derived.Shelf.Utf8.RuneCount
import Derived.Shelf.Strings.Search2
import Derived.Shelf.Strings.Search3
import Derived.Shelf.LaysM
import Derived.Shelf.Strings.Shaped
import Derived.Shelf.Strings.Prefix
import Derived.Shelf.Bits.Mul64
import Derived.Ground.Names2Prog
import Derived.Shelf.Slices.Clone
import Derived.Ground.SlgnProg
import Derived.Shelf.SlicesE.Clone
import Derived.Maps.OwnSet
import Derived.Maps.RangeWalk
set_option linter.defProp false
open Go.Proofs.YtjljkgeeimploaaGreatDoor
set_option maxRecDepth 20000
set_option maxHeartbeats 1000000
namespace Go.Eng
open Go Go.RowKit
abbrev KP:=Nat→dP
def kb (Q:dP):KP:=fun _=>Q
def kq (P:Program) (N:Nat) (b:Code) (g:KP→Nat→HS→Prop) (K:KP):KP
|0,.normal,S=>HW P N b (K 0) S
|n + 1,.normal,S=>g K (n + 1) S
|n,e,S=>K n e S
def kl (id:Nat) (K:KP):KP:=fun n=>qAy id (K n)
def kr (R:HS→Prop) (K:KP):KP
|_,.normal,S=>R S
|n,e,S=>K n e S
def qR2:Option HV→Prop→Prop→Prop→Prop
|some (.v (.bool true)),A,_,_=>A
|some (.v (.bool false)),_,B,_=>B
|_,_,_,C=>C
def HG (P:Program) (N:Nat):Code→KP→Nat→HS→Prop
|.seq a b,K,n,S=>HG P N a (kq P N b (HG P N b) K) n S
|.region _ ops false,K,n + 2,S=>HV2 P N (cJ ops.toList) (K n .normal) ops.toList S
|.skip,K,n,S=>K n .normal S
|.ret,K,n,S=>K n .ret S
|.exit i,K,n,S=>K n (.exit i) S
|.label _,K,n,S=>K n .normal S
|.block i x,K,n,S=>HG P N x (kl i K) n S
|.cond x a b,K,n,S=>qR2 (hev S.env x) (HG P N a K n S) (HG P N b K n S) (HW P N (.cond x a b) (K 0) S)
|c,K,_,S=>HW P N c (K 0) S
class KM (K:KP):Prop where
 low:∀ n e S,K n e S→K 0 e S
instance (Q:dP):KM (kb Q):=⟨fun _ _ _ h=>h⟩
instance (R:HS→Prop) (K:KP) [KM K]:KM (kr R K):=⟨fun n e S h=>by
 cases e with
|normal=>exact h
|_=>exact KM.low (K:=K) n _ S h⟩
instance (i:Nat) (K:KP) [KM K]:KM (kl i K):=⟨fun n e S h=>by
 cases e with
|exit j =>
  simp only [kl,qAy] at h ⊢;split at h <;> rename_i e
  ·rw [g8 e];exact KM.low n _ S h
  ·rw [b7 e];exact KM.low n _ S h
|_=>exact KM.low (K:=K) n _ S h⟩
section
variable {P:Program} {N:Nat} {S:HS}
theorem yGh {id:Nat} {ops:List Oper} {Q:dP} (h:HV2 P N (cJ ops) (Q .normal) ops S):HW P N (.region id ops.toArray false) Q S:=fun c l w I =>
 qA9 fun K hK=>zJ.V.mono (uX (c:=c) ops S l w h I) fun l' w' h=>hK l' w' h
theorem zQk {b:Code} {g:KP→Nat→HS→Prop} {K:KP} [KM K] (hg:∀ n S,g K n S→HW P N b (K 0) S):KM (kq P N b g K):=⟨fun n e S h=>by
 cases e with
|normal=>cases n with
 |zero=>exact h
 |succ n=>exact hg _ S h
|_=>cases n <;> exact KM.low (K:=K) _ _ S h⟩
theorem zT4 (c:Code):∀ (K:KP) [KM K] (n:Nat) (S:HS),HG P N c K n S→HW P N c (K 0) S:=by
 induction c with
|seq a b iha ihb =>
  intro K _ n S h;refine zE ((@iha _ (zQk (ihb K)) n S h).mono fun e S' q=>?_)
  cases e <;> exact q
|region id ops d =>
  intro K _ n S h
  cases d with
 |true=>cases n with
  |zero=>exact h
  |succ n=>cases n <;> exact h
 |false =>
   match n,h with
  |0,h=>exact h
  |1,h=>exact h
  |n + 2,h=>exact (yGh (ops:=ops.toList) (Q:=K n) h).mono fun e S' q=>KM.low n e S' q
|block i x ih=>intro K _ n S h;exact zD (ih (kl i K) n S h)
|cond x a b iha ihb =>
  intro K _ n S h
  have h:qR2 (hev S.env x) (HG P N a K n S) (HG P N b K n S) (HW P N (.cond x a b) (K 0) S):=h
  unfold qR2 at h;split at h
  ·rename_i e;exact yD e (iha K n S h)
  ·rename_i e;exact yC e (ihb K n S h)
  ·exact h
|skip=>intro K _ n S h;exact zC (KM.low n _ S h)
|ret=>intro K _ n S h;exact zW (KM.low n _ S h)
|exit i=>intro K _ n S h;exact zT (KM.low n _ S h)
|label i=>intro K _ n S h;exact zTu (KM.low n _ S h)
|_=>intro K _ n S h;exact h
instance (b:Code) (K:KP) [KM K]:KM (kq P N b (HG P N b) K):=zQk (zT4 b K)
theorem goA {c:Code} {K:KP} [KM K] (n:Nat) (h:HG P N c K n S):HW P N c (K 0) S:=zT4 c K _ S h
theorem goK {K:KP} [KM K] (n:Nat) {e:Exit} (h:K n e S):K 0 e S:=KM.low _ e S h
theorem tR {t:Bool} {A B C:Prop} (ht:t=true→A) (hf:t=false→B):qR2 (some (.v (.bool t))) A B C:=by cases t with|true=>exact ht rfl|false=>exact hf rfl
theorem goB {i:Nat} {x:Code} {K:KP} [KM K] (h:HW P N x (kl i K 0) S):HW P N (.block i x) (K 0) S:=zD h
theorem goQ {a b:Code} {K:KP} [KM K] (h:HW P N a (kq P N b (HG P N b) K 0) S):HW P N (.seq a b) (K 0) S:=zE (h.mono fun e S' q=>by cases e <;> exact q)
theorem goM {ι:Type} {x:Code} {K:KP} [KM K] (E:ι→HS) (I:ι→Prop) (ks ids:List Nat) (hx:HW P N x (kr (fun S'=>∃ j,S'.keep ks ids=E j∧I j) K 0) S) (hy:∀ S' j,S'.keep ks ids=E j→I j→K 0 .normal S'):HW P N x (K 0) S :=
 zZv E I ks ids (hx.mono fun e S q=>by cases e <;> exact q) hy
theorem goL {ι:Type} {x:Code} {K:KP} [KM K] (E:ι→HS) (I:ι→Prop) (μ:ι→Nat) (ks ids:List Nat) (i:ι) (h0:S.keep ks ids=E i) (hI:I i)
  (round:∀ i,I i→HW P N x (kr (fun S'=>∃ j,S'.keep ks ids=E j∧I j∧μ j < μ i) K 0) (E i)):HW P N (.loop x) (K 0) S :=
 zZw E I μ ks ids i h0 hI fun i h=>(round i h).mono fun e S q=>by cases e <;> exact q
theorem goP {c:Code} {Q:dP} (ks ids:List Nat) (h:HW P N c Q (S.keep ks ids)):HW P N c Q S:=yB ks ids rfl h
theorem bP {f:FuncId} {fn:Func} {x:Code} {args:List HV} {rs:Array ResultVar} {Q:HV→aC→Prop} (hf:P.funcs[f]?=some fn) (hb:fn.body=some x) (hN:fn.ntmps=N) (hrs:fn.results=rs) (hle:args.length≤N)
  (h:HW P N x (kb (zEz P rs.toList Q) 0) ⟨nD 0 args,[]⟩):HFun P f args Q:=yCo hf hb hN hrs hle h
theorem pV {f:FuncId} {fn:Func} {x:Code} {args:List HV} {st:aC} {rs:Array ResultVar} {Q:HV→aC→Prop} (hf:P.funcs[f]?=some fn) (hb:fn.body=some x) (hN:fn.ntmps=N) (hrs:fn.results=rs) (hle:args.length≤N)
  (h:HW P N x (kb (qRz P rs.toList st Q) 0) ⟨nD 0 args,st⟩):HFunS P f args st Q:=yAh hf hb hN hrs hle h
end
-- calls,what follows said at once
section
variable {P:Program} {S:HS} {f:FuncId} {args args':List HV} {st st0:aC} {Q:HV→aC→Prop} {K:HS→Prop} {d:Option Nat} {h0:HV} {x:Value}
theorem zMg (n:Nat) (hc:aB P f=true) (H:HFun P f args' Q) (hl:Lends S.st args args') (hK:∀ h st,Q h st→K ((S.adds n st).set d (h.ren (sh n)))):HAt P f args S (fun h S'=>iJ K (S'.set d h)):=hat n hc H hl hK
theorem cUt (n:Nat) (hc:aB P f=true) (H:HFun P f args' (fun h st=>h=h0∧st=st0)) (hl:Lends S.st args args') (hK:K ((S.adds n st0).set d (h0.ren (sh n)))):HAt P f args S (fun h S'=>iJ K (S'.set d h)):=hat n hc H hl fun _ _ ⟨e1,e2⟩=>by subst e1;subst e2;exact hK
theorem cVt (hc:aB P f=true) (H:HFun P f args' (fun h st=>h=.v x)) (hl:Lends S.st args args') (hK:K (S.set d (.v x))):HAt P f args S (fun h S'=>iJ K (S'.set d h)):=zBs hc H hl hK
theorem cSt (n:Nat) (ids:List Nat) (hc:aB P f=true) (H:HFunS P f args' st Q) (hd:dup ids=false∧ids.length≤8∧(ids.all fun i=>!cD n i)=true) (hst:pQ (pos ids) S.st 0 ids=st∧args.map (HV.ren (pos ids))=args')
  (hK:∀ h st',Q h st'→K ((S.swap ids n st').set d (h.ren (sh2 ids n)))):HAt P f args S (fun h S'=>iJ K (S'.set d h)) :=
 zBt n ids hc H hd.1 hd.2.1 (fun i hi=>by simpa using o8.1 hd.2.2 i hi) hst.1 hst.2 hK
theorem cXt (n:Nat) (ids:List Nat) (hc:aB P f=true) (H:HFunS P f args' st (fun h st=>h=h0∧st=st0)) (hd:dup ids=false∧ids.length≤8∧(ids.all fun i=>!cD n i)=true) (hst:pQ (pos ids) S.st 0 ids=st∧args.map (HV.ren (pos ids))=args')
  (hK:K ((S.swap ids n st0).set d (h0.ren (sh2 ids n)))):HAt P f args S (fun h S'=>iJ K (S'.set d h)):=cSt n ids hc H hd hst fun _ _ ⟨e1,e2⟩=>by subst e1;subst e2;exact hK
theorem mC (ids:List Nat) {h h':HV} {st':aC} (h1:dup ids=false∧ids.length≤8) (q:qHx S.st 0 ids∧rT ids S.st st0∧h.ren (pos ids)=h'∧gD (pos ids) S.st 0 ids=st') (hq:Q h' st'):qH1 st0 S h Q:=yAg ids h1.2 h1.1 q.1 q.2.1 q.2.2.1 q.2.2.2 hq
theorem goR {N:Nat} {c:Code} {Q:dP} (id:Nat) {ty sz:Nat} {nw:Bool} {els:List (List FV)} (hr:rlk S.st id=some (.sl nw ty sz els)) (h:HW P N c Q (S.rest id (.lst nw els))):HW P N c Q S:=zFl id hr h
theorem goW {N:Nat} {c:Code} {Q:dP} (k id ty sz:Nat) (hk:hlk S.env k=some (.v (.slice none 0 0))) (h:HW P N c Q (((S.kill (only id)).row id (.sl true ty sz [])).rep k (.own id))):HW P N c Q S:=yEf k id ty sz hk h
end
-- the equations
section
variable (P:Program) (N n i j:Nat) (a b c:Code) (K:KP) (S:HS) (x:Operand) (ops:List Oper) (g:KP→Nat→HS→Prop) (Q:dP) (R:HS→Prop) (f:HS→Prop) (A B C:Prop)
theorem yEk:HG P N (.seq a b) K n S=HG P N a (kq P N b (HG P N b) K) n S:=nr rfl
theorem yEm:HG P N (.region i ops.toArray false) K (n + 2) S=HV2 P N (cJ ops) (K n .normal) ops S:=nr rfl
theorem zZ4:HG P N (.region i ops.toArray false) K 1 S=HW P N (.region i ops.toArray false) (K 0) S:=nr rfl
theorem yEn:HG P N (.region i ops.toArray true) K n S=HW P N (.region i ops.toArray true) (K 0) S:=by cases n with|zero=>rfl|succ n=>cases n <;> rfl
theorem zZ3:HG P N .skip K n S=K n .normal S:=nr rfl
theorem yEl:HG P N .ret K n S=K n .ret S:=nr rfl
theorem zZ6:HG P N (.exit i) K n S=K n (.exit i) S:=nr rfl
theorem zT5:HG P N (.label i) K n S=K n .normal S:=nr rfl
theorem zT6:HG P N (.block i a) K n S=HG P N a (kl i K) n S:=nr rfl
theorem zZ7:HG P N (.cond x a b) K n S=qR2 (hev S.env x) (HG P N a K n S) (HG P N b K n S) (HW P N (.cond x a b) (K 0) S):=nr rfl
theorem zZ5:HG P N (.loop a) K n S=HW P N (.loop a) (K 0) S:=nr rfl
theorem zJh:kq P N a g K (n + 1) .normal S=g K (n + 1) S:=nr rfl
theorem zWv:kq P N a g K 0 .normal S=HW P N a (K 0) S:=nr rfl
theorem yB9:kq P N a g K n .ret S=K n .ret S:=by cases n <;> rfl
theorem zWw:kq P N a g K n (.exit i) S=K n (.exit i) S:=by cases n <;> rfl
theorem zJi:kl i K n .normal S=K n .normal S:=nr rfl
theorem yCa:kl i K n .ret S=K n .ret S:=nr rfl
theorem zWx:kl i K n (.exit j) S=if j=i then K n .normal S else K n (.exit j) S:=by simp only [kl,qAy]
theorem zJg:kr R K n .normal S=R S:=nr rfl
theorem yB8:kr R K n .ret S=K n .ret S:=nr rfl
theorem zWu:kr R K n (.exit i) S=K n (.exit i) S:=nr rfl
theorem yGd (e:Exit):kb Q n e S=Q e S:=nr rfl
theorem zK3:qR2 (some (.v (.bool true))) A B C=A:=nr rfl
theorem zBk:qR2 (some (.v (.bool false))) A B C=B:=nr rfl
theorem zKg:qHo f Q .normal S=f S:=nr rfl
theorem zKf:qHo f Q .ret S=Q .ret S:=nr rfl
theorem zKe:qHo f Q (.exit i) S=Q (.exit i) S:=nr rfl
end
section
variable {P:Program} {N n:Nat} {c:Code} {K:KP} {S S':HS} {g:KP→Nat→HS→Prop} {Q:dP} {R f:HS→Prop} {A B C:Prop} {e:Exit} {ds ds':List (Option Nat)} {k:HS→Prop} {ops ops':List Oper} {o o':Oper} {d d':Option Nat}
@[congr] theorem yLx (h:S=S'):HG P N c K n S=HG P N c K n S':=h ▸ rfl
@[congr] theorem yLw (h:S=S'):HW P N c Q S=HW P N c Q S':=h ▸ rfl
@[congr] theorem yLt (h:S=S'):kq P N c g K n e S=kq P N c g K n e S':=h ▸ rfl
@[congr] theorem yLu {i:Nat} (h:S=S'):kl i K n e S=kl i K n e S':=h ▸ rfl
@[congr] theorem yLs (h:S=S'):kr R K n e S=kr R K n e S':=h ▸ rfl
@[congr] theorem yLv (h:S=S'):kb Q n e S=kb Q n e S':=h ▸ rfl
@[congr] theorem yH5 {x y:Option HV} (h:x=y):qR2 x A B C=qR2 y A B C:=h ▸ rfl
@[congr] theorem yLo (hd:ds=ds') (ho:ops=ops') (h:S=S'):HV2 P N ds k ops S=HV2 P N ds' k ops' S':=by rw [hd,ho,h]
@[congr] theorem yH1 {x y:GOut} (ho:o=o') (h:S=S') (hx:x=y):qH0 P N o S k x=qH0 P N o' S' k y:=by rw [ho,h,hx]
@[congr] theorem yLp (ho:o=o') (h:S=S'):HGo P N o S k=HGo P N o' S' k:=by rw [ho,h]
@[congr] theorem yH6 (ho:o=o') (h:S=S'):zMt P N o S k=zMt P N o' S' k:=by rw [ho,h]
@[congr] theorem yEq {x y:HOut} (hd:d=d') (h:S=S') (hx:x=y):qBg P d S k x=qBg P d' S' k y:=by rw [hd,h,hx]
@[congr] theorem yH2 (hd:d=d') (h:S=S'):lN N d S k=lN N d' S' k:=by rw [hd,h]
@[congr] theorem yLq {F:FuncId} {ay ay':List HV} {k:HV→HS→Prop} (ha:ay=ay') (h:S=S'):HAt P F ay S k=HAt P F ay' S' k:=by rw [ha,h]
@[congr] theorem yH0 (h:S=S'):iJ k S=iJ k S':=h ▸ rfl
end
attribute [push_cast] zWv yEk yEm zZ4 yEn zZ3 yEl zZ6 zT5 zT6 zZ7 zZ5 zJh yB9 zWw zJi yCa zWx zJg yB8 zWu yGd zK3 zBk zKg zKf zKe
attribute [push_cast] zZ zR zP zQ zN yA yM yH yE oE xF yK yJ qVg qC4 qLr qJh qFa qCd qD7 qBn qRw qEv qEw qB8 qEu qEt qJo qEx qEs qJe qJf qJg zEt zNq zNw wR sC vC rG qE1 wK qPn wJ wH qAx wL wG rV qAk qAm qAl qEh qVi qPl
attribute [push_cast] qJk zEl qFb qCe qD8 qBp qGl wD vZ qAv tQ wF vY wE qBr qBt qBs
open Go.ChangeShapes Go.WideShapes
def qD4 {H:Type} {enc:TypeId × Value→H} {P:Program} {W W':World} (hl:laidOutB P=true) (hb:Below W.heap.size W W') :
  ∀ (ts:List TypeId) (vs:List Value) (ds:List (DataW H)) (ps:List MemPlace),(ts.all fun t=>P.readableRec t && decide (t < P.types.size))=true →
   DataW.TrodAll enc P W 0 (fun _=>true) true ts vs ds ps→DataW.TrodAll enc P W' 0 (fun b=>decide (b < W.heap.size)) true ts vs ds ps
|[],vs,ds,ps,_,h=>by
  obtain ⟨rfl,rfl,rfl⟩:=trodAll_nil h;exact trodAll_mk0
|t :: ts,vs,ds,ps,ht,h=>by
  obtain ⟨v,vs',d,ds',p,q,rfl,rfl,rfl,h0,hr⟩:=trodAll_cons h;simp only [bEb,g9,m7] at ht
  have hlt:∀ x ∈ p,x.block < W.heap.size:=by obtain ⟨m,hm⟩:=h0;exact DataW.trod_lt m _ _ _ hm
  exact trodAll_cons_mk (Below.trod hl ht.1.1 ht.1.2 h0 hb hlt) (qD4 hl hb ts vs' ds' q ht.2 hr)
def zGu {P:Program} {f:FuncId} {args:Array Value} {w:World} {K:Value→World→Prop} (h:Calls P f args w (Ret K)):Calls P f args w fun e w'=>∃ v,e=.returned v∧K v w' :=
 h.mono fun e w' he=>by
  cases e with
 |returned v=>exact ⟨v,rfl,he⟩
 |_=>exact he.elim
inductive Sh where
|int (k:IntKind)
|bool
|str
|sl (by':Nat) (ss:List Sh)
instance:Inhabited Sh:=⟨.bool⟩
inductive Fit:Sh→FV→Prop
|int {k:IntKind} {n:Int} (h:(Lit.int k n).wf=true):Fit (.int k) (.v (.int k n))
|bool (b:Bool):Fit .bool (.v (.bool b))
|str {s:Ba} (h:s.size≤reachBytes):Fit .str (.v (.string s))
|sl {by':Nat} {ss:List Sh} {xs:List (List FV)} (hb:xs.length * by'≤reachBytes) (hl:∀ x ∈ xs,x.length=ss.length) (h:∀ x ∈ xs,∀ i (h1:i < ss.length) (h2:i < x.length),Fit ss[i] x[i]):Fit (.sl by' ss) (.lst false xs)
def qKk (P:Program) (o:Nat):List (Nat × TypeId)→List (List Sh)→Bool
|[],[]=>true
|(off,t) :: r,s :: rs=>off == o && s.length == P.cellsOf t && qKk P (o + s.length) r rs
|_,_=>false
def zH4 {α β:Type} (f:α→Option β):List α→Option (List β)
|[]=>some []
|a :: r=>match f a,zH4 f r with
 |some b,some bs=>some (b :: bs)
 |_,_=>none
def qM6 (P:Program):Nat→TypeId→Option (List Sh)
|0,_=>none
|n + 1,t=>match P.underlying t with
 |some .bool=>some [.bool]
 |some (.int k)=>some [.int k]
 |some .string=>some [.str]
 |some (.slice e)=>match qM6 P n e with
  |some ss=>if ss.length == P.cellsOf e && Nat.blt 0 ss.length then some [.sl (P.bytesOf e) ss] else none
  |none=>none
 |some (.struct fs)=>match zH4 (fun f:Field=>qM6 P n f.type) fs.toList with
  |some sss=>if qKk P 0 (fs.toList.map fun f=>(f.offset,f.type)) sss && sss.flatten.length == P.cellsOf t then some sss.flatten else none
  |none=>none
 |some (.array k e)=>match zH4 (fun _:Nat=>qM6 P n e) (List.range k) with
  |some sss=>if qKk P 0 ((List.range k).map fun i=>(i * P.cellsOf e,e)) sss && sss.flatten.length == P.cellsOf t then some sss.flatten else none
  |none=>none
 |_=>none
inductive All3 (w:World) (n0:Nat):List Value→List FV→List Sh→Prop
|nil:All3 w n0 [] [] []
|cons {v:Value} {f:FV} {s:Sh} {vs:List Value} {fs:List FV} {ss:List Sh} (a:RepF w (fun _=>False) n0 v f) (b:v.oneCell'=true) (c:Fit s f) (r:All3 w n0 vs fs ss):All3 w n0 (v :: vs) (f :: fs) (s :: ss)
def All3.append {w:World} {n0:Nat} {v1 v2:List Value} {f1 f2:List FV} {s1 s2:List Sh} (h:All3 w n0 v1 f1 s1) (h':All3 w n0 v2 f2 s2):All3 w n0 (v1 ++ v2) (f1 ++ f2) (s1 ++ s2):=by
 induction h with
|nil=>exact h'
|cons a b c r ih=>exact .cons a b c ih
def All3.len {w:World} {n0:Nat} {v:List Value} {f:List FV} {s:List Sh} (h:All3 w n0 v f s):v.length=s.length∧f.length=s.length:=by
 induction h with
|nil=>exact ⟨rfl,rfl⟩
|cons a b c r ih=>simp [ih.1,ih.2]
def All3.get {w:World} {n0:Nat} {v:List Value} {f:List FV} {s:List Sh} (h:All3 w n0 v f s):∀ i (h1:i < v.length) (h2:i < f.length) (h3:i < s.length),RepF w (fun _=>False) n0 v[i] f[i]∧(v[i]).oneCell'=true∧Fit s[i] f[i]:=by
 induction h with
|nil=>intro i h1;exact absurd h1 (by simp)
|cons a b c r ih =>
  intro i h1 h2 h3
  cases i with
 |zero=>exact ⟨a,b,c⟩
 |succ i=>exact ih i (by simpa using h1) (by simpa using h2) (by simpa using h3)
section
variable {H:Type} {enc:TypeId × Value→H} {P:Program} {w:World} {n0:Nat}
theorem qK6 {α β:Type} {f:α→Option β}:∀ {l:List α} {bs:List β},zH4 f l=some bs→bs.length=l.length∧∀ i (h1:i < l.length) (h2:i < bs.length),f l[i]=some bs[i]
|[],bs,h=>by simp only [zH4,a6] at h;subst h;exact ⟨rfl,fun i h1=>absurd h1 (by simp)⟩
|a :: r,bs,h=>by
  simp only [zH4] at h;split at h
  ·rename_i b cs hb hc;simp only [a6] at h;subst h;obtain ⟨h1,h2⟩:=qK6 hc;refine ⟨by simp [h1],fun i p q=>?_⟩
   cases i with
  |zero=>exact hb
  |succ i=>exact h2 i (by simpa using p) (by simpa using q)
  ·cases h
theorem lQ {ts:List TypeId} {ds:List (DataW H)} {m:Nat}:∀ {i:Nat} {t:TypeId} {d:DataW H},ts[i]?=some t→ds[i]?=some d→m ∈ d.weights P t→m ∈ DataW.weightsEach P ts ds:=fun ht hd hm=>DataW.weights_mem_each ht hd m hm
theorem rB {e:TypeId} {m:Nat}:∀ {ds:List (DataW H)} {i:Nat} {d:DataW H},ds[i]?=some d→m ∈ d.weights P e→m ∈ DataW.weightsAll P e ds
|[],i,d,h,_=>by simp at h
|x :: r,i,d,h,hm=>by
  simp only [DataW.weightsAll,m8]
  cases i with
 |zero=>simp only [q8,a6] at h;subst h;exact .inl hm
 |succ i=>exact .inr (rB (by simpa using h) hm)
theorem zUu {a:Addr} {v:Value} (h:w.cell? a=some v):a.spot=none:=by
 unfold World.cell? at h;split at h
 ·cases hs:a.spot with
 |none=>rfl
 |some k=>simp [hs] at h
 ·cases h
theorem zGx {A:Nat→Prop} {ρ:Nat→Value}:pX w A n0 ρ [] []:=⟨rfl,fun i a=>absurd a (by simp)⟩
theorem qDe {A:Nat→Prop} {ρ:Nat→Value} {v:Value} {h:HV} {vs:List Value} {hs:List HV} (a:RepH w A n0 ρ v h) (b:pX w A n0 ρ vs hs):pX w A n0 ρ (v :: vs) (h :: hs) :=
 ⟨by simp [b.1],fun i p q=>by
  cases i with
 |zero=>exact a
 |succ i=>exact b.2 i (by simpa using p) (by simpa using q)⟩
theorem qDu {e t:TypeId} {v:Value} {r:Reach} {b0:Nat} (ht:P.underlying t=some (.slice e)) (hv:Value.okWide P w r b0 t v):v.oneCell'=true:=by obtain ⟨a,n,c,rfl⟩:=okWide_slice ht hv;rfl
theorem zDm {l:List Nat} {m:Nat} (h:l.all (·≤reachBytes)=true) (hm:m ∈ l):m≤reachBytes:=by simpa using o8.1 h m hm
theorem RepF.toH {A:Nat→Prop} {ρ:Nat→Value} {v:Value} {fr:Bool} {xs:List (List FV)} (h:RepF w A n0 v (.lst fr xs)):RepH w A n0 ρ v (.lst fr xs):=.lst h
end
def fw:FV→Nat
|.v (.string s)=>s.size + 1
|.v _=>1
|.lst _ xs=>1 + (xs.map fun x=>(x.map fw).sum).sum
termination_by x=>SizeOf.sizeOf x
decreasing_by
 rename_i h1 _ h2
 have a:=bC4 h1
 have b:=bC4 h2
 simp only [FV.lst.sizeOf_spec];omega
def fws (l:List FV):Nat:=(l.map fw).sum
def zSc (fr:Bool) (xs:List (List FV)):fw (.lst fr xs)=1 + (xs.map fws).sum:=by rw [fw];rfl
def zX5 (a b:List FV):fws (a ++ b)=fws a + fws b:=by simp [fws]
def qJ7:∀ (a b:List Nat),a.length=b.length→(∀ i (h1:i < a.length) (h2:i < b.length),a[i]≤b[i])→a.sum≤b.sum
|[],[],_,_=>a7 _
|x :: a,y :: b,h,hi=>by
  have h0:=hi 0 (by simp) (by simp)
  have:=qJ7 a b (by simpa using h) (fun i p q=>by have:=hi (i + 1) (by simpa using p) (by simpa using q);simpa using this)
  simp only [l6] at h0;simp only [bBe];omega
|[],y :: b,h,_=>by simp at h
|x :: a,[],h,_=>by simp at h
structure Bulk {H:Type} (BK:DataW H→Nat):Prop where
 one:∀ d,1≤BK d
 str:∀ b,b.length + 1≤BK (.lit (.string b))
 sl:∀ es rest,1 + (es.map BK).sum≤BK (.slice es rest)
 ag:∀ xs,(xs.map BK).sum≤BK (.agg xs)
section
variable {H:Type} {enc:TypeId × Value→H} {P:Program} {w:World} {n0:Nat}
theorem qFv (cs:List Value):∀ (segs:List (Nat × TypeId)) (sss:List (List Sh)) (bs:List Nat) (o:Nat),segs.length=bs.length→qKk P o segs sss=true→(cs.drop o).length=sss.flatten.length →
  (∀ i (h1:i < segs.length) (h2:i < sss.length) (h3:i < bs.length),∃ fs,All3 w n0 ((cs.drop segs[i].1).take (P.cellsOf segs[i].2)) fs sss[i]∧fws fs≤bs[i])→∃ fs,All3 w n0 (cs.drop o) fs sss.flatten∧fws fs≤bs.sum
|[],[],[],o,_,_,hl,_=>by
  have:cs.drop o=[]:=o5 (by simpa using hl)
  rw [this];exact ⟨[],.nil,by simp [fws]⟩
|[],_,b :: bs,o,h,_,_,_=>by simp at h
|[],s :: rs,[],o,_,h,_,_=>by simp [qKk] at h
|p :: r,_,[],o,h,_,_,_=>by simp at h
|p :: r,[],b :: bs,o,_,h,_,_=>by obtain ⟨a,b⟩:=p;simp [qKk] at h
|(off,t) :: r,s :: rs,b :: bs,o,hbl,h,hl,hs=>by
  simp only [qKk,g9,bAc] at h;obtain ⟨⟨rfl,h2⟩,h3⟩:=h;obtain ⟨f0,a0,c0⟩:=hs 0 (by simp) (by simp) (by simp)
  simp only [l6,← h2] at a0 c0;simp only [List.flatten_cons,i8] at hl
  have hl':(cs.drop (off + s.length)).length=rs.flatten.length:=by simp at hl ⊢;omega
  obtain ⟨f1,a1,c1⟩:=qFv cs r rs bs (off + s.length) (by simpa using hbl) h3 hl' (fun i p q z=>by
   have:=hs (i + 1) (by simpa using p) (by simpa using q) (by simpa using z)
   simpa using this)
  refine ⟨f0 ++ f1,?_,by rw [zX5,bBe];omega⟩
  have e:cs.drop off=(cs.drop off).take s.length ++ cs.drop (off + s.length):=by
   rw [← List.drop_drop,x5]
  rw [e,List.flatten_cons];exact a0.append a1
theorem qBl {BK:DataW H→Nat} (hB:Bulk BK):∀ (n:Nat) (t:TypeId) (ss:List Sh) (fuel:Nat) (cs:List Value) (x:DataW H × List MemPlace),qM6 P n t=some ss→DataW.trod enc P w 0 (fun _=>true) true fuel t cs=some x→(∀ m ∈ x.1.weights P t,m≤reachBytes) →
  ∃ fs,All3 w n0 cs fs ss∧fws fs≤BK x.1
|0,t,ss,fuel,cs,x,h,_,_=>by simp [qM6] at h
|n + 1,t,ss,fuel,cs,x,h,ht,hw=>by
  rw [qM6] at h;split at h
  ·rename_i hu;simp only [a6] at h;subst h;obtain ⟨b,rfl,-⟩:=DataW.trod_bool hu ht;exact ⟨_,.cons (.v _) rfl (.bool b) .nil,by simp [fws,fw];exact hB.one _⟩
  ·rename_i k hu;simp only [a6] at h;subst h;obtain ⟨m,rfl,-,hwf⟩:=DataW.trod_int hu ht;exact ⟨_,.cons (.v _) rfl (.int hwf) .nil,by simp [fws,fw];exact hB.one _⟩
  ·rename_i hu;simp only [a6] at h;subst h;obtain ⟨s,rfl,rfl,hs⟩:=DataW.trod_string hu ht
   have:=hw s.size (by simp [DataW.weights])
   exact ⟨_,.cons (.v _) rfl (.str this) .nil,by simp [fws,fw];have:=hB.str s.data.toList;simpa using this⟩
  ·rename_i e hu;split at h
   ·rename_i es hes;split at h
    ·rename_i hc;simp only [g9,bAc,bCt] at hc;obtain ⟨hc1,hc2⟩:=hc;simp only [a6] at h;subst h
     rcases DataW.trod_slice hu ht with ⟨rfl,-⟩|⟨a,len,cap,elems,rest,m,rfl,rfl,rfl,-,hlc,hcm,hel,hat,-,-⟩
     ·exact ⟨_,.cons (.lst (xs:=[]) 0 (fun _ _=>.bool false) rfl (a7 _) (g7 _) (fun _=>rfl) (by simp) (fun h=>absurd h (bEu _)) (fun i k hi=>absurd hi (y5 _)) (fun i k hi=>absurd hi (by simp))) rfl (.sl (by simp) (by simp) (by simp)) .nil,by simp [fws,fw];exact hB.one _⟩
     ·have hwt:=hw ((elems.length + rest.length) * P.bytesOf e) (by simp [DataW.weights,hu])
      have one:∀ i,i < len→∃ ci fi,w.cells? 0 (a.add (i * P.cellsOf e)) (P.cellsOf e)=some ci∧All3 w n0 ci fi es∧∀ (h:i < elems.length),fws fi≤BK (elems[i]).1:=fun i hi=>by
       have hx:=hat i hi
       rw [c9 (by omega)] at hx
       obtain ⟨ci,h1,h2⟩:=Option.bind_eq_some_iff.1 hx;obtain ⟨fi,h3,h4⟩:=qBl hB n e es m ci elems[i] hes h2 (fun q hq=>hw q (by
        simp only [DataW.weights,hu,l3,m8];exact .inr (.inl (rB (i:=i) (by simp [hel,hi]) hq))))
       exact ⟨ci,fi,h1,h3,fun _=>h4⟩
      have hcs:∀ i,∃ p:List Value × List FV,i < len→w.cells? 0 (a.add (i * P.cellsOf e)) (P.cellsOf e)=some p.1∧All3 w n0 p.1 p.2 es∧∀ (h:i < elems.length),fws p.2≤BK (elems[i]).1:=fun i=>by
       by_cases hi:i < len
       ·obtain ⟨ci,fi,h1,h2⟩:=one i hi;exact ⟨(ci,fi),fun _=>⟨h1,h2⟩⟩
       ·exact ⟨([],[]),fun h=>absurd h hi⟩
      obtain ⟨g,hg⟩:=Classical.axiomOfChoice hcs
      have hlen:∀ i,i < len→(g i).1.length=es.length∧(g i).2.length=es.length:=fun i hi=>(hg i hi).2.1.len
      have hxl:((List.range len).map fun i=>(g i).2).length=len:=by simp
      have hcell:∀ i k (hi:i < len) (hk:k < es.length),w.cell? ((a.add (i * P.cellsOf e)).add k)=some ((g i).1.getD k (.bool false)):=fun i k hi hk=>by
       have h1:=(hg i hi).1
       unfold World.cells? at h1;rw [g8 (g7 _)] at h1
       have:=mapM_some_get h1 k k (by rw [bCk (by omega)])
       rw [this]
       have h2:=(hlen i hi).1
       rw [b6,c9 (by omega)];rfl
      have hspot:0 < len→a.spot=none:=fun h0=>by
       have:=zUu (hcell 0 0 h0 hc2)
       obtain ⟨b,o,s⟩:=a
       cases s with
      |none=>rfl
      |some y=>simp [Addr.add] at this
      refine ⟨_,.cons (.lst (xs:=(List.range len).map fun i=>(g i).2) es.length (fun i k=>(g i).1.getD k (.bool false)) hxl hlc hcm (fun h=>by cases h) (fun x hx=>?_) (fun h0=>?_) (fun i k hi hk=>?_) (fun i k hi hk=>?_)) rfl (.sl ?_ (fun x hx=>?_) (fun x hx i h1 h2=>?_)) .nil,?_⟩
      ·obtain ⟨i,hi,rfl⟩:=m6.1 hx;exact (hlen i (bA9.1 hi)).2
      ·have hs:=hspot h0
       obtain ⟨b,o,s⟩:=a;simp only at hs;subst hs
       have h00:=hcell 0 0 h0 hc2
       refine ⟨b,o,rfl,fun h=>h,?_,fun h=>by (cases h),fun i k hi hk=>?_⟩
       ·simp only [y8] at h00;exact bDo w _ h00
       ·have:=hcell i k hi hk
        simp only [y8] at this;rw [← this,hc1,bBd]
      ·have h2:=(hlen i hi).1
       rw [b6,c9 (by omega)]
       have:=((hg i hi).2.1.get k (by omega) (by have:=(hlen i hi).2;omega) hk).2.1
       exact this
      ·have hi':i < len:=by simpa using hi
       simp only [d9,bBr] at hk ⊢
       have h2:=hlen i hi'
       rw [b6,c9 (by omega)]
       exact ((hg i hi').2.1.get k (by omega) hk (by omega)).1
      ·rw [hxl];refine l5 (m5 _ (by omega)) hwt
      ·obtain ⟨i,hi,rfl⟩:=m6.1 hx;exact (hlen i (bA9.1 hi)).2
      ·obtain ⟨j,hj,rfl⟩:=m6.1 hx
       have hj':=bA9.1 hj
       have h3:=hlen j hj'
       exact ((hg j hj').2.1.get i (by omega) h2 h1).2.2
      ·have hsum:((List.range len).map fun i=>fws (g i).2).sum≤(elems.map fun x=>BK x.1).sum:=by
        refine qJ7 _ _ (by simp [hel]) fun i h1 h2=>?_
        have hi':i < len:=by simpa using h1
        simp only [d9,bBr];exact (hg i hi').2.2 (by omega)
       have h3:=hB.sl (elems.map (·.1)) (rest.map (·.1))
       rw [bAm] at h3;simp only [fws,d8,m4,bBe,List.sum_nil,zSc,bAm];simp only [Function.comp_def] at h3 ⊢
       have:((List.range len).map fun i=>((g i).2.map fw).sum)=((List.range len).map fun i=>fws (g i).2):=rfl
       simp only [fws] at hsum ⊢;omega
    ·cases h
   ·cases h
  ·rename_i fs hu;split at h
   ·rename_i sss hsss;split at h
    ·rename_i hc;simp only [g9,bAc] at hc;simp only [a6] at h;subst h;obtain ⟨xs,m,rfl,rfl,hcl,hxl,hat⟩:=DataW.trod_struct hu ht;obtain ⟨m1,m2⟩:=qK6 hsss;obtain ⟨fq,q1,q2⟩:=qFv (P:=P) (w:=w) (n0:=n0) cs _ sss (xs.map fun x=>BK x.1) 0 (by simp [hxl]) hc.1 (by rw [bAf,hcl,hc.2]) (fun i p q q0=>by
      simp only [c8,q7] at p;simp only [d9,bAb]
      have hx:=hat i fs[i] (v8 p)
      rw [c9 (by omega)] at hx
      refine qBl hB n _ sss[i] m _ xs[i] ?_ hx (fun z hz=>hw z ?_)
      ·have:=m2 i (by simpa using p) q
       simpa using this
      ·simp only [DataW.weights,hu];exact lQ (i:=i) (t:=fs[i].type) (d:=xs[i].1) (by simp [p]) (by simp [hxl,p]) hz)
     refine ⟨fq,by simpa using q1,l5 q2 ?_⟩
     have h3:=hB.ag (xs.map (·.1))
     rw [bAm] at h3;exact h3
    ·cases h
   ·cases h
  ·rename_i k e hu;split at h
   ·rename_i sss hsss;split at h
    ·rename_i hc;simp only [g9,bAc] at hc;simp only [a6] at h;subst h;obtain ⟨xs,m,rfl,rfl,hcl,hxl,hat⟩:=DataW.trod_array hu ht;obtain ⟨m1,m2⟩:=qK6 hsss;obtain ⟨fq,q1,q2⟩:=qFv (P:=P) (w:=w) (n0:=n0) cs _ sss (xs.map fun x=>BK x.1) 0 (by simp [hxl]) hc.1 (by rw [bAf,hcl,hc.2]) (fun i p q q0=>by
      simp only [c8,List.length_range] at p;simp only [d9,bBr]
      have hx:=hat i p
      rw [c9 (by omega)] at hx
      refine qBl hB n _ sss[i] m _ xs[i] ?_ hx (fun z hz=>hw z ?_)
      ·exact m2 i (by simpa using p) q
      ·simp only [DataW.weights,hu];exact rB (i:=i) (d:=xs[i].1) (by simp [hxl,p]) hz)
     refine ⟨fq,by simpa using q1,l5 q2 ?_⟩
     have h3:=hB.ag (xs.map (·.1))
     rw [bAm] at h3;exact h3
    ·cases h
   ·cases h
  ·cases h
theorem qF5 {BK:DataW H→Nat} (hB:Bulk BK) {n:Nat} {t:TypeId} {s:Sh} {v:Value} {d:DataW H} {p:List MemPlace} (hs:qM6 P n t=some [s]) (hv:v.oneCell'=true) (h:DataW.Trod enc P w 0 (fun _=>true) true t v d p) (hw:∀ m ∈ d.weights P t,m≤reachBytes) :
  ∃ f,RepF w (fun _=>False) n0 v f∧Fit s f∧fw f≤BK d:=by
 obtain ⟨fuel,hf⟩:=h;obtain ⟨fs,h3,h4⟩:=qBl (n0:=n0) hB n t _ fuel _ _ hs hf hw;rw [qGv hv] at h3
 cases h3 with
|cons a b c r =>
  cases r
  exact ⟨_,a,c,by simpa [fws] using h4⟩
end
end Go.Eng
namespace Go.Proofs.Y
open Go Go.Eng Go.RowKit Go.ChangeShapes Go.WideShapes Go.ChangeAt
def zDx {H:Type}:∀ (l:List (DataW H)),Rows.uptoBulkAll l=(l.map Rows.uptoBulk).sum
|[]=>by simp [Rows.uptoBulkAll]
|d :: r=>by rw [Rows.uptoBulkAll,zDx r];rfl
def yE6 {H:Type}:∀ (d:DataW H),1≤Rows.uptoBulk d:=fun d=>by
 cases d with
|lit l=>cases l <;> simp [Rows.uptoBulk]
|_=>simp [Rows.uptoBulk]
def qXh {H:Type}:Bulk (H:=H) Rows.uptoBulk:=by
 refine ⟨yE6,fun b=>?_,fun es rest=>?_,fun xs=>?_⟩
 ·rw [Rows.uptoBulk];exact a7 _
 ·rw [Rows.uptoBulk,zDx];omega
 ·rw [Rows.uptoBulk,zDx];omega
def yE7 {H:Type} {ds gs:List (DataW H)} (hk:Rows.uptoSmall H (ds ++ gs)=true):(ds.map Rows.uptoBulk).sum≤1048576:=by
 have h:Rows.uptoBulkAll (ds ++ gs)≤1048576:=u7 hk
 rw [zDx,d6,List.sum_append] at h;omega
def yCx (s:Ba):fw (.v (.string s))=s.size + 1:=by rw [fw]
end Go.Proofs.Y
namespace Go.Tr
open Go
def blt (a b:Ba):Bool:=Op.bytesLess a.toList b.toList
def qU3:∀ (a:List UInt8),Op.bytesLess a a=false
|[]=>rfl
|x :: r=>by simp [Op.bytesLess,qU3 r]
def qLd:∀ {a b c:List UInt8},Op.bytesLess a b=true→Op.bytesLess b c=true→Op.bytesLess a c=true
|_,[],c,h,_=>by cases ‹List UInt8› <;> simp [Op.bytesLess] at h
|_,_ :: _,[],_,h=>by simp [Op.bytesLess] at h
|[],_ :: _,_ :: _,_,_=>by simp [Op.bytesLess]
|x :: a,y :: b,z :: c,h1,h2=>by
  simp only [Op.bytesLess,w9,m7,g9,bAc] at h1 h2 ⊢
  rcases h1 with h1|⟨rfl,h1⟩
  ·rcases h2 with h2|⟨rfl,h2⟩
   ·exact .inl (UInt8.lt_trans h1 h2)
   ·exact .inl h1
  ·rcases h2 with h2|⟨rfl,h2⟩
   ·exact .inl h2
   ·exact .inr ⟨rfl,qLd h1 h2⟩
def qU2:∀ (a b:List UInt8),Op.bytesLess a b=true∨a=b∨Op.bytesLess b a=true
|[],[]=>.inr (.inl rfl)
|[],_ :: _=>.inl rfl
|_ :: _,[]=>.inr (.inr rfl)
|x :: a,y :: b=>by
  simp only [Op.bytesLess,w9,m7,g9,bAc]
  by_cases h:x=y
  ·subst h
   rcases qU2 a b with h|rfl|h
   ·exact .inl (.inr ⟨rfl,h⟩)
   ·exact .inr (.inl rfl)
   ·exact .inr (.inr (.inr ⟨rfl,h⟩))
  ·have:x < y∨y < x:=by
    rcases bAw x.toNat y.toNat with h'|h'|h'
    ·exact .inl h'
    ·exact (h (bC5.1 h')).elim
    ·exact .inr h'
   rcases this with h'|h'
   ·exact .inl (.inl h')
   ·exact .inr (.inr (.inl h'))
def tL:∀ (a b:List UInt8),b≠[]→Op.bytesLess a (a ++ b)=true
|[],b,h=>by cases b with
 |nil=>exact absurd rfl h
 |cons x r=>rfl
|x :: a,b,h=>by simp [Op.bytesLess,tL a b h]
def toList_inj {a b:Ba} (h:a.toList=b.toList):a=b:=by
 rw [Lib.toList_data,Lib.toList_data] at h
 cases a;cases b;simp only [ByteArray.mk.injEq];exact bAp.1 h
def nR (a:Ba):blt a a=false:=qU3 _
def nC {a b c:Ba} (h1:blt a b=true) (h2:blt b c=true):blt a c=true:=qLd h1 h2
def xX (a b:Ba):blt a b=true∨a=b∨blt b a=true:=by
 rcases qU2 a.toList b.toList with h|h|h
 ·exact .inl h
 ·exact .inr (.inl (toList_inj h))
 ·exact .inr (.inr h)
def oR {a b:Ba} (h:blt a b=true):blt b a=false:=by
 cases e:blt b a with
|false=>rfl
|true=>exact absurd (nC h e) (by rw [nR];simp)
def zDi {a b:Ba} (h:blt a b=true):a≠b:=fun e=>by subst e;rw [nR] at h;cases h
def zS1:∀ (a b:List UInt8),decide (Lib.compareBytes a b < 0)=Op.bytesLess a b
|[],[]=>rfl
|[],_ :: _=>rfl
|_ :: _,[]=>rfl
|x :: a,y :: b=>by
  simp only [Lib.compareBytes,Op.bytesLess]
  by_cases h:x < y
  ·simp [h]
  ·by_cases h2:y < x
   ·have:x≠y:=fun e=>by subst e;exact h h2
    simp [h,h2,this]
   ·have:x=y:=by
     apply bC5.1
     have h':¬ x.toNat < y.toNat:=h
     have h2':¬ y.toNat < x.toNat:=h2
     omega
    subst this;simp only [h,bCz];rw [zS1 a b];simp
def zFa:∀ (a b:List UInt8),decide (Lib.compareBytes a b=0)=decide (a=b)
|[],[]=>rfl
|[],_ :: _=>by simp [Lib.compareBytes]
|_ :: _,[]=>by simp [Lib.compareBytes]
|x :: a,y :: b=>by
  simp only [Lib.compareBytes]
  by_cases h:x < y
  ·have:x≠y:=fun e=>by subst e;exact absurd h (by simp)
   simp [h,this]
  ·by_cases h2:y < x
   ·have:x≠y:=fun e=>by subst e;exact h h2
    simp [h,h2,this]
   ·have:x=y:=by
     apply bC5.1
     have h':¬ x.toNat < y.toNat:=h
     have h2':¬ y.toNat < x.toNat:=h2
     omega
    subst this;simp only [h,bCz];rw [zFa a b];simp
def qH9 (a b:Ba):Int:=Lib.compareBytes a.data.toList b.data.toList
def qFi (a b:Ba):decide (qH9 a b < 0)=blt a b:=by rw [qH9,zS1,blt,Lib.toList_data,Lib.toList_data]
def zZm (a b:Ba):decide (qH9 a b=0)=decide (a=b):=by
 rw [qH9,zFa,bDh];exact ⟨fun h=>toList_inj (by rw [Lib.toList_data,Lib.toList_data];exact h),fun h=>by rw [h]⟩
abbrev Ent:=Ba × Int × Ba
def qZl:Int × Ba:=(0,ByteArray.empty)
def aV (t:List Ent) (p:Ba):Int × Ba:=((t.find? fun e=>decide (e.1=p)).map (·.2)).getD qZl
def rise (t:List Ent):Prop:=t.Pairwise fun a b=>blt a.1 b.1=true
def dE (t:List Ent) (p:Ba):Nat:=t.countP fun e=>blt e.1 p
def nV (t:List Ent) (p:Ba):Bool:=t.any fun e=>decide (e.1=p)
def vF {t:List Ent} (h:rise t) {i j:Nat} (hij:i < j) (hj:j < t.length):blt (t[i]'(by omega)).1 t[j].1=true:=bCa.1 h i j (by omega) hj hij
def qPy {α:Type} (f:α→Bool):∀ (t:List α) (i:Nat),i≤t.length→(∀ a (h:a < t.length),a < i→f t[a]=true)→(∀ a (h:a < t.length),i≤a→f t[a]=false)→t.countP f=i
|[],i,h,_,_=>by simp at h;subst h;rfl
|x :: r,0,h,h1,h2=>by
  rw [List.countP_eq_zero];intro a ha;obtain ⟨k,hk,rfl⟩:=p9 ha;rw [h2 k hk (g7 _)];simp
|x :: r,i + 1,h,h1,h2=>by
  rw [bDg,qPy f r i (by simpa using h) (fun a ha hi=>h1 (a + 1) (by simp;omega) (by omega)) (fun a ha hi=>h2 (a + 1) (by simp;omega) (by omega))]
  have:=h1 0 (by simp) (by omega)
  simp only [l6] at this;simp [this]
def zPg {t:List Ent} {p:Ba} {i:Nat} (hi:i≤t.length) (h1:∀ a (h:a < t.length),a < i→blt t[a].1 p=true) (h2:∀ a (h:a < t.length),i≤a→blt t[a].1 p=false):dE t p=i:=qPy _ t i hi h1 h2
def zPf (t:List Ent) (p:Ba):dE t p≤t.length:=List.countP_le_length ..
def qDh:∀ {t:List Ent} (h:rise t) (p:Ba),(∀ a (h:a < t.length),a < dE t p→blt t[a].1 p=true)∧(∀ a (h:a < t.length),dE t p≤a→blt t[a].1 p=false)
|[],_,p=>⟨fun a h=>by simp at h,fun a h=>by simp at h⟩
|x :: r,h,p=>by
  have hr:=(w8.1 h)
  obtain ⟨i1,i2⟩:=qDh hr.2 p;unfold dE at i1 i2 ⊢;rw [bDg]
  cases e:blt x.1 p with
 |true =>
   simp only [bBm];refine ⟨fun a ha hi=>?_,fun a ha hi=>?_⟩
   ·cases a with
   |zero=>simpa using e
   |succ a=>simpa using i1 a (by simpa using ha) (by omega)
   ·cases a with
   |zero=>omega
   |succ a=>simpa using i2 a (by simpa using ha) (by omega)
 |false =>
   have z:r.countP (fun e=>blt e.1 p)=0:=by
    rw [List.countP_eq_zero];intro y hy
    have:=hr.1 y hy
    intro hb;rw [nC this hb] at e;cases e
   rw [z];simp only [bA0,bCz];refine ⟨fun a ha hi=>by omega,fun a ha hi=>?_⟩
   cases a with
  |zero=>simpa using e
  |succ a=>simpa using i2 a (by simpa using ha) (by rw [z];omega)
def zNs {t:List Ent} (h:rise t) {i j:Nat} (hi:i < t.length) (hj:j < t.length) (e:t[i].1=t[j].1):i=j:=by
 rcases bAw i j with h'|h'|h'
 ·have:=vF h h' hj
  rw [e,nR] at this;cases this
 ·exact h'
 ·have:=vF h h' hi
  rw [e,nR] at this;cases this
def pB {t:List Ent} (h:rise t) (p:Ba):nV t p=decide (∃ hp:dE t p < t.length,t[dE t p].1=p):=by
 obtain ⟨h1,h2⟩:=qDh h p;unfold nV;rw [bAv,bBs];simp only [m7];constructor
 ·rintro ⟨e,he,rfl⟩;obtain ⟨k,hk,rfl⟩:=p9 he
  have hk2:dE t t[k].1=k:=by
   refine zPg (by omega) (fun a ha hi=>vF h hi hk) (fun a ha hi=>?_)
   rcases s4 k a with h'|h'
   ·exact oR (vF h h' ha)
   ·have:a=k:=by omega
    subst this;exact nR _
  exact ⟨by rw [hk2];exact hk,by simp only [hk2]⟩
 ·rintro ⟨hp,e⟩;exact ⟨_,c7 hp,e⟩
def zYu {t:List Ent} (h:rise t) {i:Nat} (hi:i < t.length):(t.find? fun e=>decide (e.1=t[i].1))=some t[i]:=by
 rw [List.find?_eq_some_iff_getElem];refine ⟨by simp,i,hi,rfl,fun j hj=>?_⟩
 have:=zDi (vF h hj hi)
 simpa using this
def zX3 {t:List Ent} (h:rise t) {i:Nat} (hi:i < t.length):aV t t[i].1=t[i].2:=by rw [aV,zYu h hi];rfl
def zLp {t:List Ent} {p:Ba} (h:nV t p=false):aV t p=qZl:=by
 have:(t.find? fun e=>decide (e.1=p))=none:=by
  rw [List.find?_eq_none];intro e he
  have:=List.any_eq_false.1 h e he
  exact this
 rw [aV,this];rfl
def zCu {t:List Ent} (h:rise t) (p:Ba):aV t p=if hp:dE t p < t.length∧nV t p=true then (t[dE t p]'hp.1).2 else qZl:=by
 by_cases hp:dE t p < t.length∧nV t p=true
 ·rw [dif_pos hp]
  have:=hp.2
  rw [pB h p,m7] at this;obtain ⟨h1,e⟩:=this
  have:=zX3 h h1
  rw [e] at this;exact this
 ·rw [dif_neg hp];refine zLp ?_
  cases e:nV t p with
 |false=>rfl
 |true =>
   have:=e
   rw [pB h p,m7] at this;exact (hp ⟨this.1,e⟩).elim
open Go.Lib
def iU:List UInt8→List (List UInt8)
|[]=>[[]]
|c :: r=>if c=47 then [] :: iU r else match iU r with
 |h :: t=>(c :: h) :: t
 |[]=>[[c]]
def qCj (s:List UInt8):iU s≠[]:=by
 cases s with
|nil=>simp [iU]
|cons c r =>
  rw [iU];split
  ·simp
  ·split <;> simp
def gK (r:List UInt8):iU (47 :: r)=[] :: iU r:=by rw [iU,g8 rfl]
def iT {c:UInt8} (h:c≠47) {r a:List UInt8} {t:List (List UInt8)} (e:iU r=a :: t):iU (c :: r)=(c :: a) :: t:=by rw [iU,b7 h,e]
def qEp (c:UInt8) (l:List UInt8):indexByte (c :: l) c=0:=by simp [indexByte]
def qKa:∀ (s:List UInt8),splitK [47] 0 (s.count 47) s=iU s
|[]=>rfl
|c :: r=>by
  have ih:=qKa r
  by_cases h:c=47
  ·subst h;rw [List.count_cons_self,splitK,gK,← ih]
   have:index (47 :: r) [47]=0:=by rw [index_one];exact qEp 47 r
   rw [this];simp
  ·rw [List.count_cons_of_ne h]
   cases hk:r.count 47 with
  |zero =>
    rw [hk,splitK] at ih;rw [splitK,iT h ih.symm]
  |succ k =>
    rw [hk,splitK] at ih
    have hne:¬ (index r [47] == -1)=true:=fun e=>by
     have:=count_miss (bAc.1 e)
     rw [count_one] at this;omega
    rw [b7 hne] at ih
    have hge:=index_ge r [47]
    have hne':index r [47]≠-1:=fun e=>hne (bAc.2 e)
    have hc:index (c :: r) [47]=index r [47] + 1:=by
     rw [index_drop (i:=1) (s:=c :: r) (fun j hj=>by
      have:j=0:=by omega
      subst this;simp only [occAt,bAf,List.isPrefixOf,bEt,bCl,ne_eq];exact fun e=>h e.symm) (by simp)]
     simp only [bDk,bAf];rw [b7 hne];rfl
    obtain ⟨i,hi⟩:∃ i:Nat,index r [47]=i:=⟨(index r [47]).toNat,by omega⟩
    have e2:index (c :: r) [47]=((i + 1:Nat):Int):=by rw [hc,hi];rfl
    rw [splitK,b7 (by rw [e2,bAc];omega),e2]
    rw [hi] at ih;simp only [bEs,bAy,i6,bAj,s7] at ih ⊢;rw [show i + 1 + 1=(i + 1) + 1 from rfl,bDk,bDj]
    exact (iT h ih.symm).symm
def mkB (l:List UInt8):Ba:=⟨l.toArray⟩
def parts (p:Ba):List Ba:=(iU p.data.toList).map mkB
def pG (s:Ba):mkB s.data.toList=s:=by cases s;rfl
def stroke:Ba:={ data:=#[47] }
def qD (p:Ba):splitB stroke 0 (countB p stroke) p=parts p:=by
 have h:=splitB_data stroke 0 (countB p stroke) p
 have hc:countB p stroke=p.data.toList.count 47:=count_one 47 _
 rw [hc] at h ⊢;rw [show stroke.data.toList=[47] from rfl,qKa] at h
 rw [parts,← h,bAm]
 conv=>lhs;rw [← bEv (splitB stroke 0 _ p)]
 exact x7 fun s _=>(pG s).symm
def qC6:List (List UInt8)→List UInt8→List UInt8→List (List UInt8)
|out,one,[]=>out ++ [one]
|out,one,c :: r=>if c=47 then qC6 (out ++ [one]) [] r else qC6 out (one ++ [c]) r
def qL8:∀ (s:List UInt8) (out:List (List UInt8)) (one:List UInt8),qC6 out one s=out ++ (match iU s with|h :: t=>(one ++ h) :: t|[]=>[one])
|[],out,one=>by simp [qC6,iU]
|c :: r,out,one=>by
  rw [qC6]
  by_cases h:c=47
  ·subst h;rw [g8 rfl,qL8 r,gK]
   cases e:iU r with
  |nil=>exact absurd e (qCj r)
  |cons a t=>simp
  ·rw [b7 h,qL8 r]
   cases e:iU r with
  |nil=>exact absurd e (qCj r)
  |cons a t=>rw [iT h e];simp
def zL3 (s:List UInt8):qC6 [] [] s=iU s:=by
 rw [qL8]
 cases e:iU s with
|nil=>exact absurd e (qCj s)
|cons a t=>simp
def okC (c:UInt8):Bool:=(decide (97≤c) && decide (c≤122)) || (decide (48≤c) && decide (c≤57)) || decide (c=95)
def eG (s:Ba):Bool:=decide (1≤s.size) && decide (s.size≤12) && s.data.toList.all okC
def pOk (p:Ba) (zY3:Int):Bool:=decide (((parts p).length:Int)≤zY3) && (parts p).all eG
def qKz {p:Ba} {d:Int} (h:pOk p d=true):p≠ByteArray.empty:=by
 rintro rfl;simp only [pOk,g9] at h
 have:parts ByteArray.empty=[mkB []]:=rfl
 rw [this] at h;simp [eG,mkB,ByteArray.size] at h
def fU:List UInt8→Option Nat
|[]=>none
|c :: r=>match fU r with
 |some i=>some (i + 1)
 |none=>if c=47 then some 0 else none
def rR:∀ {s:List UInt8} {i:Nat},fU s=some i→i < s.length∧s[i]?=some 47
|[],i,h=>by simp [fU] at h
|c :: r,i,h=>by
  rw [fU] at h;split at h
  ·rename_i j hj;simp only [a6] at h;subst h;obtain ⟨a,b⟩:=rR hj;exact ⟨by simp;omega,by simpa using b⟩
  ·split at h
   ·rename_i e;simp only [a6] at h;subst h;exact ⟨by simp,by simp [e]⟩
   ·cases h
def qRs (s:List UInt8) (c:UInt8):fU (s ++ [c])=if c=47 then some s.length else fU s:=by
 induction s with
|nil =>
  simp only [u4,fU,bAj]
|cons x r ih =>
  rw [u5,fU,ih]
  by_cases h:c=47
  ·rw [g8 h,g8 h];rfl
  ·rw [b7 h,b7 h];rfl
def pH (s:List UInt8):Int:=match fU s with
|some i=>i
|none=>-1
def qAn (p:Ba):Nat:=(fU p.data.toList).getD 0
def par (p:Ba):Ba:=p.extract 0 (qAn p)
def zEg {p:Ba} (h:p≠ByteArray.empty):qAn p < p.size:=by
 unfold qAn
 cases e:fU p.data.toList with
|none =>
  show 0 < p.size
  rcases bAo p.size with h0|h0
  ·exact absurd (bBl.1 h0) h
  ·exact h0
|some i =>
  have:=(rR e).1
  show i < p.size
  rw [Lib.size_eq];exact this
def zWa {p:Ba} (h:p≠ByteArray.empty):blt (par p) p=true:=by
 have hl:=zEg h
 rw [blt,toList_data,toList_data]
 have e:(par p).data.toList=p.data.toList.take (qAn p):=by
  rw [par,extract_from_zero]
 rw [e]
 have:=tL (p.data.toList.take (qAn p)) (p.data.toList.drop (qAn p)) (by
  intro e
  have:=congrArg List.length e
  simp only [y7,bAj] at this;rw [Lib.size_eq] at hl;omega)
 rwa [x5] at this
def bN (p top:Ba):Bool:=decide (top=ByteArray.empty) || decide (p=top) || (top ++ stroke).data.toList.isPrefixOf p.data.toList
end Go.Tr
namespace Go.Proofs.Y
open Go Go.Eng
def mixed:Tryz.prog.follows .mixedOrders=true:=by kernel_rfl
def yHx:qHz Tryz.prog 128=some (3,none):=by kernel_rfl
def yLn:qHz Tryz.prog 90=some (3,none):=by kernel_rfl
def bb4:qNl Tryz.prog 4=true:=by kernel_rfl
def yHv:cQ Tryz.prog 116=true:=by kernel_rfl
def yHu:cQ Tryz.prog 128=true:=by kernel_rfl
def yHt:cQ Tryz.prog 134=true:=by kernel_rfl
def yHs:cQ Tryz.prog 140=true:=by kernel_rfl
def yHr:cQ Tryz.prog 165=true:=by kernel_rfl
def yHq:cQ Tryz.prog 193=true:=by kernel_rfl
def yHp:cQ Tryz.prog 206=true:=by kernel_rfl
def yHo:cQ Tryz.prog 220=true:=by kernel_rfl
def yHn:cQ Tryz.prog 221=true:=by kernel_rfl
def yLm:cQ Tryz.prog 28=true:=by kernel_rfl
def yLl:cQ Tryz.prog 32=true:=by kernel_rfl
def yLk:cQ Tryz.prog 39=true:=by kernel_rfl
def yHm:cQ Tryz.prog 42=true:=by kernel_rfl
def yHl:cQ Tryz.prog 44=true:=by kernel_rfl
def yLj:cQ Tryz.prog 48=true:=by kernel_rfl
def yLi:cQ Tryz.prog 53=true:=by kernel_rfl
def yLh:cQ Tryz.prog 69=true:=by kernel_rfl
def yLg:cQ Tryz.prog 90=true:=by kernel_rfl
def zZg:qL9 Tryz.prog 9 160=true:=by kernel_rfl
def zYp:eV Tryz.prog 116 0=some 0:=by kernel_rfl
def zYo:eV Tryz.prog 116 1=some 1:=by kernel_rfl
def zYn:eV Tryz.prog 116 2=some 2:=by kernel_rfl
def zYm:eV Tryz.prog 116 3=some 3:=by kernel_rfl
def zYl:eV Tryz.prog 134 0=some 0:=by kernel_rfl
def zYk:eV Tryz.prog 134 1=some 1:=by kernel_rfl
def zYj:eV Tryz.prog 134 2=some 2:=by kernel_rfl
def zYi:eV Tryz.prog 134 3=some 3:=by kernel_rfl
def zYh:eV Tryz.prog 134 4=some 4:=by kernel_rfl
def zYg:eV Tryz.prog 134 5=some 5:=by kernel_rfl
def zYf:eV Tryz.prog 134 6=some 6:=by kernel_rfl
def zYe:eV Tryz.prog 170 0=some 0:=by kernel_rfl
def zYd:eV Tryz.prog 170 1=some 1:=by kernel_rfl
def zYc:eV Tryz.prog 193 0=some 0:=by kernel_rfl
def zYb:eV Tryz.prog 193 1=some 1:=by kernel_rfl
def zYa:eV Tryz.prog 206 0=some 0:=by kernel_rfl
def zX9:eV Tryz.prog 206 1=some 1:=by kernel_rfl
def zX8:eV Tryz.prog 220 0=some 0:=by kernel_rfl
def zX7:eV Tryz.prog 220 1=some 1:=by kernel_rfl
def yDm:eV Tryz.prog 28 0=some 0:=by kernel_rfl
def yDl:eV Tryz.prog 28 1=some 1:=by kernel_rfl
def yDk:eV Tryz.prog 28 2=some 2:=by kernel_rfl
def yDj:eV Tryz.prog 28 3=some 3:=by kernel_rfl
def yDe:eV Tryz.prog 39 0=some 0:=by kernel_rfl
def yDd:eV Tryz.prog 39 1=some 1:=by kernel_rfl
def yDc:eV Tryz.prog 39 2=some 2:=by kernel_rfl
def yDb:eV Tryz.prog 39 3=some 3:=by kernel_rfl
def yDa:eV Tryz.prog 39 4=some 4:=by kernel_rfl
def yC9:eV Tryz.prog 39 5=some 5:=by kernel_rfl
def yC8:eV Tryz.prog 39 6=some 6:=by kernel_rfl
def zC0:eV Tryz.prog 42 0=some 0:=by kernel_rfl
def yC7:eV Tryz.prog 42 1=some 1:=by kernel_rfl
def zSh:eV Tryz.prog 44 0=some 0:=by kernel_rfl
def zCz:eV Tryz.prog 44 1=some 1:=by kernel_rfl
def yC6:eV Tryz.prog 53 0=some 0:=by kernel_rfl
def yC5:eV Tryz.prog 53 1=some 1:=by kernel_rfl
def yC4:eV Tryz.prog 69 0=some 0:=by kernel_rfl
def yC3:eV Tryz.prog 69 1=some 1:=by kernel_rfl
def yC2:eV Tryz.prog 69 2=some 2:=by kernel_rfl
def yC1:eV Tryz.prog 69 3=some 3:=by kernel_rfl
def yCy:qE8 Tryz.prog 42 0=some (0,none):=by kernel_rfl
def yGg:qMt Tryz.prog 122=some .u64:=by kernel_rfl
def yGf:qMt Tryz.prog 151=some .u32:=by kernel_rfl
def yGe:qMt Tryz.prog 153=some .u64:=by kernel_rfl
def yKe:qMt Tryz.prog 21=some .i32:=by kernel_rfl
def it3:qMt Tryz.prog 3=some .i64:=by kernel_rfl
def it5:qMt Tryz.prog 5=some .u8:=by kernel_rfl
def yGb:bU Tryz.prog 112=some none:=by kernel_rfl
def yGa:bU Tryz.prog 116=some (some 4):=by kernel_rfl
def yF9:bU Tryz.prog 130=some none:=by kernel_rfl
def yF8:bU Tryz.prog 134=some (some 7):=by kernel_rfl
def yF7:bU Tryz.prog 160=some none:=by kernel_rfl
def yF6:bU Tryz.prog 165=some (some 2):=by kernel_rfl
def yF5:bU Tryz.prog 168=some none:=by kernel_rfl
def yF4:bU Tryz.prog 193=some (some 2):=by kernel_rfl
def zEs:bU Tryz.prog 204=some none:=by kernel_rfl
def qAq:bU Tryz.prog 206=some (some 2):=by kernel_rfl
def qPg:bU Tryz.prog 208=some none:=by kernel_rfl
def qU6:bU Tryz.prog 22=some none:=by kernel_rfl
def yF3:bU Tryz.prog 220=some (some 2):=by kernel_rfl
def yF2:bU Tryz.prog 221=some (some 32):=by kernel_rfl
def yKb:bU Tryz.prog 26=some none:=by kernel_rfl
def yKa:bU Tryz.prog 28=some (some 4):=by kernel_rfl
def kt3:bU Tryz.prog 3=some none:=by kernel_rfl
def yJ8:bU Tryz.prog 39=some (some 7):=by kernel_rfl
def kt4:bU Tryz.prog 4=some none:=by kernel_rfl
def yB7:bU Tryz.prog 42=some (some 2):=by kernel_rfl
def yF1:bU Tryz.prog 44=some (some 3):=by kernel_rfl
def yJ7:bU Tryz.prog 45=some none:=by kernel_rfl
def yJ6:bU Tryz.prog 48=some (some 4):=by kernel_rfl
def kt5:bU Tryz.prog 5=some none:=by kernel_rfl
def yJ5:bU Tryz.prog 50=some none:=by kernel_rfl
def yJ4:bU Tryz.prog 53=some (some 2):=by kernel_rfl
def yJ3:bU Tryz.prog 69=some (some 4):=by kernel_rfl
def yJ2:bU Tryz.prog 73=some none:=by kernel_rfl
def yJ1:bU Tryz.prog 84=some none:=by kernel_rfl
def yJ0:bU Tryz.prog 89=some none:=by kernel_rfl
def kt9:bU Tryz.prog 9=some none:=by kernel_rfl
def yFt:qH3 Tryz.prog 168=true:=by kernel_rfl
def zV2:cP Tryz.prog 116 0=some (0,1):=by kernel_rfl
def zV1:cP Tryz.prog 116 1=some (1,1):=by kernel_rfl
def zV0:cP Tryz.prog 116 2=some (2,1):=by kernel_rfl
def zVz:cP Tryz.prog 116 3=some (3,1):=by kernel_rfl
def zVy:cP Tryz.prog 128 0=some (0,1):=by kernel_rfl
def zVx:cP Tryz.prog 128 1=some (1,1):=by kernel_rfl
def zVw:cP Tryz.prog 128 2=some (2,1):=by kernel_rfl
def zVv:cP Tryz.prog 134 0=some (0,1):=by kernel_rfl
def zVu:cP Tryz.prog 134 1=some (1,1):=by kernel_rfl
def zVt:cP Tryz.prog 134 2=some (2,1):=by kernel_rfl
def zVs:cP Tryz.prog 140 0=some (0,1):=by kernel_rfl
def zVr:cP Tryz.prog 140 1=some (1,1):=by kernel_rfl
def zVq:cP Tryz.prog 140 2=some (2,1):=by kernel_rfl
def zVp:cP Tryz.prog 165 0=some (0,1):=by kernel_rfl
def zVo:cP Tryz.prog 165 1=some (1,1):=by kernel_rfl
def zVn:cP Tryz.prog 193 0=some (0,1):=by kernel_rfl
def zVm:cP Tryz.prog 193 1=some (1,1):=by kernel_rfl
def zVl:cP Tryz.prog 206 0=some (0,1):=by kernel_rfl
def zVk:cP Tryz.prog 206 1=some (1,1):=by kernel_rfl
def zVj:cP Tryz.prog 220 0=some (0,1):=by kernel_rfl
def zVi:cP Tryz.prog 220 1=some (1,1):=by kernel_rfl
def zVh:cP Tryz.prog 221 0=some (0,2):=by kernel_rfl
def zVg:cP Tryz.prog 221 1=some (2,2):=by kernel_rfl
def zVf:cP Tryz.prog 221 2=some (4,2):=by kernel_rfl
def zVe:cP Tryz.prog 221 3=some (6,2):=by kernel_rfl
def zVd:cP Tryz.prog 221 4=some (8,2):=by kernel_rfl
def yBw:cP Tryz.prog 28 0=some (0,1):=by kernel_rfl
def yBv:cP Tryz.prog 28 1=some (1,1):=by kernel_rfl
def yBu:cP Tryz.prog 28 2=some (2,1):=by kernel_rfl
def yBq:cP Tryz.prog 39 0=some (0,1):=by kernel_rfl
def yBp:cP Tryz.prog 39 1=some (1,1):=by kernel_rfl
def yBo:cP Tryz.prog 39 2=some (2,1):=by kernel_rfl
def yBn:cP Tryz.prog 42 0=some (0,1):=by kernel_rfl
def yBm:cP Tryz.prog 42 1=some (1,1):=by kernel_rfl
def yBl:cP Tryz.prog 44 0=some (0,1):=by kernel_rfl
def yBk:cP Tryz.prog 44 1=some (1,2):=by kernel_rfl
def yBj:cP Tryz.prog 48 0=some (0,1):=by kernel_rfl
def yBi:cP Tryz.prog 48 1=some (1,1):=by kernel_rfl
def yBh:cP Tryz.prog 48 2=some (2,2):=by kernel_rfl
def yBg:cP Tryz.prog 53 0=some (0,1):=by kernel_rfl
def yBf:cP Tryz.prog 53 1=some (1,1):=by kernel_rfl
def yBe:cP Tryz.prog 69 0=some (0,1):=by kernel_rfl
def yBd:cP Tryz.prog 69 1=some (1,1):=by kernel_rfl
def yBc:cP Tryz.prog 69 2=some (2,1):=by kernel_rfl
def yBb:cP Tryz.prog 90 0=some (0,1):=by kernel_rfl
def yBa:cP Tryz.prog 90 1=some (1,1):=by kernel_rfl
def yA9:cP Tryz.prog 90 2=some (2,1):=by kernel_rfl
def yFq:jT Tryz.prog 112=some (116,4,80,#[.bool false,.slice none 0 0,.slice none 0 0,.slice none 0 0]):=by kernel_rfl
def yFp:jT Tryz.prog 130=some (3,1,8,#[.int .i64 0]):=by kernel_rfl
def yFo:jT Tryz.prog 138=some (140,3,24,#[.int .i64 0,.int .i64 0,.int .i64 0]):=by kernel_rfl
def yFn:jT Tryz.prog 160=some (5,1,1,#[.int .u8 0]):=by kernel_rfl
def yFm:jT Tryz.prog 161=some (165,2,16,#[.int .i64 0,.int .i64 0]):=by kernel_rfl
def zD8:jT Tryz.prog 189=some (193,2,16,#[.int .i64 0,.int .i64 0]):=by kernel_rfl
def yAd:jT Tryz.prog 204=some (208,1,2,#[.int .i16 0]):=by kernel_rfl
def yFl:jT Tryz.prog 216=some (130,1,24,#[.slice none 0 0]):=by kernel_rfl
def yA2:jT Tryz.prog 22=some (44,3,40,#[.string ByteArray.empty,.int .i64 0,.string ByteArray.empty]):=by kernel_rfl
def yJx:jT Tryz.prog 26=some (39,7,112,#[.string ByteArray.empty,.slice none 0 0,.slice none 0 0,.string ByteArray.empty,.bool false,.int .i64 0,.string ByteArray.empty]):=by kernel_rfl
def yA1:jT Tryz.prog 37=some (22,1,24,#[.slice none 0 0]):=by kernel_rfl
def yJw:jT Tryz.prog 45=some (48,4,48,#[.int .i64 0,.string ByteArray.empty,.int .i64 0,.string ByteArray.empty]):=by kernel_rfl
def yJv:jT Tryz.prog 50=some (53,2,24,#[.string ByteArray.empty,.int .i64 0]):=by kernel_rfl
def yJu:jT Tryz.prog 84=some (9,1,16,#[.string ByteArray.empty]):=by kernel_rfl
def yJt:jT Tryz.prog 98=some (73,1,8,#[.pointer none]):=by kernel_rfl
def yFj:qAf Tryz.prog 160=false:=by kernel_rfl
def st9:qAf Tryz.prog 9=true:=by kernel_rfl
def yFg:qJ3 Tryz.prog 140=some (3,1):=by kernel_rfl
def yFf:qJ3 Tryz.prog 165=some (2,1):=by kernel_rfl
def yFe:qJ3 Tryz.prog 218=some (256,1):=by kernel_rfl
def yFd:qJ3 Tryz.prog 221=some (16,2):=by kernel_rfl
def yFc:(Tryz.prog.underlying 122).isSome=true:=by kernel_rfl
def yFb:(Tryz.prog.underlying 151).isSome=true:=by kernel_rfl
def yFa:(Tryz.prog.underlying 153).isSome=true:=by kernel_rfl
def yE9:(Tryz.prog.underlying 168).isSome=true:=by kernel_rfl
def yE8:(Tryz.prog.underlying 213).isSome=true:=by kernel_rfl
def ui3:(Tryz.prog.underlying 3).isSome=true:=by kernel_rfl
def ui5:(Tryz.prog.underlying 5).isSome=true:=by kernel_rfl
def ui9:(Tryz.prog.underlying 9).isSome=true:=by kernel_rfl
def yE5:bV Tryz.prog 112=some (116,4):=by kernel_rfl
def yE4:bV Tryz.prog 130=some (3,1):=by kernel_rfl
def yE3:bV Tryz.prog 138=some (140,3):=by kernel_rfl
def yE2:bV Tryz.prog 160=some (5,1):=by kernel_rfl
def yE1:bV Tryz.prog 161=some (165,2):=by kernel_rfl
def qNk:bV Tryz.prog 189=some (193,2):=by kernel_rfl
def qNj:bV Tryz.prog 204=some (208,1):=by kernel_rfl
def yE0:bV Tryz.prog 216=some (130,1):=by kernel_rfl
def qMr:bV Tryz.prog 22=some (44,3):=by kernel_rfl
def yJo:bV Tryz.prog 26=some (39,7):=by kernel_rfl
def qJ0:bV Tryz.prog 37=some (22,1):=by kernel_rfl
def yJn:bV Tryz.prog 45=some (48,4):=by kernel_rfl
def yJm:bV Tryz.prog 50=some (53,2):=by kernel_rfl
def qCw:bV Tryz.prog 84=some (9,1):=by kernel_rfl
def yJl:bV Tryz.prog 98=some (73,1):=by kernel_rfl
def yEz:eD Tryz.prog 116=some #[.bool false,.slice none 0 0,.slice none 0 0,.slice none 0 0]:=by kernel_rfl
def yEy:eD Tryz.prog 128=some #[.string ByteArray.empty,.string ByteArray.empty,.string ByteArray.empty]:=by kernel_rfl
def yEx:eD Tryz.prog 134=some #[.slice none 0 0,.slice none 0 0,.slice none 0 0,.int .i64 0,.int .i64 0,.int .i64 0,.slice none 0 0]:=by kernel_rfl
def yEw:eD Tryz.prog 140=some #[.int .i64 0,.int .i64 0,.int .i64 0]:=by kernel_rfl
def yEv:eD Tryz.prog 165=some #[.int .i64 0,.int .i64 0]:=by kernel_rfl
def yEu:eD Tryz.prog 170=some #[.pointer none,.slice none 0 0]:=by kernel_rfl
def yEt:eD Tryz.prog 193=some #[.int .i64 0,.int .i64 0]:=by kernel_rfl
def qSr:eD Tryz.prog 206=some #[.int .i64 0,.slice none 0 0]:=by kernel_rfl
def yJj:eD Tryz.prog 22=some #[.slice none 0 0]:=by kernel_rfl
def yEs:eD Tryz.prog 220=some #[.int .u8 0,.int .u8 0]:=by kernel_rfl
def yEr:eD Tryz.prog 221=some #[.int .u8 0,.int .u8 0,.int .u8 0,.int .u8 0,.int .u8 0,.int .u8 0,.int .u8 0,.int .u8 0,.int .u8 0,.int .u8 0,.int .u8 0,.int .u8 0,.int .u8 0,.int .u8 0,.int .u8 0,.int .u8 0,.int .u8 0,.int .u8 0,.int .u8 0,.int .u8 0,.int .u8 0,.int .u8 0,.int .u8 0,.int .u8 0,.int .u8 0,.int .u8 0,.int .u8 0,.int .u8 0,.int .u8 0,.int .u8 0,.int .u8 0,.int .u8 0]:=by kernel_rfl
def yJi:eD Tryz.prog 28=some #[.slice none 0 0,.slice none 0 0,.slice none 0 0,.slice none 0 0]:=by kernel_rfl
def zt3:eD Tryz.prog 3=some #[.int .i64 0]:=by kernel_rfl
def yJg:eD Tryz.prog 39=some #[.string ByteArray.empty,.slice none 0 0,.slice none 0 0,.string ByteArray.empty,.bool false,.int .i64 0,.string ByteArray.empty]:=by kernel_rfl
def yJf:eD Tryz.prog 42=some #[.int .i64 0,.string ByteArray.empty]:=by kernel_rfl
def yJe:eD Tryz.prog 44=some #[.string ByteArray.empty,.int .i64 0,.string ByteArray.empty]:=by kernel_rfl
def yJd:eD Tryz.prog 45=some #[.slice none 0 0]:=by kernel_rfl
def yJc:eD Tryz.prog 48=some #[.int .i64 0,.string ByteArray.empty,.int .i64 0,.string ByteArray.empty]:=by kernel_rfl
def yJb:eD Tryz.prog 53=some #[.string ByteArray.empty,.int .i64 0]:=by kernel_rfl
def yJa:eD Tryz.prog 69=some #[.slice none 0 0,.slice none 0 0,.slice none 0 0,.slice none 0 0]:=by kernel_rfl
def yH9:eD Tryz.prog 84=some #[.slice none 0 0]:=by kernel_rfl
def yH8:eD Tryz.prog 89=some #[.map none]:=by kernel_rfl
def yH7:eD Tryz.prog 90=some #[.slice none 0 0,.slice none 0 0,.slice none 0 0]:=by kernel_rfl
def cl4:aB Tryz.prog 4=true:=by kernel_rfl
def cl5:aB Tryz.prog 5=true:=by kernel_rfl
def cl6:aB Tryz.prog 6=true:=by kernel_rfl
def cl7:aB Tryz.prog 7=true:=by kernel_rfl
def cl8:aB Tryz.prog 8=true:=by kernel_rfl
def cl9:aB Tryz.prog 9=true:=by kernel_rfl
def yLf:aB Tryz.prog 10=true:=by kernel_rfl
def yLe:aB Tryz.prog 11=true:=by kernel_rfl
def yLd:aB Tryz.prog 12=true:=by kernel_rfl
def yLc:aB Tryz.prog 13=true:=by kernel_rfl
def qSf:aB Tryz.prog 14=true:=by kernel_rfl
def yD7:aB Tryz.prog 15=true:=by kernel_rfl
def yLb:aB Tryz.prog 16=true:=by kernel_rfl
def yG4:aB Tryz.prog 17=true:=by kernel_rfl
def yLa:aB Tryz.prog 18=true:=by kernel_rfl
def qSe:aB Tryz.prog 19=true:=by kernel_rfl
def qSd:aB Tryz.prog 20=true:=by kernel_rfl
def yG3:aB Tryz.prog 21=true:=by kernel_rfl
def qC0:aB Tryz.prog 22=true:=by kernel_rfl
def yK9:aB Tryz.prog 23=true:=by kernel_rfl
def yK8:aB Tryz.prog 24=true:=by kernel_rfl
def uV:aB Tryz.prog 25=true:=by kernel_rfl
def qWp:aB Tryz.prog 26=true:=by kernel_rfl
def zS5:aB Tryz.prog 27=true:=by kernel_rfl
def qWo:aB Tryz.prog 28=true:=by kernel_rfl
def yD6:aB Tryz.prog 29=true:=by kernel_rfl
def qGu:aB Tryz.prog 30=true:=by kernel_rfl
def qMb:aB Tryz.prog 31=true:=by kernel_rfl
def zS4:aB Tryz.prog 32=true:=by kernel_rfl
def yG2:aB Tryz.prog 33=true:=by kernel_rfl
def yG1:aB Tryz.prog 34=true:=by kernel_rfl
def yG0:aB Tryz.prog 35=true:=by kernel_rfl
def zMb:aB Tryz.prog 36=true:=by kernel_rfl
def yK7:aB Tryz.prog 37=true:=by kernel_rfl
def yD5:aB Tryz.prog 38=true:=by kernel_rfl
def yGz:aB Tryz.prog 39=true:=by kernel_rfl
def yK6:aB Tryz.prog 41=true:=by kernel_rfl
def yK5:aB Tryz.prog 42=true:=by kernel_rfl
def yK4:aB Tryz.prog 43=true:=by kernel_rfl
def yD4:aB Tryz.prog 44=true:=by kernel_rfl
def zS3:aB Tryz.prog 45=true:=by kernel_rfl
def yK3:aB Tryz.prog 46=true:=by kernel_rfl
def yK2:aB Tryz.prog 47=true:=by kernel_rfl
def yK1:aB Tryz.prog 48=true:=by kernel_rfl
def yK0:aB Tryz.prog 49=true:=by kernel_rfl
def yKz:aB Tryz.prog 50=true:=by kernel_rfl
def yKy:aB Tryz.prog 51=true:=by kernel_rfl
def yKx:aB Tryz.prog 52=true:=by kernel_rfl
def yD3:aB Tryz.prog 53=true:=by kernel_rfl
def yKw:aB Tryz.prog 54=true:=by kernel_rfl
def yKv:aB Tryz.prog 55=true:=by kernel_rfl
def yKu:aB Tryz.prog 56=true:=by kernel_rfl
def yD2:aB Tryz.prog 57=true:=by kernel_rfl
def yKt:aB Tryz.prog 58=true:=by kernel_rfl
def yKs:aB Tryz.prog 59=true:=by kernel_rfl
def yKr:aB Tryz.prog 60=true:=by kernel_rfl
def yKq:aB Tryz.prog 61=true:=by kernel_rfl
def zMa:aB Tryz.prog 65=true:=by kernel_rfl
def qWn:aB Tryz.prog 66=true:=by kernel_rfl
def yKp:aB Tryz.prog 67=true:=by kernel_rfl
def yKo:aB Tryz.prog 69=true:=by kernel_rfl
def yKn:aB Tryz.prog 70=true:=by kernel_rfl
def yD1:aB Tryz.prog 71=true:=by kernel_rfl
def zL9:aB Tryz.prog 72=true:=by kernel_rfl
def yGy:aB Tryz.prog 73=true:=by kernel_rfl
def yKm:aB Tryz.prog 74=true:=by kernel_rfl
def zDd:aB Tryz.prog 75=true:=by kernel_rfl
def zL8:aB Tryz.prog 76=true:=by kernel_rfl
def yGx:aB Tryz.prog 77=true:=by kernel_rfl
def yD0:aB Tryz.prog 79=true:=by kernel_rfl
def yDz:aB Tryz.prog 80=true:=by kernel_rfl
def yKl:aB Tryz.prog 84=true:=by kernel_rfl
def yKk:aB Tryz.prog 85=true:=by kernel_rfl
def zS2:aB Tryz.prog 87=true:=by kernel_rfl
def yKj:aB Tryz.prog 88=true:=by kernel_rfl
def yDy:aB Tryz.prog 89=true:=by kernel_rfl
def yDx:aB Tryz.prog 90=true:=by kernel_rfl
def yGw:aB Tryz.prog 91=true:=by kernel_rfl
def zZa:aB Tryz.prog 92=true:=by kernel_rfl
def yDw:aB Tryz.prog 93=true:=by kernel_rfl
def yKi:aB Tryz.prog 94=true:=by kernel_rfl
def yKh:aB Tryz.prog 95=true:=by kernel_rfl
def yGv:aB Tryz.prog 96=true:=by kernel_rfl
def zY9:aB Tryz.prog 97=true:=by kernel_rfl
def yKg:aB Tryz.prog 98=true:=by kernel_rfl
def yHj:aB Tryz.prog 100=true:=by kernel_rfl
def yHi:aB Tryz.prog 115=true:=by kernel_rfl
def yHh:aB Tryz.prog 124=true:=by kernel_rfl
def yHg:aB Tryz.prog 125=true:=by kernel_rfl
def yHf:aB Tryz.prog 126=true:=by kernel_rfl
def yHe:aB Tryz.prog 127=true:=by kernel_rfl
def yHd:aB Tryz.prog 128=true:=by kernel_rfl
def zS6:aB Tryz.prog 129=true:=by kernel_rfl
def yAk:aB Tryz.prog 134=true:=by kernel_rfl
def yAj:aB Tryz.prog 144=true:=by kernel_rfl
def yHc:aB Tryz.prog 145=true:=by kernel_rfl
def yHb:aB Tryz.prog 149=true:=by kernel_rfl
def yHa:aB Tryz.prog 150=true:=by kernel_rfl
def yG9:aB Tryz.prog 151=true:=by kernel_rfl
def yG8:aB Tryz.prog 154=true:=by kernel_rfl
def yG7:aB Tryz.prog 160=true:=by kernel_rfl
def qWq:aB Tryz.prog 161=true:=by kernel_rfl
def yG6:aB Tryz.prog 163=true:=by kernel_rfl
def yG5:aB Tryz.prog 166=true:=by kernel_rfl
attribute [push_cast] yDr zSo zLu zYx zYw zSn zNe zNf zSy zL1 zMp zDl zAl qZ8 zAe zAc zAb zAk zJq qZ7 qNe zAj zAd zAf zAg zAh zAi zAa qZ9 qXv qXu qXp qXq qXr qXs qXt qUc qT8 qUe qUd qUb qUa qHi qT9 qUf zLx zLw qYw qYx qYv qRc qRb qRa qH5 qH6 qT7 zHs zHr qM8 qQ8 zG9 qYz zHa zG8 zG7 zHb qY0 zEe zHe zV4 zPb yFu zV6 zN8 qY2 zN9 zN7 zN6 zN3 yBx qY3 zV7 zV5 zN2 zPc yBy zPa zHd zN5 zY1 zSr zSu zLv zSt yDu zY2 yDt zYz zSp zY0 yDs zHg qZc zHl zHk zC8 zC7 yB0 zWb zPu zWd zQw zJ0 zJz zW7 zJv zJy zQx zW8 zAr zJ1 zQz zAq zJx yAs zUg yAr zUe zM5
attribute [push_cast] bDj bDv bDk bAf bD8 and_true Option.isSome_some q8 bA2 i6 bAj p8 o7 bEs bCm bAy s7 y8 bne_self_eq_false beq_self_eq_true Bool.not_true bDc bAq bAs r8 Option.getD_some decide_true decide_false eq_self Bool.true_beq Bool.false_beq List.getD_cons_zero List.getD_cons_succ d8 m4 l9 l8 List.replicate_zero bEd List.all_toArray bEb List.all_nil Bool.and_self bEt bB4 Bool.and_false bEo c8 i8 z7 bAi u5 u4 zL6 Option.isSome_some Option.isSome_none beq_true beq_false bDc n8 bDz bDp Bool.or_true bD9 Bool.false_xor Bool.true_xor and_self beq_self_eq_true zCx s9 bCs x4
attribute [push_cast] zP9 zS zM zX zU zXt zKw zA7 zRj zRi zKv yB6 zJb zQf zQe zQd zQg zQh zQc zWt zJc zB2 zB3 yCf zKz qVn zKx qR1 zBe zBf zKy zBd zBa zK0 zA9 zBj zRo zBi qVm zBb zRm zRp zBh zRn zRl zK2 zRw zRt qVx zCl zCk zCm zCn zRu zRv zCa zCb zB9 zCc zCf zCh zCg zCi zXu zBy zK7 zB0 zBz zU6 zLe zCd zHx zK4 zXk qAx tQ qJo zHi qZi zRy zRz zR0 zCe zR1 zK8 zB1 zK9 zLa zLb zB4 zLd zB6 zLc zB5 zBw qVs qVt zB7 zB8 zK6 zBv zBx qVq qVr qVu qVv zLn zX1 zR5 qZd qUk zKu zA6 zLm zCs zRd zKp zCp zTl zMq zKq zA5 yCj zCq zCr qV0 qV1 zRx qZn qZp qZo qV3 zHy zH0 zHz zZp zWn zWo zHw qV4 zR6 zR9 zR7 zR8 zH9 qZy yCt zXy zXz zLh zLi zLj zLk zLl zDh qWw zX0 zR4 zZn zHo yKf yCq yGl yCp yCr zXs zRh yCz zSd yCg zRb zRa zQ9 zSl qL0 zWg zBn zPx qVp zWe zBl zHn qR3 zWf zBm zBr zBq zBp zBo zGe zEt zNq zNj zNk zNw qVi qPl wR sC vC rG qAk qAl qAm qE1 qGl qRw wK wD qEv qPn zQ6 qEw rV wE qB8 wJ wH wL wG vZ qAv wF vY qEu qEt qEx qEs qBr qBs qBt qJe qJf qJg qEh zSv yFi zZq zG3 qYo qJh qFa qCd qD7 qBn pC mL zXx zXw zR2 zXv yCl zRg zXq zKt yCm zXr zKj qVk zKh qRx zA1 zA2 zKi zA0 zAy zKl zA3 zQ8 zXj zKm zAz zKn zA4 zQ7 zKk zAx qVj zPk zPm zPo zPp qZf zPr qZg qZh qUp zHj qUq qTu qQ5 qYk zPn zQ5 zKc zQ4 zKd zXh zQ3 zXo zKs zRf zXp zAv zKb zAw zXc zQ1 zGk qTk qQ0 qX9 qX8 qTj qX6 qTg qYa qYb qQv qKf qQu qQt qH4 qM3 qM4 qQw qX7 qQx qM2 qM1 qMz qTi qM5 qAj qM0 qQy qYd qYc zHf qY7 qY4 zPe qY5 qY6 zRc qUz qZv qQ6 qT1 zXm zKr zRe zXn zAt zKa zAu zXb zQ0 zJ2 zJ3 qYr qQ7 qYp qM7 qT4 qT5 qYq qT3 qT0 qYs qT6 zG6 zNy qYt qT2 zG5 zG4 zMo zDk zBc qVw qR4 zK1 zLf zR3 zCo zLg qVy qQz qKh zBg yGq qVz
 zP0 zHt yAz zW6 zQv zJn zW0 zW2 zW1 zW4 zY5 zYs zSk zJo zW3 yCc yCd zFx zX2 qYf qTl zHp zY4 zY6 zLs zYr zYt zSj zL2 zDa zUl zNc zUm zDc ltT ltF leT leF eqT eqF fQ qD0 qXj zF0
attribute [push_cast] yHx yLn bb4 yHv yHu yHt yHs yHr yHq yHp yHo yHn yLm yLl yLk yHm yHl yLj yLi yLh yLg zZg zYp zYo zYn zYm zYl zYk zYj zYi zYh zYg zYf zYe zYd zYc zYb zYa zX9 zX8 zX7 yDm yDl yDk yDj yDe yDd yDc yDb yDa yC9 yC8 zC0 yC7 zSh zCz yC6 yC5 yC4 yC3 yC2 yC1 yCy yGg yGf yGe yKe it3 it5 yGb yGa yF9 yF8 yF7 yF6 yF5 yF4 zEs qAq qPg qU6 yF3 yF2 yKb yKa kt3 yJ8 kt4 yB7 yF1 yJ7 yJ6 kt5 yJ5 yJ4 yJ3 yJ2 yJ1 yJ0 kt9 yFt zV2 zV1 zV0 zVz zVy zVx zVw zVv zVu zVt zVs zVr zVq zVp zVo zVn zVm zVl zVk zVj zVi zVh zVg zVf zVe zVd yBw yBv yBu yBq yBp yBo yBn yBm yBl yBk yBj yBi yBh yBg yBf yBe yBd yBc yBb yBa yA9 yFq yFp yFo yFn yFm zD8 yAd yFl yA2 yJx yA1 yJw yJv yJu yJt yFj st9 yFg yFf yFe yFd yFc yFb yFa yE9 yE8 ui3 ui5 ui9 yE5 yE4 yE3 yE2 yE1 qNk qNj yE0 qMr yJo qJ0 yJn yJm qCw yJl yEz yEy yEx yEw yEv yEu yEt qSr yJj yEs yEr yJi zt3 yJg yJf yJe yJd yJc yJb yJa yH9 yH8 yH7
attribute [push_cast] zV3 yF zGo yG zMk yL zJk zQo zQp zQq zQr Option.getD_some n8 Option.map_none s7 qGl wD vZ vY wF qBr qBt qBs d8 m4 implies_true and_self bD8 and_true true_implies false_implies Bool.or_true bD9 bEt Bool.and_false bEs
end Go.Proofs.Y
namespace Go.Proofs.Y
open Go.Shelf
def Tryz.lays213_ren:Go.Shelf.Ren:=⟨fun|213=>78|265=>99|n=>n,fun|9=>9|3=>3|n=>n,fun|n=>n⟩
def Tryz.lays213:Go.Proofs.Lays.n213 Tryz.prog Tryz.lays213_ren:={
 mixed:=by kernel_rfl
 f213:=Tryz.func78.trans (congrArg some (by kernel_rfl))
 f265:=Tryz.func99.trans (congrArg some (by kernel_rfl))
 t3:=Tryz.underlying3
 a3:=Tryz.isAgg3
 z3:=Tryz.sizeOf3
 v3:=Tryz.zeroValue3
 t9:=Tryz.underlying9
 a9:=Tryz.isAgg9
 z9:=Tryz.sizeOf9
 v9:=Tryz.zeroValue9 }
open Go.RowKit in theorem Tryz.bytealg_CompareString (a b:Ba) (w:World) :
  Calls Tryz.prog 78 #[.string a,.string b] w fun e w'=>e=.returned (.int .i64 (Lib.compareBytes a.data.toList b.data.toList))∧w'=w:=Any.bytealg_CompareString Tryz.lays213 a b w
def Tryz.lays106_ren:Go.Shelf.Ren:=⟨fun|106=>58|213=>78|265=>99|n=>n,fun|9=>9|3=>3|n=>n,fun|n=>n⟩
def Tryz.lays106:Go.Proofs.Lays.n106 Tryz.prog Tryz.lays106_ren:={
 mixed:=by kernel_rfl
 f106:=Tryz.func58.trans (congrArg some (by kernel_rfl))
 f213:=Tryz.func78.trans (congrArg some (by kernel_rfl))
 f265:=Tryz.func99.trans (congrArg some (by kernel_rfl))
 t3:=Tryz.underlying3
 a3:=Tryz.isAgg3
 z3:=Tryz.sizeOf3
 v3:=Tryz.zeroValue3
 t9:=Tryz.underlying9
 a9:=Tryz.isAgg9
 z9:=Tryz.sizeOf9
 v9:=Tryz.zeroValue9 }
open Go.RowKit in theorem Tryz.strings_Compare (a b:Ba) (w:World) :
  Calls Tryz.prog 58 #[.string a,.string b] w fun e w'=>e=.returned (.int .i64 (Lib.compareBytes a.data.toList b.data.toList))∧w'=w:=Any.strings_Compare Tryz.lays106 a b w
def Tryz.lays217_ren:Go.Shelf.Ren:=⟨fun|217=>100|266=>135|n=>n,fun|9=>9|5=>5|3=>3|n=>n,fun|n=>n⟩
def Tryz.lays217:Go.Proofs.Lays.n217 Tryz.prog Tryz.lays217_ren:={
 mixed:=by kernel_rfl
 f217:=Tryz.func100.trans (congrArg some (by kernel_rfl))
 f266:=Tryz.func135.trans (congrArg some (by kernel_rfl))
 t3:=Tryz.underlying3
 a3:=Tryz.isAgg3
 z3:=Tryz.sizeOf3
 v3:=Tryz.zeroValue3
 t5:=Tryz.underlying5
 a5:=Tryz.isAgg5
 z5:=Tryz.sizeOf5
 v5:=Tryz.zeroValue5
 t9:=Tryz.underlying9
 a9:=Tryz.isAgg9
 z9:=Tryz.sizeOf9
 v9:=Tryz.zeroValue9 }
open Go.RowKit Go.Lib in theorem Tryz.stringslite_IndexByte (s:Ba) (c:Int) (w:World) :
  Calls Tryz.prog 100 #[.string s,.int .u8 c] w fun e w'=>e=.returned (.int .i64 (Lib.indexByte s.data.toList c.toNat.toUInt8))∧w'=w:=Any.stringslite_IndexByte Tryz.lays217 s c w
def Tryz.lays138_ren:Go.Shelf.Ren:=⟨fun|138=>144|195=>156|218=>158|143=>145|219=>80|217=>100|225=>101|224=>102|267=>103|266=>135|314=>136|n=>n,fun|9=>9|3=>3|4=>4|5=>5|0=>0|46=>122|146=>178|51=>151|n=>n,fun|1=>0|n=>n⟩
def Tryz.lays138:Go.Proofs.Lays.n138 Tryz.prog Tryz.lays138_ren:={
 mixed:=by kernel_rfl
 f138:=Tryz.func144.trans (congrArg some (by kernel_rfl))
 f143:=Tryz.func145.trans (congrArg some (by kernel_rfl))
 f195:=Tryz.func156.trans (congrArg some (by kernel_rfl))
 f217:=Tryz.func100.trans (congrArg some (by kernel_rfl))
 f218:=Tryz.func158.trans (congrArg some (by kernel_rfl))
 f219:=Tryz.func80.trans (congrArg some (by kernel_rfl))
 f224:=Tryz.func102.trans (congrArg some (by kernel_rfl))
 f225:=Tryz.func101.trans (congrArg some (by kernel_rfl))
 f266:=Tryz.func135.trans (congrArg some (by kernel_rfl))
 f267:=Tryz.func103.trans (congrArg some (by kernel_rfl))
 f314:=Tryz.func136.trans (congrArg some (by kernel_rfl))
 t0:=Tryz.underlying0
 a0:=Tryz.isAgg0
 z0:=Tryz.sizeOf0
 v0:=Tryz.zeroValue0
 t3:=Tryz.underlying3
 a3:=Tryz.isAgg3
 z3:=Tryz.sizeOf3
 v3:=Tryz.zeroValue3
 t4:=Tryz.underlying4
 a4:=Tryz.isAgg4
 z4:=Tryz.sizeOf4
 v4:=Tryz.zeroValue4
 t5:=Tryz.underlying5
 a5:=Tryz.isAgg5
 z5:=Tryz.sizeOf5
 v5:=Tryz.zeroValue5
 t9:=Tryz.underlying9
 a9:=Tryz.isAgg9
 z9:=Tryz.sizeOf9
 v9:=Tryz.zeroValue9
 t46:=Tryz.underlying122
 a46:=Tryz.isAgg122
 z46:=Tryz.sizeOf122
 v46:=Tryz.zeroValue122
 t51:=Tryz.underlying151
 a51:=Tryz.isAgg151
 z51:=Tryz.sizeOf151
 v51:=Tryz.zeroValue151
 t146:=Tryz.underlying178
 a146:=Tryz.isAgg178
 z146:=Tryz.sizeOf178
 v146:=Tryz.zeroValue178
 g1:=by kernel_rfl }
open Go.RowKit Go.Lib in theorem Tryz.strings_Count_one (s:Ba) (c:UInt8) (w:World) :
  Calls Tryz.prog 144 #[.string s,.string ⟨#[c]⟩] w fun e w'=>e=.returned (.int .i64 (Lib.countByte s.data.toList c))∧w'=w:=Any.strings_Count_one Tryz.lays138 s c w
end Go.Proofs.Y
namespace Go.Proofs.Y
open Go.Shelf
def Tryz.lays156_ren:Go.Shelf.Ren:=⟨fun|156=>94|165=>130|166=>131|169=>132|240=>152|241=>153|276=>164|277=>165|n=>n,fun|31=>84|9=>9|3=>3|4=>4|0=>0|20=>20|72=>170|76=>173|70=>168|37=>160|75=>172|127=>196|164=>213|5=>5|80=>175|n=>n,fun|n=>n⟩
def Tryz.lays156:Go.Proofs.Lays.n156 Tryz.prog Tryz.lays156_ren:={
 mixed:=by kernel_rfl
 f156:=Tryz.func94.trans (congrArg some (by kernel_rfl))
 f165:=Tryz.func130.trans (congrArg some (by kernel_rfl))
 f166:=Tryz.func131.trans (congrArg some (by kernel_rfl))
 f169:=Tryz.func132.trans (congrArg some (by kernel_rfl))
 f240:=Tryz.func152.trans (congrArg some (by kernel_rfl))
 f241:=Tryz.func153.trans (congrArg some (by kernel_rfl))
 f276:=Tryz.func164.trans (congrArg some (by kernel_rfl))
 f277:=Tryz.func165.trans (congrArg some (by kernel_rfl))
 t0:=Tryz.underlying0
 a0:=Tryz.isAgg0
 z0:=Tryz.sizeOf0
 v0:=Tryz.zeroValue0
 t3:=Tryz.underlying3
 a3:=Tryz.isAgg3
 z3:=Tryz.sizeOf3
 v3:=Tryz.zeroValue3
 t4:=Tryz.underlying4
 a4:=Tryz.isAgg4
 z4:=Tryz.sizeOf4
 v4:=Tryz.zeroValue4
 t9:=Tryz.underlying9
 a9:=Tryz.isAgg9
 z9:=Tryz.sizeOf9
 v9:=Tryz.zeroValue9
 t20:=Tryz.underlying20
 a20:=Tryz.isAgg20
 z20:=Tryz.sizeOf20
 v20:=Tryz.zeroValue20
 t31:=Tryz.underlying84
 a31:=Tryz.isAgg84
 z31:=Tryz.sizeOf84
 v31:=Tryz.zeroValue84
 t37:=Tryz.underlying160
 a37:=Tryz.isAgg160
 z37:=Tryz.sizeOf160
 v37:=Tryz.zeroValue160
 t70:=Tryz.underlying168
 a70:=Tryz.isAgg168
 z70:=Tryz.sizeOf168
 v70:=Tryz.zeroValue168
 t72:=Tryz.underlying170
 a72:=Tryz.isAgg170
 z72:=Tryz.sizeOf170
 v72:=Tryz.zeroValue170
 t75:=Tryz.underlying172
 a75:=Tryz.isAgg172
 z75:=Tryz.sizeOf172
 v75:=Tryz.zeroValue172
 t76:=Tryz.underlying173
 a76:=Tryz.isAgg173
 z76:=Tryz.sizeOf173
 v76:=Tryz.zeroValue173
 t127:=Tryz.underlying196
 a127:=Tryz.isAgg196
 z127:=Tryz.sizeOf196
 v127:=Tryz.zeroValue196
 t164:=Tryz.underlying213
 a164:=Tryz.isAgg213
 z164:=Tryz.sizeOf213
 v164:=Tryz.zeroValue213 }
def Tryz.Builder_Extra_156:Builder.Extra Tryz.prog Tryz.lays156_ren:={
 sizeBuilder:=by kernel_rfl
 liesBuilder:=by kernel_rfl
 t5:=Tryz.underlying5
 a5:=Tryz.isAgg5
 z5:=Tryz.sizeOf5
 v5:=Tryz.zeroValue5
 infoByte:=by kernel_rfl
 cellsByte:=by kernel_rfl
 sizeByte:=by kernel_rfl
 neB5:=by decide }
open Go.RowKit in theorem Tryz.strings_Join_none (a:Option Addr) (c:Nat) (sep:Ba) (w:World) :
  Calls Tryz.prog 94 #[.slice a 0 c,.string sep] w fun e w'=>e=.returned (.string ⟨#[]⟩)∧w'=w:=Any.strings_Join_none Tryz.lays156 Tryz.Builder_Extra_156 a c sep w
open Go.RowKit in theorem Tryz.strings_Join (bk o c:Nat) (xs:List Ba) (sep:Ba) (w:World) (dY:∀ (j:Nat) x,xs[j]?=some x→w.cell? ⟨bk,o + j,none⟩=some (.string x)) (hbk:bk < w.heap.size) (hN:xs.length≤140737488355328) (hcap:xs.length≤c) (hlen:(Lib.join (xs.map (·.data.toList)) sep.data.toList).length≤140737488355328) :
  Calls Tryz.prog 94 #[.slice (some ⟨bk,o,none⟩) xs.length c,.string sep] w fun e w'=>e=.returned (.string ⟨(Lib.join (xs.map (·.data.toList)) sep.data.toList).toArray⟩)∧Below w.heap.size w w':=Any.strings_Join Tryz.lays156 Tryz.Builder_Extra_156 bk o c xs sep w dY hbk hN hcap hlen
def Tryz.lays137_ren:Go.Shelf.Ren:=⟨fun|137=>126|217=>100|266=>135|n=>n,fun|9=>9|5=>5|3=>3|n=>n,fun|n=>n⟩
def Tryz.lays137:Go.Proofs.Lays.n137 Tryz.prog Tryz.lays137_ren:={
 mixed:=by kernel_rfl
 f137:=Tryz.func126.trans (congrArg some (by kernel_rfl))
 f217:=Tryz.func100.trans (congrArg some (by kernel_rfl))
 f266:=Tryz.func135.trans (congrArg some (by kernel_rfl))
 t3:=Tryz.underlying3
 a3:=Tryz.isAgg3
 z3:=Tryz.sizeOf3
 v3:=Tryz.zeroValue3
 t5:=Tryz.underlying5
 a5:=Tryz.isAgg5
 z5:=Tryz.sizeOf5
 v5:=Tryz.zeroValue5
 t9:=Tryz.underlying9
 a9:=Tryz.isAgg9
 z9:=Tryz.sizeOf9
 v9:=Tryz.zeroValue9 }
open Go.RowKit in theorem Tryz.strings_IndexByte (s:Ba) (c:Int) (w:World) :
  Calls Tryz.prog 126 #[.string s,.int .u8 c] w fun e w'=>e=.returned (.int .i64 (Lib.indexByte s.data.toList c.toNat.toUInt8))∧w'=w:=Any.strings_IndexByte Tryz.lays137 s c w
def Tryz.lays100_ren:Go.Shelf.Ren:=⟨fun|100=>95|207=>133|n=>n,fun|9=>9|4=>4|3=>3|n=>n,fun|n=>n⟩
def Tryz.lays100:Go.Proofs.Lays.n100 Tryz.prog Tryz.lays100_ren:={
 mixed:=by kernel_rfl
 f100:=Tryz.func95.trans (congrArg some (by kernel_rfl))
 f207:=Tryz.func133.trans (congrArg some (by kernel_rfl))
 t3:=Tryz.underlying3
 a3:=Tryz.isAgg3
 z3:=Tryz.sizeOf3
 v3:=Tryz.zeroValue3
 t4:=Tryz.underlying4
 a4:=Tryz.isAgg4
 z4:=Tryz.sizeOf4
 v4:=Tryz.zeroValue4
 t9:=Tryz.underlying9
 a9:=Tryz.isAgg9
 z9:=Tryz.sizeOf9
 v9:=Tryz.zeroValue9 }
open Go.RowKit Go.Lib in theorem Tryz.strings_HasSuffix (s p:Ba) (w:World) (hs:s.size≤9223372036854775807) :
  Calls Tryz.prog 95 #[.string s,.string p] w fun e w'=>e=.returned (.bool (Lib.hasSuffix s.data.toList p.data.toList))∧w'=w:=Any.strings_HasSuffix Tryz.lays100 s p w hs
def Tryz.laysNm216_ren:Go.Shelf.Ren:=⟨fun|16=>129|n=>n,fun|24=>84|9=>9|4=>4|n=>n,fun|n=>n⟩
def Tryz.laysNm216:Go.Proofs.Lays2.n16 Tryz.prog Tryz.laysNm216_ren:={
 mixed:=by kernel_rfl
 f16:=Tryz.func129.trans (congrArg some (by kernel_rfl))
 t4:=Tryz.underlying4
 a4:=Tryz.isAgg4
 z4:=Tryz.sizeOf4
 v4:=Tryz.zeroValue4
 t9:=Tryz.underlying9
 a9:=Tryz.isAgg9
 z9:=Tryz.sizeOf9
 v9:=Tryz.zeroValue9
 t24:=Tryz.underlying84
 a24:=Tryz.isAgg84
 z24:=Tryz.sizeOf84
 v24:=Tryz.zeroValue84
 i9:=by kernel_rfl }
open Go.RowKit Go.Lib in theorem Tryz.slices_Clone_string (b off n c:Nat) (zs:List Ba) (w:World) (hz:n≤zs.length) (hbig:n * 16≤140737488355328) (hc:∀ j,j < zs.length→w.cell? ⟨b,off + j,none⟩=some (.string (zs.getD j ByteArray.empty))) :
  Calls Tryz.prog 129 #[.slice (some ⟨b,off,none⟩) n c] w fun e w'=>∃ v',e=.returned v'∧w'.ownsRow w.heap.size 9 1 v' n ((zs.take n).map (Value.string))∧v'≠.slice none 0 0∧Below w.heap.size w w':=Any.slices_Clone_string Tryz.laysNm216 b off n c zs w hz hbig hc
open Go.RowKit Go.Lib in theorem Tryz.slices_Clone_string_nil (n c:Nat) (w:World) :
  Calls Tryz.prog 129 #[.slice none n c] w fun e w'=>e=.returned (.slice none 0 0)∧w'=w:=Any.slices_Clone_string_nil Tryz.laysNm216 n c w
open Go.RowKit Go.Lib in theorem Tryz.slices_Clone_string_zero (a:Addr) (c:Nat) (w:World) :
  Calls Tryz.prog 129 #[.slice (some a) 0 c] w fun e w'=>∃ v',e=.returned v'∧w'.ownsRow w.heap.size 9 1 v' 0 []∧v'≠.slice none 0 0∧Below w.heap.size w w':=Any.slices_Clone_string_zero Tryz.laysNm216 a c w
end Go.Proofs.Y
namespace Go.Tr
open Go Go.Eng Go.RowKit
def qNh (e:Ent):List FV:=[.v (.string e.1),.v (.int .i64 e.2.1),.v (.string e.2.2)]
def aG (t:List Ent):List (List FV):=t.map qNh
abbrev cY (n:Int × Ba):HV:=.agg [.v (.int .i64 n.1),.v (.string n.2)]
abbrev yDv (e:Ent):HV:=.agg [.v (.string e.1),.v (.int .i64 e.2.1),.v (.string e.2.2)]
def yV (t:List Ent):(aG t).length=t.length:=by simp [aG]
def yU (t:List Ent):Wid 3 (aG t)=True:=bEe (qC t fun _=>rfl)
def yW {t:List Ent} {i:Nat} {d:List FV} (h:i < t.length):(aG t).getD i d=[.v (.string t[i].1),.v (.int .i64 t[i].2.1),.v (.string t[i].2.2)]:=by unfold aG;rw [fQ h];rfl
def yT (t:List Ent):mD (aG t)=aG t:=by
 unfold mD aG;rw [bAm];apply x7;intro s _;simp [qNh,FV.old]
def dD (t:List Ent):∀ x ∈ aG t,∀ f ∈ x,FreshF f:=fun x hx f hf=>by
 obtain ⟨s,-,rfl⟩:=m6.1 hx;simp [qNh] at hf;rcases hf with rfl|rfl|rfl <;> exact .v _
def mY (t:List Ent) (p:Ba) (k:Int) (d:Ba):aG t ++ [[.v (.string p),.v (.int .i64 k),.v (.string d)]]=aG (t ++ [(p,k,d)]):=by simp [aG,qNh]
def qFc (s t:List Ent):aG s ++ aG t=aG (s ++ t):=by simp [aG]
def wQ (t:List Ent) (n:Nat):(aG t).take n=aG (t.take n):=by simp [aG,List.map_take]
def qCg (t:List Ent) (n:Nat):(aG t).drop n=aG (t.drop n):=by simp [aG,List.map_drop]
def bJ {st:aC} (n:Int × Ba):Lend st (cY n) (cY n):=.agg rfl fun j h1 h2=>by
 match j,h1 with
|0,_=>exact .v _
|1,_=>exact .v _
def qLe {st:aC} (e:Ent):Lend st (yDv e) (yDv e):=.agg rfl fun j h1 h2=>by
 match j,h1 with
|0,_=>exact .v _
|1,_=>exact .v _
|2,_=>exact .v _
def qCa {S:HS} {n:Int × Ba} {Q:HV→aC→Prop} (q:Q (cY n) []):qBf S (cY n) Q :=
 ⟨[],by simp,rfl,.agg fun x hx=>by simp at hx;rcases hx with rfl|rfl <;> exact .v _,fun id h=>by simp at h,by rw [HV.ren];simp only [d8,m4,HV.ren];exact q⟩
end Go.Tr
namespace Go.Proofs.Y
open Go Go.Eng Go.RowKit Go.Tr
def zL7 (a b:Ba):HFun Tryz.prog 58 [.v (.string a),.v (.string b)] (fun h st=>h=.v (.int .i64 (qH9 a b))):=by
 refine (pK fun w vs R=>?_).mono fun h st q=>q.1
 obtain ⟨r1,r2⟩:=R
 match vs,r1 with
|[x,y],_ =>
 have ha:=bL (r2 0 (by simp) (by simp))
 have hb:=bL (r2 1 (by simp) (by simp))
 simp only [l6,bAe] at ha hb;subst ha;subst hb;refine (Tryz.strings_Compare a b w).mono ?_;rintro e w' ⟨rfl,rfl⟩;exact kX ⟨rfl,Below.refl _ _⟩
def qMa (e:Ent) (p:Ba):HFun Tryz.prog 57 [yDv e,.v (.string p)] (fun h st=>h=.v (.int .i64 (qH9 e.1 p))):=by
 obtain ⟨q,k,d⟩:=e;refine bP (N:=9) Tryz.func57 rfl Tryz.ntmps57 Tryz.results57 (by simp) ?_
 refine goA 5 ?_;push_cast;refine cVt yKt (zL7 q p) (.cons (.v _) (.cons (.v _) .nil)) ?_;push_cast;exact aQ rfl
open Go.ChangeShapes Go.WideShapes Go.ChangeAt
def qLy {b:Nat} {f:FV} (h:Fit (.sl b [.str,.int .i64,.str]) f):∃ t:List Ent,f=.lst false (aG t)∧True:=by
 cases h with
|sl hb hl h =>
  rename_i xs
  have:∀ x ∈ xs,∃ e:Ent,x=qNh e:=fun x hx=>by
   have h1:=hl x hx
   match x,h1 with
  |[f0,f1,f2],_ =>
   have a:=h _ hx 0 (by simp) (by simp)
   have b:=h _ hx 1 (by simp) (by simp)
   have c:=h _ hx 2 (by simp) (by simp)
   simp only [l6,bAe] at a b c
   cases a;cases b;cases c
   exact ⟨(_,_,_),rfl⟩
  clear hb hl h
  induction xs with
 |nil=>exact ⟨[],rfl,trivial⟩
 |cons x r ih =>
   obtain ⟨e,rfl⟩:=this x (by simp)
   obtain ⟨t,ht,-⟩:=ih (fun y hy=>this y (by simp [hy]))
   simp only [FV.lst.injEq,bD8] at ht;exact ⟨e :: t,by rw [ht];rfl,trivial⟩
def qR6 (t:List Ent):t.length≤fw (.lst false (aG t))∧∀ e ∈ t,e.1.size≤fw (.lst false (aG t))∧e.2.2.size≤fw (.lst false (aG t)):=by
 rw [zSc]
 have:∀ t:List Ent,t.length≤((aG t).map fws).sum∧∀ e ∈ t,e.1.size≤((aG t).map fws).sum∧e.2.2.size≤((aG t).map fws).sum:=by
  intro t
  induction t with
 |nil=>exact ⟨a7 _,by simp⟩
 |cons x r ih =>
   have e1:((aG (x :: r)).map fws).sum=fws (qNh x) + ((aG r).map fws).sum:=by simp [aG]
   have e2:x.1.size + 1 + x.2.2.size≤fws (qNh x):=by simp [fws,qNh,yCx];omega
   rw [e1];refine ⟨by simp only [i6];omega,fun e he=>?_⟩
   rcases l3.1 he with rfl|he
   ·exact ⟨by omega,by omega⟩
   ·have:=ih.2 e he;exact ⟨by omega,by omega⟩
 obtain ⟨h1,h2⟩:=this t;exact ⟨by omega,fun e he=>by have:=h2 e he;exact ⟨by omega,by omega⟩⟩
end Go.Proofs.Y
namespace Go.Eng
open Go Go.RowKit
section
variable {P:Program} {N:Nat} {ops:List Oper} {n:Nat} {l:Env} {vs:Nat→Value}
end
section
variable {P:Program} {N:Nat} {Q:qBa} {l:Env} {w:World}
end
def inl (ids:List Nat) (i:Nat):Bool:=match ids with
|[]=>false
|k :: r=>k == i || inl r i
abbrev Aps:=List (Nat × Nat × List Nat)
def bad (W:Aps) (i:Nat):List Nat:=match W with
|[]=>[]
|(a,id,D) :: r=>bif a == i || inl D i then bad r i else id :: bad r i
def wat (W:Aps) (i:Nat):Option Nat:=match W with
|[]=>none
|(a,id,_) :: r=>bif a == i then some id else wat r i
def pL (W:Aps) (L:Nat→Bool) (id:Nat):Bool:=match W with
|[]=>false
|(a,i,_) :: r=>(L a && i == id) || pL r L id
abbrev Acc:=List (Nat × Nat × Row)
section
variable {P:Program} {N:Nat} {c:Ctx} {S T:HS} {Q:dP} {l:Env} {look:Nat→Option Value} {w w':World} {ρ:Nat→Value} {xs:Nat→List Value}
structure HeadA (P:Program) (N:Nat) (ops:List Oper) (E0:aT) (st st0:aC) (W:Aps) (hs:Nat→HV) (acc:Acc) (i:Nat) (o:Oper):Prop where
  lt:jP N o.dst
  head:∃ T:aT,FrOk ops E0 hs i T∧(∀ t h,hlk T t=some h→t ∈ iV (cJ ops) o.guard ++ cH o.op)∧(∀ t h,hlk T t=some h→h.kill (inl (bad W i))=h) ∧
    ((wat W i=none∧∀ (c:Ctx) (l:Env) (w:World) (ρ:Nat→Value) (xs:Nat→List Value),Good c ⟨T,st0⟩ (lk l) w ρ xs →
      ∃ b,gd l (cJ ops) o.guard (·=b)∧(b=true→bH P l o.op o.type w (fun u w'=>RepH w' (c.A ρ st0) c.n0 ρ u (hs i)∧Below w.heap.size w w') (fun u w'=>RepH w' (c.A ρ st0) c.n0 ρ u (hs i)∧Below w.heap.size w w'))∧(b=false→hs i=.v undef)) ∨
     ∃ id d nw ty sz els cnd S' nw' ty' sz' els',wat W i=some id∧o.guard=none∧o.dst=some d∧hs i=.own id∧rlk st id=some (.sl nw ty sz els)∧hop P ⟨T,[(id,.sl nw ty sz els)]⟩ (rU o.dst) o.op=.go cnd (.own id) S'∧cnd ∧
       rlk S'.st id=some (.sl nw' ty' sz' els')∧(d,id,.sl nw' ty' sz' els') ∈ acc)
theorem RowOk.ctx {A:Nat→Prop} {c c':Ctx} {id:Nat} {r:Row} {ys:List Value} (h:RowOk w A c ρ id r ys) (e1:c'.n0=c.n0) (e2:c'.B=c.B) (hn:∀ b,(ρ id).ownBlock=some b→c'.w0.heap.size≤b∨c'.T b):RowOk w A c' ρ id r ys:=by
  refine ⟨h.own,?_,fun b hb=>⟨hn b hb,fun e=>by rw [e1];exact (h.new b hb).2 e⟩⟩
  have:=h.rep
  cases r with
 |sl=>rw [e1];exact this
 |bx=>rw [e1,e2];exact this
 |hl=>rw [e1];exact this
def lkB (l:Env) (vs:Nat→Value) (k:Nat):Option Value:=if k % 2=0 then lk l (k / 2) else some (vs (k / 2))
structure Jn (c:Ctx) (S:HS) (W:Aps) (acc:Acc) (hs:Nat→HV) (n:Nat) (l:Env) (L:Nat→Bool) (vs:Nat→Value) (w:World) (ρ:Nat→Value) (xs:Nat→List Value) (E:aT) (st':aC):Prop where
  good:Good c ⟨E,st'⟩ (lkB l vs) w ρ xs
  env:∀ k x,hlk S.env k=some x→hlk E (2 * k)=some (x.kill (pL W L))
  hds:∀ j,j < n→L j=true→hlk E (2 * j + 1)=some (match wat W j with|some id=>.own id|none=>(hs j).kill (pL W L))
  rows:∀ k r,rlk S.st k=some r→(pL W L k=false→rlk st' k=some (r.kill (pL W L)))∧∀ d row,(d,k,row) ∈ acc→pL W L k=true→rlk st' k=some row
  none:∀ k,rlk S.st k=none→rlk st' k=none
theorem zMv {st st':aC} (h:∀ k r,rlk st k=some r→∃ r',rlk st' k=some r') (b:Nat) (hb:fR ρ st b):fR ρ st' b:=by
  obtain ⟨i,r,h1,h2⟩:=hb;obtain ⟨r',h3⟩:=h i r h1;exact ⟨i,r',h3,h2⟩
theorem yLr {c c':Ctx} {st st':aC} (h0:∀ b,c'.A0 b↔c.A ρ st' b∧¬ fR ρ st b) (h1:∀ b,fR ρ st b→fR ρ st' b) (b:Nat):c'.A ρ st b↔c.A ρ st' b:=by
  constructor
  · rintro (h|h)
    · exact ((h0 b).1 h).1
    · exact .inr (h1 b h)
  · intro h
    by_cases e:fR ρ st b
    · exact .inr e
    · exact .inl ((h0 b).2 ⟨h,e⟩)
theorem Good.sub {E T : aT} {st st1 : aC} {look1 : Nat → Option Value} (G : Good c ⟨E, st⟩ look w ρ xs) (h1 : ∀ k r, rlk st1 k = some r → ∃ r', rlk st k = some r' ∧ (∀ ys, RowOk w (c.A ρ st) c ρ k r' ys → RowOk w (c.A ρ st) c ρ k r ys))
    (hT:∀ t x,hlk T t=some x→∃ v,look1 t=some v∧RepH w (c.A ρ st) c.n0 ρ v x) :
    Good ⟨w,fR ρ st1,fun b=>c.A ρ st b∧¬ fR ρ st1 b,c.n0,l5 c.hn G.kept.size,c.B⟩ ⟨T,st1⟩ look1 w ρ xs ∧
      (∀ b,Ctx.A ⟨w,fR ρ st1,fun b=>c.A ρ st b∧¬ fR ρ st1 b,c.n0,l5 c.hn G.kept.size,c.B⟩ ρ st1 b↔c.A ρ st b):=by
  have hO:∀ b,fR ρ st1 b→fR ρ st b:=zMv fun k r hr=>by obtain ⟨r',e,_⟩:=h1 k r hr;exact ⟨r',e⟩
  have hA:=fun b=>yLr (ρ:=ρ) (c:=c) (c':=⟨w,fR ρ st1,fun b=>c.A ρ st b∧¬ fR ρ st1 b,c.n0,l5 c.hn G.kept.size,c.B⟩) (st:=st1) (st':=st) (fun _=>Iff.rfl) hO b
  refine ⟨⟨fun id r hr=>?_,fun i j r s b hne hi hj hbi hbj=>?_,fun k x hk=>?_,Kept.refl _ _,fun b hb=>⟨?_,hb.2⟩⟩,hA⟩
  · obtain ⟨r',e,f⟩:=h1 id r hr
    exact ((f _ (G.rows id r' e)).up (a7 _) (fun _ _ _=>rfl) (fun b _=>(hA b).1) (fun _ _=>rfl)).ctx rfl rfl fun b hb=>.inr ⟨id,r,hr,hb⟩
  · obtain ⟨r',e,_⟩:=h1 i r hi
    obtain ⟨s',e',_⟩:=h1 j s hj;exact G.apart i j r' s' b hne e e' hbi hbj
  · obtain ⟨v,a,b⟩:=hT k x hk
    exact ⟨v,a,b.up (a7 _) (fun _ _ _=>rfl) (fun b _=>(hA b).1) (a7 _)⟩
  · rcases hb.1 with h0|⟨i,r,hi,hbi⟩
    · have:=(G.a0 b h0).1;have:=G.kept.size;show b < w.heap.size;omega
    · exact G.lt hi hbi
end
open Go.Maps
abbrev MTab:=List UInt8→Option Value
def qLs (v:Value):Option (DataW Value × List MemPlace):=some (.held v,[])
structure Reads (D:DataW Value) (M:MTab):Prop where
 map:IsMap D
 has:∀ s,Maps.has D (.string s)=(M s).isSome
 at':∀ s z,D.atKey (.string s) z=match M s with
 |some v=>.held v
 |none=>z
def MTab.put (M:MTab) (s:List UInt8) (v:Value):MTab:=fun t=>if t=s then some v else M t
inductive MO where
|map (r:Nat) (k:TypeId) (n:Nat) (M:MTab)
|itr (it r:Nat) (k:TypeId) (n:Nat) (M:MTab) (left:List UInt8→Bool) (cnt:Nat) (cur:Option (Ba × Value))
|dfr (D:Nat)
|opn (r:Nat) (t k:TypeId) (n:Nat) (M:MTab) (s:List UInt8) (e:Value)
def MO.bs:MO→List Nat
|.map r _ _ _=>[r]
|.itr it r _ _ _ _ _ _=>[it,r]
|.dfr D=>[D]
|.opn r _ _ _ _ _ _=>[r]
def yGu (P:Program) (w:World) (it:Nat):Option (Ba × Value)→Prop
|none=>True
|some (s,v)=>(Instr.entry (.pointer (some ⟨it,0,none⟩))).run P w=.ok (.tuple #[.string s,v]) w
def MO.ok (P:Program) (w:World):MO→Prop
|.map r k n M=>∃ D:DataW Value,w.ownsMap P k qLs r n D∧Reads D M
|.itr it r k n M left cnt cur=>(∃ (D:DataW Value) (lf:Lit→Bool),w.ranges P k qLs r it n D lf cnt∧Reads D M∧∀ s,lf (.string s)=left s)∧yGu P w it cur
|.dfr D=>w.heap[D]?=some (.deferred (some []))
|.opn r t k n M s e=>(∃ es cl,w.heap[r]?=some (.map es cl))∧∀ (w2:World) (v:Value),w2.heap[r]?=w.heap[r]?→∃ w3,(Instr.entryStore t (.map (some r)) e v).run P w2=.ok () w3∧w2.grownBy w3 (some r)∧∃ D:DataW Value,w3.ownsMap P k qLs r (n + 1) D∧Reads D (M.put s v)
abbrev MS:=List MO
structure MsOk (P:Program) (c:Ctx) (w:World) (g:MS):Prop where
 ok:∀ (i:Nat) (m:MO),g[i]?=some m→m.ok P w
 nd:∀ (i j:Nat) (m m':MO) (b:Nat),i≠j→g[i]?=some m→g[j]?=some m'→b ∈ m.bs→b ∈ m'.bs→False
 foot:∀ (i:Nat) (m:MO) (b:Nat),g[i]?=some m→b ∈ m.bs→c.w0.heap.size≤b∨c.T b
def dullB (w:World) (b:Nat):Prop:=(∃ es cl,w.heap[b]?=some (.map es cl))∨(∃ a s e d,w.heap[b]?=some (.mapIter a s e d))∨∃ x,w.heap[b]?=some (.deferred x)
def dullB.lt {w:World} {b:Nat} (h:dullB w b):b < w.heap.size:=by
 rcases h with ⟨_,_,h⟩|⟨_,_,_,_,h⟩|⟨_,h⟩ <;> exact (y4.1 h).1
def dullB.cell {w:World} {b o:Nat} {u:Value} (h:dullB w b) (hu:w.cell? ⟨b,o,none⟩=some u):False:=by
 rcases h with ⟨_,_,h⟩|⟨_,_,_,_,h⟩|⟨_,h⟩ <;> · simp only [World.cell?,h] at hu;cases hu
def MO.dull {P:Program} {w:World} {m:MO} (h:m.ok P w):∀ b ∈ m.bs,dullB w b:=by
 cases m with
|map r k n M =>
  obtain ⟨D,⟨es,cl,h1,_⟩,_⟩:=h;intro b hb;simp only [MO.bs,q6] at hb;subst hb;exact .inl ⟨es,cl,h1⟩
|itr it r k n M left cnt cur =>
  obtain ⟨⟨D,lf,⟨es,cl,since,seen,c0,h1,_,_,_,h2,_⟩,_⟩,_⟩:=h;intro b hb;simp only [MO.bs,l3,bBf,bDu] at hb
  rcases hb with rfl|rfl
  ·exact .inr (.inl ⟨_,_,_,_,h2⟩)
  ·exact .inl ⟨es,cl,h1⟩
|dfr D =>
  intro b hb;simp only [MO.bs,q6] at hb;subst hb;exact .inr (.inr ⟨_,h⟩)
|opn r t k n M s e =>
  obtain ⟨⟨es,cl,h⟩,_⟩:=h;intro b hb;simp only [MO.bs,q6] at hb;subst hb;exact .inl ⟨es,cl,h⟩
def zC6 {P:Program} {w w':World} {it r:Nat} {a:Nat} {e:Array Nat} {d:Nat} {es:Array MapEntry} {cl:Nat} {v:Value} (h1:w.heap[it]?=some (.mapIter (some r) a e d)) (h2:w.heap[r]?=some (.map es cl))
  (e1:w'.heap[it]?=w.heap[it]?) (e2:w'.heap[r]?=w.heap[r]?) (h:(Instr.entry (.pointer (some ⟨it,0,none⟩))).run P w=.ok v w):(Instr.entry (.pointer (some ⟨it,0,none⟩))).run P w'=.ok v w':=by
 rw [h1] at e1;rw [h2] at e2
 have key:∀ (u:World),u.heap[it]?=some (.mapIter (some r) a e d)→u.heap[r]?=some (.map es cl)→(Instr.entry (.pointer (some ⟨it,0,none⟩))).run P u=(match e.back? with
  |some stamp=>if cl != d then (Instr.entry (.pointer (some ⟨it,0,none⟩))).run P u else match es.find? (·.born == stamp) with
   |some x=>.ok (.tuple #[x.key,x.val]) u
   |none=>(Instr.entry (.pointer (some ⟨it,0,none⟩))).run P u
  |none=>(Instr.entry (.pointer (some ⟨it,0,none⟩))).run P u):=fun u u1 u2=>by
  split
  ·rename_i stamp hs;split
   ·rfl
   ·rename_i hc;split
    ·rename_i x hx;simp only [Instr.entry,getObj,s8,Sem.run,u1,u2,Result.andThen,hs,hx,b7 hc];rfl
    ·rfl
  ·rfl
 have bad:∀ (u:World),u.heap[it]?=some (.mapIter (some r) a e d)→u.heap[r]?=some (.map es cl)→(e.back?=none∨(cl != d)=true∨∃ stamp,e.back?=some stamp∧es.find? (·.born == stamp)=none)→∀ v u',(Instr.entry (.pointer (some ⟨it,0,none⟩))).run P u≠.ok v u':=by
  rintro u u1 u2 hb v u' hr;simp only [Instr.entry,getObj,s8,Sem.run,u1,u2,Result.andThen] at hr
  rcases hb with hb|hb|⟨st,hb,hf⟩
  ·rw [hb] at hr;cases hr
  ·cases hbk:e.back? with
  |none=>rw [hbk] at hr;cases hr
  |some s=>rw [hbk] at hr;simp only [getObj,s8,Sem.run,u2,Result.andThen] at hr;rw [g8 hb] at hr;cases hr
  ·rw [hb] at hr;simp only [getObj,s8,Sem.run,u2,Result.andThen] at hr
   by_cases hc:(cl != d)=true
   ·rw [g8 hc] at hr;cases hr
   ·rw [b7 hc,hf] at hr;cases hr
 cases hs:e.back? with
|none=>exact absurd h (bad w h1 h2 (.inl hs) _ _)
|some stamp =>
  by_cases hc:(cl != d)=true
  ·exact absurd h (bad w h1 h2 (.inr (.inl hc)) _ _)
  ·cases hf:es.find? (·.born == stamp) with
  |none=>exact absurd h (bad w h1 h2 (.inr (.inr ⟨stamp,hs,hf⟩)) _ _)
  |some x =>
    rw [key w h1 h2,hs] at h;rw [key w' e1 e2,hs];simp only [b7 hc,hf] at h ⊢
    injection h with h3 h4
    rw [h3]
def MO.ok_block {P:Program} {w w':World} {m:MO} (h:m.ok P w) (hb:∀ b ∈ m.bs,w'.heap[b]?=w.heap[b]?):m.ok P w':=by
 cases m with
|map r k n M =>
  obtain ⟨D,⟨es,cl,h1,h2⟩,h3⟩:=h;exact ⟨D,⟨es,cl,by rw [hb r (by simp [MO.bs])];exact h1,h2⟩,h3⟩
|itr it r k n M left cnt cur =>
  obtain ⟨⟨D,lf,⟨es,cl,since,seen,c0,h1,h2,h3,h4,h5,h6⟩,h7⟩,h8⟩:=h
  have b1:=hb it (by simp [MO.bs])
  have b2:=hb r (by simp [MO.bs])
  refine ⟨⟨D,lf,⟨es,cl,since,seen,c0,b2.trans h1,h2,h3,h4,b1.trans h5,h6⟩,h7⟩,?_⟩
  cases cur with
 |none=>trivial
 |some p=>exact zC6 h5 h1 b1 b2 h8
|dfr D=>exact (hb D (by simp [MO.bs])).trans h
|opn r t k n M s e =>
  obtain ⟨⟨es,cl,h1⟩,h2⟩:=h
  have b1:=hb r (by simp [MO.bs])
  exact ⟨⟨es,cl,b1.trans h1⟩,fun w2 v hw2=>h2 w2 v (hw2.trans b1)⟩
def MsOk.dull {P:Program} {c:Ctx} {w:World} {g:MS} (M:MsOk P c w g) {i:Nat} {m:MO} {b:Nat} (hi:g[i]?=some m) (hb:b ∈ m.bs):dullB w b:=MO.dull (M.ok i m hi) b hb
def MsOk.block {P:Program} {c:Ctx} {w w':World} {g:MS} (M:MsOk P c w g) (hb:∀ b,dullB w b→(c.w0.heap.size≤b∨c.T b)→w'.heap[b]?=w.heap[b]?):MsOk P c w' g :=
 ⟨fun i m hi=>MO.ok_block (M.ok i m hi) fun b hb'=>hb b (M.dull hi hb') (M.foot i m b hi hb'),M.nd,M.foot⟩
def getElem?_set' {α:Type} {l:List α} {i j:Nat} {a x:α} (h:(l.set i a)[j]?=some x):(j=i∧x=a)∨(j≠i∧l[j]?=some x):=by
 rw [bCe] at h;split at h
 ·rename_i e;split at h
  ·exact .inl ⟨e.symm,(q9 h).symm⟩
  ·cases h
 ·rename_i e;exact .inr ⟨fun e'=>e e'.symm,h⟩
def MsOk.set {P:Program} {c:Ctx} {w w':World} {g:MS} (M:MsOk P c w g) {i:Nat} {m m':MO} (hi:g[i]?=some m) (hok:m'.ok P w') (hbs:∀ b ∈ m'.bs,b ∈ m.bs∨w.heap.size≤b) (hs:c.w0.heap.size≤w.heap.size)
  (hoth:∀ b,b < w.heap.size→b ∉ m.bs→w'.heap[b]?=w.heap[b]?):MsOk P c w' (g.set i m'):=by
 refine ⟨fun j x hj=>?_,fun j1 j2 x1 x2 b hne h1 h2 hb1 hb2=>?_,fun j x b hj hb=>?_⟩
 ·rcases getElem?_set' hj with ⟨rfl,rfl⟩|⟨hne,hj⟩
  ·exact hok
  ·exact MO.ok_block (M.ok j x hj) fun b hb=>hoth b (M.dull hj hb).lt fun hbm=>M.nd j i x m b hne hj hi hb hbm
 ·rcases getElem?_set' h1 with ⟨e1,f1⟩|⟨n1,g1⟩ <;> rcases getElem?_set' h2 with ⟨e2,f2⟩|⟨n2,g2⟩
  ·exact hne (e1.trans e2.symm)
  ·subst e1 f1
   rcases hbs b hb1 with h|h
   ·exact M.nd j1 j2 m x2 b hne hi g2 h hb2
   ·have:=(M.dull g2 hb2).lt;omega
  ·subst e2 f2
   rcases hbs b hb2 with h|h
   ·exact M.nd j1 j2 x1 m b hne g1 hi hb1 h
   ·have:=(M.dull g1 hb1).lt;omega
  ·exact M.nd j1 j2 x1 x2 b hne g1 g2 hb1 hb2
 ·rcases getElem?_set' hj with ⟨rfl,rfl⟩|⟨hne,hj⟩
  ·rcases hbs b hb with h|h
   ·exact M.foot _ m b hi h
   ·exact .inl (by omega)
  ·exact M.foot j x b hj hb
section
variable {P:Program} {N:Nat} {c:Ctx} {S:HS} {g:MS} {look:Nat→Option Value} {w w':World} {ρ:Nat→Value} {xs:Nat→List Value}
theorem qK3 (G:Good c S look w ρ xs) {b:Nat} (h:dullB w b):¬ fR ρ S.st b:=by
 rintro ⟨i,s,hi,hb⟩
 rcases (G.rows i s hi).own.2 with ⟨h2,_⟩|⟨g',cap,cur,h2,_,h3,_⟩
 ·rw [h2] at hb;cases hb
 ·rw [h2] at hb;simp only [Value.ownBlock,a6] at hb;subst hb
  rcases h with ⟨_,_,h⟩|⟨_,_,_,_,h⟩|⟨_,h⟩ <;> (rw [h] at h3;cases h3)
theorem RepF.upm {A:Nat→Prop} {n0:Nat} {v:Value} {x:FV} (h:RepF w A n0 v x) (hs:w.heap.size≤w'.heap.size) (hb:∀ b o u,w.cell? ⟨b,o,none⟩=some u→w'.cell? ⟨b,o,none⟩=some u):RepF w' A n0 v x:=by
 induction h with
|v x=>exact .v x
|lst sz vals hn hc hm hnil hsz ha h1 hr ih =>
  refine .lst sz vals hn hc hm hnil hsz (fun h0=>?_) h1 (fun i k hi hk=>ih i k hi hk)
  obtain ⟨b,off,ea,h2,h3,h4,h5⟩:=ha h0;exact ⟨b,off,ea,h2,by omega,h4,fun i k hi hk=>hb _ _ _ (h5 i k hi hk)⟩
theorem RepH.upm {A:Nat→Prop} {n0:Nat} {v:Value} {x:HV} (h:RepH w A n0 ρ v x) (hs:w.heap.size≤w'.heap.size) (hb:∀ b o u,w.cell? ⟨b,o,none⟩=some u→w'.cell? ⟨b,o,none⟩=some u):RepH w' A n0 ρ v x:=by
 induction h with
|v x=>exact .v x
|lst h=>exact .lst (h.upm hs hb)
|own id h1=>exact .own id h1
|vw sz off m h a b d x e=>exact .vw sz off m h a b d x e
|ptr sz i k h=>exact .ptr sz i k h
|elt h h1 h2=>exact .elt (h.upm hs hb) h1 h2
|agg hn h1 h ih=>exact .agg hn h1 ih
|tup hn h ih=>exact .tup hn ih
|junk v=>exact .junk v
theorem Good.upm (G:Good c S look w ρ xs) (hs:w.heap.size≤w'.heap.size) (hb:∀ b o u,w.cell? ⟨b,o,none⟩=some u→w'.cell? ⟨b,o,none⟩=some u) (ho:∀ b,fR ρ S.st b→w'.heap[b]?=w.heap[b]?) (hk:Kept c.T c.w0 w'):Good c S look w' ρ xs:=by
 refine ⟨fun i s hi=>?_,G.apart,fun t y hy=>?_,hk,G.a0⟩
 ·have R:=G.rows i s hi
  refine ⟨R.own.block fun b hb'=>ho b ⟨i,s,hi,hb'⟩,?_,R.new⟩
  have rp:=R.rep
  cases s with
 |sl nw ty sz els =>
   refine ⟨rp.1,fun p q hp hq=>?_⟩
   obtain ⟨u,u1,u2,u3⟩:=rp.2 p q hp hq;exact ⟨u,u1,u2,u3.upm hs hb⟩
 |bx nw ty cells =>
   refine ⟨rp.1,fun q hq=>?_⟩
   obtain ⟨u,u1,u2,u3⟩:=rp.2 q hq;exact ⟨u,u1,u2,u3.upm hs hb⟩
 |hl nw ty sz els =>
   refine ⟨rp.1,fun p q hp hq=>?_⟩
   obtain ⟨u,u1,u2,u3⟩:=rp.2 p q hp hq;exact ⟨u,u1,u2,u3.upm hs hb⟩
 ·obtain ⟨v,h1,h2⟩:=G.env t y hy;exact ⟨v,h1,h2.upm hs hb⟩
theorem Good.turn (G:Good c S look w ρ xs) {b:Nat} (hd:dullB w b) (hf:c.w0.heap.size≤b∨c.T b) (hg:w.grownBy w' (some b)):Good c S look w' ρ xs:=by
 have hno:=qK3 G hd
 refine G.upm hg.size (fun a o u hu=>?_) (fun a ha=>hg.block a ?_ fun e=>hno ((q9 e) ▸ ha)) ?_
 ·have hne:a≠b:=fun e=>hd.cell (o:=o) (u:=u) (e ▸ hu)
  rw [gU (hg.block a (bDo w ⟨a,o,none⟩ hu) fun e=>hne (q9 e))];exact hu
 ·obtain ⟨i,s,h5,h6⟩:=ha;exact G.lt h5 h6
 ·exact G.kept.trans (T':=fun a=>a=b) ⟨hg.os,hg.tape,hg.output,hg.size,fun a ha hne=>hg.block a ha fun e=>hne (q9 e)⟩ fun a ha e=>by
   subst e
   rcases hf with h|h
   ·omega
   ·exact h
theorem qNn (I:Inv c S look w) (M:MsOk P c w g):∃ c1:Ctx,Inv c1 S look w∧∀ S' look' w',Inv c1 S' look' w'→Inv c S' look' w'∧MsOk P c w' g:=by
 obtain ⟨ρ,xs,G⟩:=I;obtain ⟨G1,hA⟩:=G.sub (T:=S.env) (st1:=S.st) (look1:=look) (fun k r hr=>⟨r,hr,fun _ h=>h⟩) (fun t x hx=>G.env t x hx)
 refine ⟨_,⟨ρ,xs,G1⟩,fun S' look' w' ⟨ρ',xs',G'⟩=>⟨⟨ρ',xs',?_⟩,M.block fun b hb _=>G'.kept.block b hb.lt (qK3 G hb)⟩⟩
 have hO:∀ b,fR ρ S.st b→c.w0.heap.size≤b∨c.T b:=fun b ⟨i,s,hi,hb⟩=>((G.rows i s hi).new b hb).1
 have hAA:∀ b,c.A ρ' S'.st b→Ctx.A ⟨w,fR ρ S.st,fun b=>c.A ρ S.st b∧¬ fR ρ S.st b,c.n0,l5 c.hn G.kept.size,c.B⟩ ρ' S'.st b:=by
  rintro b (h0|h0)
  ·refine .inl ⟨.inl h0,fun ho=>?_⟩
   have h1:=G.a0 b h0
   rcases hO b ho with h2|h2
   ·omega
   ·exact h1.2 h2
  ·exact .inr h0
 refine ⟨fun i s hi=>?_,G'.apart,fun t y hy=>?_,G.kept.trans G'.kept fun b hb hT=>?_,G.a0⟩
 ·have R:=G'.rows i s hi
  refine (R.up (a7 _) (fun _ _ _=>rfl) (fun b _=>hAA b) (fun _ _=>rfl)).ctx rfl rfl fun b hb=>?_
  rcases (R.new b hb).1 with h1|h1
  ·have h1:w.heap.size≤b:=h1
   have:=G.kept.size
   exact .inl (by omega)
  ·exact hO b h1
 ·obtain ⟨v,h1,h2⟩:=G'.env t y hy;exact ⟨v,h1,h2.up (a7 _) (fun _ _ _=>rfl) (fun b _=>hAA b) (a7 _)⟩
 ·rcases hO b hT with h1|h1
  ·omega
  ·exact h1
theorem qSo (F:Fr N) {all more:List Oper} {Qa:Exit→Act→World→Prop} {K:Env→World→Prop} (hK:∀ l w,cC N l=true→K l w→wpListIn (FW F.ds.2) 0 P all.toArray Qa more (mk F l) w) :
  ∀ (pre:List Oper) (l:Env) (w:World),cC N l=true→VC P N (cJ all) K pre l w→wpListIn (FW F.ds.2) 0 P all.toArray Qa (pre ++ more) (mk F l) w
|[],l,w,hk,h=>hK l w hk h
|o :: rest,l,w,hk,h=>by
  have h:=qCc F hk h
  obtain ⟨hd,h⟩:=h
  have hk':∀ v,cC N (stp o.dst v l)=true:=fun v=>jX hk (fun k e=>by rw [e] at hd;exact hd)
  rw [u5];unfold wpListIn
  cases hw:Region.wanted o (yielded all.toArray (mk F l).tmps)
  ·rw [hw] at h;simp only [qDr] at h;rw [b7 (by simp),uK]
   exact ⟨fun _ _=>trivial,qSo F hK rest _ _ (hk' _) h⟩
  ·rw [hw] at h;simp only [qDr] at h;rw [g8 rfl];refine (fD ((oV (fun x X hx=>qL F hk hx) h).mono fun v w' hv=>?_))
   rw [uK];exact qSo F hK rest _ _ (hk' _) hv
end
abbrev uF:=Exit→MS→HS→Prop
def mQ (P:Program) (N:Nat) (c:Ctx) (ds:List Deferred × Option Nat) (Q:uF):Exit→Act→World→Prop:=qZw N ds (fun e l w=>∃ S g,Inv c S (lk l) w∧MsOk P c w g∧Q e g S)
def HVM (P:Program) (N:Nat) (all:List Oper) (Q:uF) (ops:List Oper) (g:MS) (S:HS):Prop :=
 ∀ (c:Ctx) (F:Fr N) (l:Env) (w:World),cC N l=true→Inv c S (lk l) w→MsOk P c w g→wpListIn (FW F.ds.2) 0 P all.toArray (mQ P N c F.ds Q) ops (mk F l) w
def gOK (e:aT) (ds:List (Option Nat)) (g:Option (Nat × Bool)):Bool:=match hG e ds g with
|.yes=>true
|.ask _ b want=>b == want
|_=>false
section
variable {P:Program} {N:Nat} {all more ops:List Oper} {Q:uF} {g:MS} {S:HS}
theorem qJw (h:Q .normal g S):HVM P N all Q [] g S:=fun c F l w hk I M=>by
 unfold wpListIn;exact ⟨F,l,rfl,rfl,hk,S,g,I,M,h⟩
theorem qCs (n:Nat) (h:∀ K1:HS→Prop,(∀ S',HVM P N all Q (ops.drop n) g S'→K1 S')→HV2 P N (cJ all) K1 (ops.take n) S):HVM P N all Q ops g S:=fun c F l w hk I M=>by
 obtain ⟨c1,I1,back⟩:=qNn I M
 have h1:=uX (c:=c1) _ S l w (h _ fun _ h=>h) I1
 have:=qSo F (all:=all) (more:=ops.drop n) (Qa:=mQ P N c F.ds Q) (fun l1 w1 hk1 hK1=>by
  obtain ⟨S',I2,hK⟩:=hK1;obtain ⟨I3,M3⟩:=back S' _ _ I2;exact hK c F l1 w1 hk1 I3 M3) _ l w hk h1
 rw [x5] at this;exact this
theorem qDm {c:Ctx} {l:Env} {w:World} (I:Inv c S (lk l) w) (F:Fr N) (hk:cC N l=true) {o:Oper} (hg:gOK S.env (cJ all) o.guard=true):Region.wanted o (yielded all.toArray (mk F l).tmps)=true:=by
 have h:gd l (cJ all) o.guard (·=true):=by
  unfold gOK at hg;split at hg
  ·rename_i e;exact qGp e rfl
  ·rename_i d b want e;exact (uU I e (k:=(·=true)) hg).1
  ·cases hg
 exact qCc F hk h
theorem qMp {o:Oper} (hg:gOK S.env (cJ all) o.guard=true) (hd:eJ N o.dst=true)
  (h:∀ (c:Ctx) (l:Env) (w:World) (ρ:Nat→Value) (xs:Nat→List Value),Good c S (lk l) w ρ xs→MsOk P c w g→∀ ev':Operand→Value,(∀ x X,ev l x=some X→ev' x=X) →
   ∃ v w' g' h',Yields P (execOp ev' o) w (fun u w1=>u=v∧w1=w')∧InvV c S h' v (lk l) w'∧MsOk P c w' g'∧HVM P N all Q more g' (S.set o.dst h')) :
  HVM P N all Q (o :: more) g S:=fun c F l w hk I M=>by
 have hd:=eQ hd
 have I0:=I
 obtain ⟨ρ,xs,G⟩:=I;obtain ⟨v,w',g',h',hy,I',M',hK⟩:=h c l w ρ xs G M _ (fun x X hx=>qL F hk hx)
 have hk':cC N (stp o.dst v l)=true:=jX hk (fun k e=>by rw [e] at hd;exact hd)
 unfold wpListIn;rw [qDm I0 F hk hg,g8 rfl];refine (fD (hy.mono fun u w1 ⟨e1,e2⟩=>?_))
 subst e1;subst e2;rw [uK];exact hK c F _ _ hk' (I'.set o.dst) M'
end
structure MapTy (P:Program) (t k e:TypeId) (z:Value):Prop where
 tk:P.underlying t=some (.map k e)
 kk:P.underlying k=some .string
 z:∀ w,(zeroValue e).run P w=.ok z w
def yEb (cs:List Value):Bool:=cs.all (·.oneCell')
def zAs:Value→HV
|.agg cs=>if yEb cs.toList then .agg (cs.toList.map .v) else .v (.agg cs)
|v=>.v v
def qVf {w:World} {A:Nat→Prop} {n0:Nat} {ρ:Nat→Value} (v:Value):RepH w A n0 ρ v (zAs v):=by
 unfold zAs;split
 ·rename_i cs;split
  ·rename_i h;refine .agg (by simp) (fun j hj=>?_) fun j h1 h2=>?_
   ·have:=o8.1 h (cs[j]) (by simp)
    simpa using this
   ·simp only [d9,bAb];exact .v _
  ·exact .v _
 ·exact .v v
def vOf:HV→Option Value
|.v x=>some x
|.agg hs=>(vsOf hs).map fun l=>.agg l.toArray
|_=>none
where vsOf:List HV→Option (List Value)
|[]=>some []
|.v x :: r=>(vsOf r).map (x :: ·)
|_=>none
def qSt {w:World} {A:Nat→Prop} {n0:Nat} {ρ:Nat→Value}:∀ {hs:List HV} {l:List Value},vOf.vsOf hs=some l→∀ {vs:List Value},vs.length=hs.length→(∀ j (h1:j < vs.length) (h2:j < hs.length),RepH w A n0 ρ vs[j] hs[j])→vs=l
|[],l,h,vs,hl,_=>by
  simp only [vOf.vsOf,a6] at h;subst h;exact bBi.1 hl
|x :: r,l,h,[],hl,_=>by simp at hl
|x :: r,l,h,v :: vs,hl,hr=>by
  match x,h with
 |.v x,h =>
   simp only [vOf.vsOf,bAg] at h;obtain ⟨l',h1,rfl⟩:=h
   have e:=qSt h1 (vs:=vs) (by simpa using hl) fun j a b=>hr (j + 1) (by simpa using a) (by simpa using b)
   have:=bL (hr 0 (by simp) (by simp))
   simp only [l6] at this;rw [this,e]
def zUf {w:World} {A:Nat→Prop} {n0:Nat} {ρ:Nat→Value} {v x:Value} {h:HV} (hv:vOf h=some x) (r:RepH w A n0 ρ v h):v=x:=by
 unfold vOf at hv;split at hv
 ·simp only [a6] at hv;subst hv;exact bL r
 ·simp only [bAg] at hv;obtain ⟨l,h1,rfl⟩:=hv
  cases r with
 |@agg cs _ hn h1' h2 =>
   have:=qSt h1 (vs:=cs.toList) (by simpa using hn) fun j a b=>by
    have:=h2 j (by simpa using a) b
    simpa using this
   rw [← this]
 ·cases hv
def zEp (v:Option Value) (z:Value):Bool→HV
|true=>.tup [zAs (v.getD z),.v (.bool v.isSome)]
|false=>zAs (v.getD z)
section
variable {P:Program} {N:Nat} {all more:List Oper} {Q:uF} {g:MS} {S:HS} {o:Oper} {t k e:TypeId} {z:Value}
theorem zTy {m x:Operand} {cm:Bool} {i r n:Nat} {M:MTab} {s:Ba} (hT:MapTy P t k e z) (hop:o.op=.lookup t m x cm) (hg:gOK S.env (cJ all) o.guard=true) (hd:eJ N o.dst=true)
  (hi:g[i]?=some (.map r k n M)) (hm:hev S.env m=some (.v (.map (some r)))) (hx:hev S.env x=some (.v (.string s))) (hsz:s.size≤maxLen)
  (h:HVM P N all Q more g (S.set o.dst (zEp (M s.data.toList) z cm))):HVM P N all Q (o :: more) g S :=
 qMp hg hd fun c l w ρ xs G MK ev' hev'=>by
  obtain ⟨vm,m1,m2⟩:=G.ev (bM _ l) hm;obtain ⟨vx,x1,x2⟩:=G.ev (bM _ l) hx
  have:=bL m2;subst this
  have:=bL x2;subst this
  have m3:=hev' _ _ m1
  have x3:=hev' _ _ x1
  obtain ⟨D,hown,hr⟩:=MK.ok i _ hi
  have val:∀ v ps,qLs v=some (D.atKey (.string s.data.toList) (.held z),ps)→v=(M s.data.toList).getD z:=fun v ps hv=>by
   simp only [qLs,hr.at',a6,n5] at hv
   cases hM:M s.data.toList with
  |none=>rw [hM] at hv;injection hv.1
  |some u=>rw [hM] at hv;injection hv.1
  cases cm with
 |false =>
   obtain ⟨v,ps,hrun,hv⟩:=hown.lookup (string_keyed hT.kk) hT.tk (hT.z w) (zd:=.held z) (zp:=[]) rfl (key:=.string s) (kl:=.string s.data.toList) (bDm hT.kk hsz)
   have:=val v ps hv
   subst this;exact ⟨_,w,g,_,by unfold Yields;simp [execOp,hop,m3,x3,hrun,Result.andThen],⟨ρ,xs,G,qVf _⟩,MK,h⟩
 |true =>
   obtain ⟨v,ps,hrun,hv⟩:=hown.look_ok (string_keyed hT.kk) hT.tk (hT.z w) (zd:=.held z) (zp:=[]) rfl (key:=.string s) (kl:=.string s.data.toList) (bDm hT.kk hsz)
   have:=val v ps hv
   subst this;rw [hr.has] at hrun;exact ⟨.tuple #[(M s.data.toList).getD z,.bool (M s.data.toList).isSome],w,g,_,by unfold Yields;simp [execOp,hop,m3,x3,hrun,Result.andThen],⟨ρ,xs,G,.tup rfl fun j a b=>by
    match j,a with
   |0,_=>exact qVf _
   |1,_=>exact .v _⟩,MK,h⟩
theorem zG2 {D:DataW Value} {M:MTab} (h:Reads D M) (s:List UInt8) (v:Value):Reads (D.put (.string s) (.held v)) (M.put s v):=by
 have hkl:WideAt.IsKeyLit (.string s):=trivial
 refine ⟨h.map.put _ _,fun q=>?_,fun q z=>?_⟩
 ·by_cases eq:q=s
  ·subst eq;rw [Maps.has_put_same h.map hkl];simp [MTab.put]
  ·rw [Maps.has_put_other fun e=>eq (by injection e)]
   simp only [MTab.put,b7 eq];exact h.has q
 ·by_cases eq:q=s
  ·subst eq;rw [Maps.atKey_put_same h.map hkl];simp [MTab.put]
  ·rw [Maps.atKey_put_other fun e=>eq (by injection e)]
   simp only [MTab.put,b7 eq];exact h.at' q z
theorem zZ1 {m x y:Operand} {i r n:Nat} {M:MTab} {s:Ba} {hv:HV} {v:Value} (hT:MapTy P t k e z) (hop:o.op=.mapUpdate t m x y) (hg:gOK S.env (cJ all) o.guard=true) (hd:eJ N o.dst=true)
  (hi:g[i]?=some (.map r k n M)) (hn:n < maxLen) (hm:hev S.env m=some (.v (.map (some r)))) (hx:hev S.env x=some (.v (.string s))) (hsz:s.size≤maxLen) (hy:hev S.env y=some hv) (hvv:vOf hv=some v)
  (h:HVM P N all Q more (g.set i (.map r k (n + 1) (M.put s.data.toList v))) (S.set o.dst (.v undef))):HVM P N all Q (o :: more) g S :=
 qMp hg hd fun c l w ρ xs G MK ev' hev'=>by
  obtain ⟨vm,m1,m2⟩:=G.ev (bM _ l) hm;obtain ⟨vx,x1,x2⟩:=G.ev (bM _ l) hx;obtain ⟨vy,y1,y2⟩:=G.ev (bM _ l) hy
  have:=bL m2;subst this
  have:=bL x2;subst this
  have:=zUf hvv y2;subst this
  have m3:=hev' _ _ m1
  have x3:=hev' _ _ x1
  have y3:=hev' _ _ y1
  obtain ⟨D,hown,hr⟩:=MK.ok i _ hi;obtain ⟨w',hrun,hown',ht⟩:=hown.store (string_keyed hT.kk) hT.tk hn (key:=.string s) (val:=vy) (kl:=.string s.data.toList) (bDm hT.kk hsz) (d:=.held vy) (ps:=[]) rfl
  have hgr:=ht.grown
  have hf:=MK.foot i _ r hi (by simp [MO.bs])
  have hdl:=MK.dull hi (b:=r) (by simp [MO.bs])
  have G':=G.turn hdl hf hgr
  refine ⟨undef,w',g.set i (.map r k (n + 1) (M.put s.data.toList vy)),.v undef,by unfold Yields;simp [execOp,hop,m3,x3,y3,hrun,Result.andThen],⟨ρ,xs,G',.v _⟩,MK.set hi ⟨_,hown',zG2 hr _ _⟩ (fun b hb=>.inl hb) G.kept.size fun b hb hn=>?_,h⟩
  exact hgr.block b hb fun e=>hn (by simp [MO.bs,q9 e])
theorem zTx {cp:Option Operand} (hop:o.op=.makeMap t none) (hg:gOK S.env (cJ all) o.guard=true) (hd:eJ N o.dst=true) (k:TypeId)
  (h:∀ r,HVM P N all Q more (g ++ [.map r k 0 (fun _=>none)]) (S.set o.dst (.v (.map (some r))))):HVM P N all Q (o :: more) g S :=
 qMp hg hd fun c l w ρ xs G MK ev' hev'=>by
  have hB:Below w.heap.size w (w.alloc (.map #[] 0)):=(Below.refl _ _).alloc (a7 _) _
  refine ⟨.map (some w.heap.size),w.alloc (.map #[] 0),_,.v (.map (some w.heap.size)),?_,⟨ρ,xs,G.below hB,.v _⟩,?_,h w.heap.size⟩
  ·have hrun:(execOp ev' o).run P w=.ok (.value (.map (some w.heap.size))) (w.alloc (.map #[] 0)):=by
    simp only [execOp,hop];rfl
   unfold Yields;rw [hrun];exact ⟨rfl,rfl⟩
  ·have key:∀ j m,(g ++ [.map w.heap.size k 0 (fun _=>none)])[j]?=some m→g[j]?=some m∨(j=g.length∧m=.map w.heap.size k 0 (fun _=>none)):=fun j m h=>by
    rcases s4 j g.length with hj|hj
    ·rw [bAk hj] at h;exact .inl h
    ·rw [bAa hj] at h
     have:j - g.length=0:=by
      have:=(i5.1 h).1
      simp at this;omega
     rw [this] at h;simp only [q8,a6] at h;exact .inr ⟨by omega,h.symm⟩
   refine ⟨fun j m hj=>?_,fun j1 j2 m1 m2 b hne h1 h2 hb1 hb2=>?_,fun j m b hj hb=>?_⟩
   ·rcases key j m hj with hj|⟨_,rfl⟩
    ·exact MO.ok_block (MK.ok j m hj) fun b hb=>hB.block b (MK.dull hj hb).lt
    ·exact ⟨.map [],World.ownsMap_made w P k _,⟨⟨[],rfl⟩,fun s=>rfl,fun s z=>rfl⟩⟩
   ·rcases key j1 m1 h1 with h1|⟨e1,rfl⟩ <;> rcases key j2 m2 h2 with h2|⟨e2,rfl⟩
    ·exact MK.nd j1 j2 m1 m2 b hne h1 h2 hb1 hb2
    ·simp only [MO.bs,q6] at hb2
     have:=(MK.dull h1 hb1).lt;omega
    ·simp only [MO.bs,q6] at hb1
     have:=(MK.dull h2 hb2).lt;omega
    ·omega
   ·rcases key j m hj with hj|⟨_,rfl⟩
    ·exact MK.foot j m b hj hb
    ·simp only [MO.bs,q6] at hb;subst hb;exact .inl G.kept.size
end
end Go.Eng
