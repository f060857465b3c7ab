/- What the walk of the law stands on. -/
import Derived.Test.YtjljkgeeimploaaGreatDoorQi
import Derived.Sort.KeysCollected
import Derived.Sort.Walk0
import Derived.Shelf.SlIter.Nil
import Derived.Shelf.SortM.Plain
import Derived.Shelf.SortM.SortNone
import Derived.Ground.GgzProg
import Derived.Ground.SlgmProg
import Derived.Shelf.SlGeneric
set_option linter.defProp false
set_option maxRecDepth 20000
set_option maxHeartbeats 4000000
namespace Go.Rc
open Go Go.Tr Go.Eng Go.Dk
variable {mg:(Int × Ba)→(Int × Ba)→(Int × Ba)→Bool}
theorem qE9 (s:Ba) (i j:Nat):(s.extract i j).data.toList=(s.data.toList.drop i).take (j - i):=by
 rw [bCw,bDb,bCc]
def nU:List UInt8→List UInt8
|[]=>[]
|c :: r=>if c=47 then r else c :: r
theorem zFy (s:Ba):(sW s).data.toList=nU s.data.toList:=by
 unfold sW
 have hs:stroke.data.toList=[47]:=rfl
 rw [hs]
 cases h:s.data.toList with
|nil=>simp [nU,h]
|cons c r =>
  by_cases hc:c=47
  ·subst hc;rw [g8 (by simp),qE9,h]
   have:s.size=r.length + 1:=by rw [Lib.size_eq,h];rfl
   rw [this];simp [nU]
  ·rw [b7 (by simp [bE1 hc]),h]
   simp [nU,hc]
theorem qD1 (s:Ba):(vol s).data.toList=s.data.toList.take (nW s.data.toList):=by
 rw [vol,qE9,bAf,t8]
theorem rZ (p top:Ba):(jG p top).data.toList=(nU (p.data.toList.drop top.data.toList.length)).take (nW (nU (p.data.toList.drop top.data.toList.length))):=by
 have e:(p.extract top.size p.size).data.toList=p.data.toList.drop top.data.toList.length:=by
  rw [qE9,Lib.size_eq top,m9];rw [y7,← Lib.size_eq];omega
 rw [jG,qD1,zFy,e]
theorem qFp:∀ (l:List UInt8),∀ c ∈ l.take (nW l),c≠47
|[],c,h=>by simp at h
|x :: r,c,h=>by
  rw [nW] at h;split at h
  ·simp at h
  ·rename_i hx;rw [bDj,l3] at h
   rcases h with rfl|h
   ·exact hx
   ·exact qFp r c h
theorem zDw:∀ (f t:List UInt8),(∀ c ∈ f,c≠47)→(t=[]∨∃ r,t=47 :: r)→nW (f ++ t)=f.length
|[],t,_,ht=>by
  rcases ht with rfl|⟨r,rfl⟩
  ·rfl
  ·simp [nW]
|c :: f,t,hf,ht=>by
  rw [u5,nW,b7 (hf c (by simp)),zDw f t (fun x hx=>hf x (by simp [hx])) ht];rfl
theorem qB7 (a b:Ba) (hb:b≠{ data:=#[] }):(qC3 a b).data.toList=if a={ data:=#[] } then b.data.toList else a.data.toList ++ 47 :: b.data.toList:=by
 unfold qC3;split
 ·rfl
 ·simp [stroke]
theorem iA {p q:Ba} (h:bN p q=true) (hq:q≠{ data:=#[] }):∃ t,p.data.toList=q.data.toList ++ t∧(t=[]∨∃ r,t=47 :: r):=by
 unfold bN at h;simp only [w9,m7] at h
 rcases h with (h|h)|h
 ·exact absurd h hq
 ·subst h;exact ⟨[],by simp,.inl rfl⟩
 ·obtain ⟨r,hr⟩:=bAh.1 h;refine ⟨47 :: r,?_,.inr ⟨r,rfl⟩⟩;rw [← hr];simp [stroke]
theorem qUu {top q:Ba} {e0 e:Ent} (h:cK top e0=some q) (hu:bN e.1 q=true):cK top e=some q:=by
 have hsz:=(iE h).1
 unfold cK at h;split at h
 ·cases h
 ·rename_i hn;simp only [bE2,a6] at hn h;obtain ⟨h1,h2,h3⟩:=hn
  have hq0:q≠{ data:=#[] }:=fun x=>by rw [x] at hsz;exact absurd hsz (by show ¬ _ < 0;omega)
  obtain ⟨t,ht,hts⟩:=iA hu hq0;obtain ⟨f,hf⟩:∃ f,jG e0.1 top=f:=⟨_,rfl⟩;rw [hf] at h h3
  have hfr:∀ c ∈ f.data.toList,c≠47:=by
   rw [← hf,rZ];exact qFp _
  have hfn:f.data.toList≠[]:=fun x=>h3 (iH (by rw [x]))
  have hql:q.data.toList=if top={ data:=#[] } then f.data.toList else top.data.toList ++ 47 :: f.data.toList:=by
   rw [← h];exact qB7 _ _ h3
  have hne:e.1≠top:=fun x=>by
   have:e.1.size=q.size + t.length:=by rw [Lib.size_eq,ht,i8,← Lib.size_eq]
   rw [x] at this;omega
  have hun:bN e.1 top=true:=by
   unfold bN
   by_cases ht0:top={ data:=#[] }
   ·have:top=ByteArray.empty:=ht0
    rw [i7 this];rfl
   ·rw [b7 ht0] at hql
    have:(top ++ stroke).data.toList.isPrefixOf e.1.data.toList=true:=by
     rw [bAh];refine ⟨f.data.toList ++ t,?_⟩;rw [ht,hql];simp [stroke]
    rw [this];simp
  have hfi:jG e.1 top=f:=by
   refine iH ?_
   have key:nU (e.1.data.toList.drop top.data.toList.length)=f.data.toList ++ t:=by
    rw [ht,hql]
    by_cases ht0:top={ data:=#[] }
    ·rw [g8 ht0,ht0]
     cases hx:f.data.toList with
    |nil=>exact absurd hx hfn
    |cons c r =>
      have:c≠47:=hfr c (by rw [hx];simp)
      simp [nU,this]
    ·rw [b7 ht0,u6,bBt (a7 _),bA8 (a7 _)];simp [nU]
   rw [rZ,key,zDw _ _ hfr hts,bD1 (a7 _),m9 (a7 _)]
  unfold cK;rw [b7 (by rw [hfi];simp only [bE2];exact ⟨hne,by rw [hun];decide,h3⟩),hfi,h]
theorem zPw {x:Option Ba}:∀ {ns:List Ba},ns.Nodup→(ns.map fun q=>if x=some q then 1 else 0).sum≤if x.isSome=true then 1 else 0
|[],_=>by simp
|a :: r,h=>by
  rw [List.nodup_cons] at h
  have ih:=zPw (x:=x) h.2
  rw [d8,bBe]
  by_cases hx:x=some a
  ·have h0:∀ (l:List Ba),a ∉ l→(l.map fun q=>if x=some q then 1 else 0).sum=0:=by
    intro l
    induction l with
   |nil=>intro _;rfl
   |cons b l il =>
     intro hb;rw [l3,bE2] at hb;rw [d8,bBe,il hb.2,b7 (fun y=>hb.1 (by rw [hx] at y;exact (q9 y)))]
   rw [g8 hx,h0 r h.1,hx];simp
  ·rw [b7 hx];omega
theorem zD1 (f g:Ba→Nat):∀ (ns:List Ba),(ns.map fun q=>f q + g q).sum=(ns.map f).sum + (ns.map g).sum
|[]=>rfl
|a :: r=>by simp only [d8,bBe,zD1 f g r];omega
theorem qJ7 {f g:Ba→Nat}:∀ {ns:List Ba},(∀ q ∈ ns,f q≤g q)→(ns.map f).sum≤(ns.map g).sum
|[],_=>a7 _
|a :: r,h=>by
  have h1:=h a (by simp)
  have h2:=qJ7 (ns:=r) fun q hq=>h q (by simp [hq])
  simp only [d8,bBe];omega
theorem zD0 {top:Ba} {ns:List Ba} (hn:ns.Nodup):∀ (E:List Ent),(ns.map fun q=>E.countP fun e=>decide (cK top e=some q)).sum≤E.countP fun e=>(cK top e).isSome
|[]=>by
  have:∀ (l:List Ba),(l.map fun q=>List.countP (fun e=>decide (cK top e=some q)) ([]:List Ent)).sum=0:=by
   intro l
   induction l with
  |nil=>rfl
  |cons a r ih=>rw [d8,bBe,ih];rfl
  rw [this];exact g7 _
|e :: r=>by
  have ih:=zD0 (top:=top) hn r
  have ho:=zPw (x:=cK top e) hn
  simp only [bDg,m7];rw [zD1];omega
theorem qPx {f g:Ent→Bool} (h:∀ e,f e=true→g e=true):∀ {E:List Ent},(∃ e ∈ E,g e=true∧f e=false)→E.countP f + 1≤E.countP g
|[],⟨e,he,_⟩=>by cases he
|a :: r,⟨e,he,h1,h2⟩=>by
  have hle:r.countP f≤r.countP g:=List.countP_mono_left fun x _ hx=>h x hx
  rw [bDg,bDg]
  rcases l3.1 he with rfl|he
  ·rw [h1,h2];simp;omega
  ·have:=qPx h ⟨e,he,h1,h2⟩
   cases hf:f a with
  |true=>rw [h a hf];simp;omega
  |false=>simp;split <;> omega
theorem qUt (top:Ba) (es:List Ent):((lB top es).map fun e=>e.1).Nodup:=by
 have h:=xN (top:=top) es [] List.Pairwise.nil
 refine bC7.2 (h.imp fun {a b} hab e=>?_)
 rw [e,nR] at hab;cases hab
def mu (top:Ba) (E:List Ent):Nat:=E.countP fun e=>(cK top e).isSome
theorem qP5 (A H S:List Ent):∀ (k:Nat) (top:Ba),(bQ mg A H S k top).length≤mu top (A ++ H ++ S)
|0,top=>g7 _
|k + 1,top=>by
  rw [bQ,List.length_flatMap];refine l5 (qJ7 (g:=fun q=>(A ++ H ++ S).countP fun e=>decide (cK top e=some q)) fun q hq=>?_) (zD0 (qUt top _) _)
  obtain ⟨x,hx,hxq⟩:=m6.1 hq
  rcases kG (A ++ H ++ S) [] hx with h0|⟨e0,he0,hn0⟩
  ·cases h0
  rw [hxq] at hn0
  have h1:1≤(A ++ H ++ S).countP fun e=>decide (cK top e=some q):=List.countP_pos_iff.2 ⟨e0,he0,i7 hn0⟩
  unfold gP;split
  ·split
   ·exact g7 _
   ·exact h1
  ·split
   ·rename_i hd
    have hH:∃ e ∈ H,e.1=q:=by
     have h:=hd.1
     unfold aV at h
     cases hf:H.find? (fun e=>decide (e.1=q)) with
    |none=>rw [hf] at h;exact absurd h (by decide)
    |some e=>exact ⟨e,bDf hf,by simpa using List.find?_some hf⟩
    obtain ⟨e,he,heq⟩:=hH
    have ih:=qP5 A H S k q
    have hc:(A ++ H ++ S).countP (fun e=>(cK q e).isSome) + 1≤(A ++ H ++ S).countP fun e=>decide (cK top e=some q):=by
     refine qPx (fun y hy=>?_) ⟨e,by simp [he],?_,?_⟩
     ·refine i7 (qUu hn0 ?_);unfold cK at hy;split at hy
      ·cases hy
      ·rename_i hz;simp only [bE2] at hz
       simpa using hz.2.1
     ·refine i7 (qUu hn0 ?_);unfold bN;rw [heq];simp
     ·unfold cK;rw [g8 (.inl heq)];rfl
    unfold mu at ih;rw [i8];split
    ·rw [bAj];omega
    ·rw [t7];omega
   ·split
    ·exact h1
    ·split
     ·exact h1
     ·exact h1
theorem uE (A H S:List Ent) (k:Nat) (top:Ba):(bQ mg A H S k top).length≤A.length + H.length + S.length:=by
 refine l5 (qP5 A H S k top) ?_;unfold mu;refine l5 List.countP_le_length ?_;rw [i8,i8];exact a7 _
end Go.Rc
namespace Go.Rc
open Go Go.Eng Go.RowKit Go.Tr Go.Dk
def itl (L:LN):List (List FV):=L.map fun e=>[.v (.string e.1),.v (.int .i64 e.2)]
def xS (L:LN):(itl L).length=L.length:=by simp [itl]
def qEo (L:LN):Wid 2 (itl L)=True:=bEe (qC L fun _=>rfl)
def qVb (L:LN) (p:Ba) (n:Int):itl L ++ [[.v (.string p),.v (.int .i64 n)]]=itl (L ++ [(p,n)]):=by simp [itl]
def zEv {L:LN} {i:Nat} {d:List FV} (h:i < L.length):(itl L).getD i d=[.v (.string L[i].1),.v (.int .i64 L[i].2)]:=by unfold itl;rw [fQ h]
abbrev wgR (A H S:List Ent):Row:=.bx false 69 [.lst false (aG A),.lst false (aG H),.lst false (aG S),.own 1]
abbrev wgS (A H S:List Ent) (out:LN):aC:=[(0,wgR A H S),(1,.sl true 53 2 (itl out))]
end Go.Rc
namespace Go.Proofs.Y
open Go Go.Eng Go.RowKit Go.Tr Go.Dk Go.Rc
def zV9 (a b:Ba) (ha:a.size≤1048576) (hb:b.size≤1048576):HFun Tryz.prog 48 [.v (.string a),.v (.string b)] (fun h st=>h=.v (.string (qC3 a b))):=by
 refine bP (N:=17) Tryz.func48 rfl Tryz.ntmps48 Tryz.results48 (by simp) ?_
 refine goA 3 ?_;push_cast;unfold qC3
 cases e1:decide (a={ data:=#[] }) with
|true =>
  rw [g8 (u7 e1)];refine goA 5 ?_;push_cast[e1];exact aQ rfl
|false =>
  rw [b7 (x8 e1)];refine goA 3 ?_;push_cast[e1]
  cases e2:decide (b={ data:=#[] }) with
 |true =>
   rw [g8 (u7 e2)];refine goA 5 ?_;push_cast[e2];exact aQ rfl
 |false =>
   rw [b7 (x8 e2)]
   have h1:({ data:=#[47] }:Ba).size=1:=rfl
   have h2:(a ++ ({ data:=#[47] }:Ba)).size=a.size + 1:=n9
   refine goA 5 ?_;push_cast[e2];refine ⟨by omega,by omega,?_⟩
   exact aQ rfl
def zUh (s:Ba):HFun Tryz.prog 60 [.v (.string s),.v (.string { data:=#[47] })] (fun h st=>h=.v (.string (sW s))):=by
 refine bP (N:=13) Tryz.func60 rfl Tryz.ntmps60 Tryz.results60 (by simp) ?_
 have c:=qPo s { data:=#[47] }
 refine goA 3 ?_;push_cast;unfold sW
 cases e:pre s { data:=#[47] } with
|true =>
  rw [e] at c
  have e':stroke.data.toList.isPrefixOf s.data.toList=true:=e
  have hs:1≤s.size:=by
   obtain ⟨r,hr⟩:=bAh.1 e'
   have:=congrArg List.length hr
   rw [Lib.size_eq,← this];simp [stroke]
  rw [g8 e'];refine goA 5 ?_;push_cast;refine cVt yD0 c (.cons (.v _) (.cons (.v _) .nil)) ?_
  have h1:({ data:=#[47] }:Ba).size=1:=rfl
  push_cast[h1];refine ⟨⟨by omega,by omega⟩,?_⟩
  exact aQ rfl
|false =>
  rw [e] at c;rw [b7 (fun x=>by have e':stroke.data.toList.isPrefixOf s.data.toList=false:=e;rw [e'] at x;cases x)]
  refine goA 5 ?_;push_cast;refine cVt yD0 c (.cons (.v _) (.cons (.v _) .nil)) ?_;push_cast;exact aQ rfl
def yAt (s:Ba):HFun Tryz.prog 46 [.v (.string s),.v (.string { data:=#[47] })] (fun h st=>h=.v (.string (sW s))):=by
 refine bP (N:=8) Tryz.func46 rfl Tryz.ntmps46 Tryz.results46 (by simp) ?_
 refine goA 5 ?_;push_cast;refine cVt yKr (zUh s) (.cons (.v _) (.cons (.v _) .nil)) ?_;push_cast;exact aQ rfl
def qNw (A H S:List Ent) (out:LN) (p:Ba) (n:Int) (hl:out.length≤1000000):HFunS Tryz.prog 65 [.ptr 0 4 0 0,.v (.string p),.v (.int .i64 n)] (wgS A H S out) (fun h st=>h=.tup []∧st=wgS A H S (out ++ [(p,n)])):=by
 refine pV (N:=18) Tryz.func65 rfl Tryz.ntmps65 Tryz.results65 (by simp) ?_
 refine goA 3 ?_;push_cast(disch:=omega)[xS,qEo,qVb];(repeat ((with_reducible refine bJa ?_ ?_);focus first|omega|decide))
 refine mC [0,1] (by decide) (by push_cast <;> exact ⟨rfl,rfl⟩) ?_
 exact ⟨rfl,rfl⟩
end Go.Proofs.Y
namespace Go.Tr
open Go Go.Sort Go.Proofs
def zAn (out:List Ba) (s:Ba):List Ba:=out.takeWhile (fun x=>!blt s x) ++ s :: out.dropWhile (fun x=>!blt s x)
def zD7 (l:List Ba):List Ba:=l.foldl zAn []
def uN (t:List Ba):Prop:=t.Pairwise fun x y=>blt y x=false
def zHu {a b c:Ba} (h1:blt b a=false) (h2:blt c b=false):blt c a=false:=by
 cases e:blt c a with
|false=>rfl
|true =>
  rcases xX a b with h|h|h
  ·rw [nC e h] at h2;cases h2
  ·rw [← h,e] at h2;cases h2
  ·rw [h] at h1;cases h1
def zAm {s:Ba}:∀ {out:List Ba},uN out→uN (zAn out s):=by
 intro out h;unfold zAn
 induction out with
|nil=>simp [uN]
|cons x r ih =>
  obtain ⟨hx,hr⟩:=w8.1 h
  cases hb:blt s x with
 |false =>
   simp only [bBz,bB0,hb,bDc,bBm,u5];refine w8.2 ⟨fun y hy=>?_,ih hr⟩
   rcases m8.1 hy with hy|hy
   ·exact hx y ((List.takeWhile_sublist _).subset hy)
   ·rcases l3.1 hy with rfl|hy
    ·exact hb
    ·exact hx y ((List.dropWhile_sublist _).subset hy)
 |true =>
   simp only [bBz,bB0,hb,Bool.not_true,bA0,bCz,u4];refine w8.2 ⟨fun y hy=>?_,h⟩
   rcases l3.1 hy with rfl|hy
   ·exact oR hb
   ·exact zHu (oR hb) (hx y hy)
def zJs (out:List Ba) (s:Ba):(zAn out s).Perm (s :: out):=by
 unfold zAn;refine bD2.trans (List.Perm.cons s ?_);rw [bCi]
def qHs:∀ (t out:List Ba),uN out→uN (t.foldl zAn out)
|[],out,h=>h
|e :: t,out,h=>by rw [bAu];exact qHs t _ (zAm h)
def qLx:∀ (t out:List Ba),(t.foldl zAn out).Perm (out ++ t)
|[],out=>by simp
|e :: t,out=>by
  rw [bAu];refine (qLx t _).trans ?_;refine (List.Perm.append_right t (zJs out e)).trans ?_;exact (bD2 (l₁:=out)).symm
def qTc (t:List Ba):uN (zD7 t):=qHs t [] .nil
def qX5 (t:List Ba):(zD7 t).Perm t:=qLx t []
def qTd {l X:List Ba} (h:uN X) (hp:X.Perm l):X=zD7 l:=by
 refine List.Perm.eq_of_pairwise (le:=fun x y:Ba=>blt y x=false) (fun a b ha hb h1 h2=>?_) h (qTc l) (hp.trans (qX5 l).symm)
 rcases xX a b with h|h|h
 ·rw [h] at h2;cases h2
 ·exact h
 ·rw [h] at h1;cases h1
def byL (l:List Ba):List (List UInt8):=l.map fun s=>s.data.toList
def zTf (l:List Ba):(byL l).map (fun x=>(⟨x.toArray⟩:Ba))=l:=by
 unfold byL;rw [bAm]
 conv=>rhs;rw [← bEv l]
 exact x7 fun s _=>rfl
def qUx (l:List Ba):((byL l).mergeSort fun x y=>decide (x≤y)).map (fun x=>(⟨x.toArray⟩:Ba))=zD7 l:=by
 refine qTd ?_ ?_
 ·unfold uN;rw [bC7]
  have h:=List.pairwise_mergeSort (le:=fun x y:List UInt8=>decide (x≤y)) (fun a b c h1 h2=>by
   simp only [m7] at *;exact List.le_trans h1 h2) (fun a b=>by
   simp only [w9,m7];exact List.le_total a b) (byL l)
  refine h.imp fun {a b} hab=>?_
  simp only [m7] at hab;rw [blt,Lib.toList_data,Lib.toList_data,bytesLess_eq,bA3];exact List.not_lt.2 hab
 ·have:=(List.mergeSort_perm (byL l) fun x y=>decide (x≤y)).map (fun x=>(⟨x.toArray⟩:Ba))
  rwa [zTf] at this
end Go.Tr
namespace Go.Dk
open Go Go.Tr Go.Eng Go.RowKit Go.Maps Go.Sort Go.Proofs
def iX {α:Type} (L:List (Ba × α)):List Ba:=L.map (·.1)
def qZ4 {α:Type} {L:List (Ba × α)} (h:qJa L):uN (iX L):=by
 unfold uN iX;rw [bC7];exact h.imp fun {a b} hab=>by
  cases e:blt b.1 a.1 with
 |false=>rfl
 |true=>have:=nC hab e;rw [nR] at this;cases this
def qZ3 {α:Type} {L:List (Ba × α)} (h:qJa L):(byL (iX L)).Nodup:=by
 unfold byL iX;rw [bAm];refine bC7.2 (h.imp fun {a b} hab e=>?_)
 have:a.1=b.1:=iH e
 rw [this,nR] at hab;cases hab
def zQl {α:Type} {f:α→Value} {L:List (Ba × α)} {P:Program} {k:TypeId} {w:World} {b n:Nat} {D:DataW Value} (hR:qJa L) (hr:Reads D (tab f L)) (hown:w.ownsMap P k qLs b n D) (hk:P.underlying k=some .string)
  {ss:List (List UInt8)} (hp:ss.Perm (strKeys D)):(ss.mergeSort fun x y=>decide (x≤y)).map encStr=(iX L).map (fun s=>Value.string s)∧ss.length=L.length:=by
 have hC:Collected D (fun _=>false) (byL (iX L)):=⟨qZ3 hR,fun x=>by
  rw [hr.has];simp only [and_true];rw [tab,Option.isSome_map];constructor
  ·intro hx;obtain ⟨s,hs,rfl⟩:=m6.1 hx;obtain ⟨e,he,rfl⟩:=m6.1 hs;rw [pG,qPe hR he];rfl
  ·intro hx
   cases hl:iN L (mkB x) with
  |none=>rw [hl] at hx;cases hx
  |some y =>
    refine m6.2 ⟨mkB x,m6.2 ⟨_,qGa hl,rfl⟩,?_⟩;exact (qZt.1 rfl).symm⟩
 have hC2:=hC.perm hown (string_keyed hk) hk fun _=>rfl
 have hpp:=hp.trans hC2.symm
 refine ⟨?_,by rw [hpp.length_eq];simp [byL,iX]⟩
 have e1:(ss.mergeSort fun x y=>decide (x≤y))=(byL (iX L)).mergeSort fun x y=>decide (x≤y):=mergeSort_of_perm hpp
 rw [e1]
 have e2:=qUx (iX L)
 rw [← qTd (qZ4 hR) (List.Perm.refl _)] at e2
 have e3:=congrArg (List.map fun s:Ba=>Value.string s) e2
 rw [bAm] at e3;rw [← e3];exact x7 fun x _=>rfl
end Go.Dk
namespace Go.Eng
open Go Go.RowKit Go.Maps Go.Sort Go.Dk Go.Proofs
section
variable {P:Program} {N:Nat} {all more:List Oper} {Q:uF} {g:MS} {S:HS}
theorem Good.setE {c:Ctx} {l:Env} {w:World} {ρ:Nat→Value} {xs:Nat→List Value} {v:Value} {h:HV} (G:Good c S (lk l) w ρ xs) (hr:RepH w (c.A ρ S.st) c.n0 ρ v h) (d:Nat):Good c (S.set (some d) h) (lk (stp (some d) v l)) w ρ xs:=by
 refine ⟨G.rows,G.apart,fun k x hk=>?_,G.kept,G.a0⟩
 simp only [HS.set,hlk] at hk;simp only [stp,lk]
 by_cases e:d=k
 ·rw [g8 e] at hk ⊢;simp only [a6] at hk;subst hk;exact ⟨v,rfl,hr⟩
 ·rw [b7 e] at hk ⊢;exact G.env k x hk
theorem zTz {α:Type} {f:α→Value} {L:List (Ba × α)} {o1 o2:Oper} {m:Operand} {fK fS fI tM t1 t2 d1 d2 i r n kT:Nat} (nid:Nat) (hR:qJa L) (hn:n≤1099511627776) (hk:P.underlying kT=some .string)
  (h1:o1.op=.call ⟨.value (.func fK),#[m],#[t1]⟩) (h2:o2.op=.call ⟨.value (.func fS),#[.tmp d1],#[t2]⟩) (hg1:o1.guard=none) (hg2:o2.guard=none) (hd1:o1.dst=some d1) (hd2:o2.dst=some d2) (hl1:eJ N (some d1)=true) (hl2:eJ N (some d2)=true)
  (hc1:aB P fK=true) (hc2:aB P fS=true)
  (hK:∀ (b:Nat) (W:World),Calls P fK #[.map (some b)] W (fun e w'=>e=.returned (.func (.func fI) #[] #[.pointer (some ⟨W.heap.size,0,none⟩)])∧w'=W.alloc (.cells #[.map (some b)] tM)))
  (hS:∀ (b nn:Nat) (D0:DataW Value) (w:World) (hown:w.ownsMap P kT qLs b nn D0) (hmax:Maps.size D0≤maxLen) (hbytes:Maps.size D0 * 16≤140737488355328),
   Calls P fS #[.func (.func fI) #[] #[.pointer (some ⟨w.heap.size,0,none⟩)]] (w.alloc (.cells #[.map (some b)] tM)) fun e w'=>∃ (v:Value) (ss:List (List UInt8)),e=.returned v∧ss.Perm (strKeys D0) ∧
    w'.ownsRow (w.alloc (.cells #[.map (some b)] tM)).heap.size kT 1 v ss.length ((ss.mergeSort (fun x y=>decide (x≤y))).map encStr)∧(v=.slice none 0 0↔ss=[])∧Below (w.alloc (.cells #[.map (some b)] tM)).heap.size (w.alloc (.cells #[.map (some b)] tM)) w')
  (hi:g[i]?=some (.map r kT n (tab f L))) (hm:hev S.env m=some (.v (.map (some r))))
  (h:HVM P N all Q more g ((((S.kill (only nid)).row nid (.sl true kT 1 (aR (iX L)))).set (some d1) .junk).set (some d2) (.own nid))):HVM P N all Q (o1 :: o2 :: more) g S:=fun c F l w hkk I M=>by
 have I0:=I
 obtain ⟨ρ,xs,G⟩:=I;obtain ⟨vm,m1,m2⟩:=G.ev (bM _ l) hm
 have:=bL m2;subst this
 obtain ⟨D,hown,hrd⟩:=M.ok i _ hi
 have hsz:=hown.size_le
 have hk':∀ v,cC N (stp (some d1) v l)=true:=fun v=>jX hkk (fun k e=>by cases e;exact eQ hl1)
 unfold wpListIn;rw [qDm I0 F hkk (by rw [hg1];rfl),g8 rfl]
 have hv1:bH P l o1.op o1.type w (fun u w1=>u=.func (.func fI) #[] #[.pointer (some ⟨w.heap.size,0,none⟩)]∧w1=w.alloc (.cells #[.map (some r)] tM)) (fun u w1=>u=.func (.func fI) #[] #[.pointer (some ⟨w.heap.size,0,none⟩)]∧w1=w.alloc (.cells #[.map (some r)] tM)):=by
  rw [h1];unfold bH
  have e1:evs l [m]=some [.map (some r)]:=by simp only [evs,m1]
  simp only [aP,bZ,e1,G.fn (bM _ _) (show fnH (hev S.env (.func fK))=some fK from rfl)]
  exact ⟨hc1,bEc (hK r w) fun e w' ⟨he,hw⟩=>by subst he;exact kX ⟨rfl,hw⟩⟩
 refine (fD ((oV (fun x X hx=>qL F hkk hx) hv1).mono fun u w1 ⟨e1,e2⟩=>?_))
 subst e1;subst e2;rw [hd1,uK]
 -- behind the first
 have hB1:Below w.heap.size w (w.alloc (.cells #[.map (some r)] tM)):=(Below.refl _ _).alloc (a7 _) _
 have I1:Inv c (S.set (some d1) (.v (.func (.func fI) #[] #[.pointer (some ⟨w.heap.size,0,none⟩)]))) (lk (stp (some d1) (.func (.func fI) #[] #[.pointer (some ⟨w.heap.size,0,none⟩)]) l)) (w.alloc (.cells #[.map (some r)] tM)):=InvV.set ⟨ρ,xs,G.below hB1,.v _⟩ (some d1)
 have hk1:=hk' (.func (.func fI) #[] #[.pointer (some ⟨w.heap.size,0,none⟩)])
 generalize hl':stp (some d1) (.func (.func fI) #[] #[.pointer (some ⟨w.heap.size,0,none⟩)]) l=l1 at I1 hk1 ⊢;unfold wpListIn;rw [qDm I1 F hk1 (by rw [hg2];rfl),g8 rfl]
 have hv2:bH P l1 o2.op o2.type (w.alloc (.cells #[.map (some r)] tM)) (fun u w2=>Own w2 w.heap.size kT 1 u L.length ((iX L).map fun s=>Value.string s)∧Below w.heap.size w w2) (fun u w2=>Own w2 w.heap.size kT 1 u L.length ((iX L).map fun s=>Value.string s)∧Below w.heap.size w w2):=by
  rw [h2];unfold bH
  have e1:evs l1 [.tmp d1]=some [.func (.func fI) #[] #[.pointer (some ⟨w.heap.size,0,none⟩)]]:=by
   subst hl';simp only [evs,ev,stp,lk,bBm]
  obtain ⟨ρ1,xs1,G1⟩:=I1;simp only [aP,bZ,e1,G1.fn (bM _ _) (show fnH (hev _ (.func fS))=some fS from rfl)]
  refine ⟨hc2,bEc (hS r n D w hown (by simp only [maxLen];omega) (by omega)) ?_⟩
  rintro e w2 ⟨v,ss,rfl,hp,hrow,hnil,hB2⟩;obtain ⟨k1,k2⟩:=zQl hR hrd hown hk hp;rw [k1,k2] at hrow;refine kX ⟨⟨hrow.1,?_⟩,hB1.trans (hB2.mono (by simp))⟩
  rcases hrow.2 with hx|⟨g',cap,cur,a1,a2,a3⟩
  ·exact .inl hx
  ·exact .inr ⟨g',cap,cur,a1,by simp at a2;omega,a3⟩
 refine (fD ((oV (fun x X hx=>qL F hk1 hx) hv2).mono fun u w2 ⟨hO,hB⟩=>?_))
 rw [hd2,uK]
 have hk2:cC N (stp (some d2) u l1)=true:=jX hk1 (fun k e=>by cases e;exact eQ hl2)
 have hlk:∀ b,u.ownBlock=some b→w.heap.size≤b:=fun b hb=>by
  rcases hO.2 with ⟨rfl,_⟩|⟨g',cap,cur,rfl,a2,_⟩
  ·cases hb
  ·simp only [Value.ownBlock,a6] at hb;subst hb;exact a2
 have Gn:=G.new nid (.sl true kT 1 (aR (iX L))) ((iX L).map fun s=>Value.string s) u hB hlk (fun _ _=>by
  have hlen:(aR (iX L)).length=L.length:=by simp [aR,iX]
  refine ⟨?_,⟨fun x hx=>?_,fun a q ha hq=>?_⟩,fun b hb=>?_⟩
  ·rw [aK];show Own w2 0 kT 1 u (aR (iX L)).length _
   rw [hlen];refine ⟨hO.1,?_⟩
   rcases hO.2 with hx|⟨g',cap,cur,a1,a2,a3⟩
   ·exact .inl hx
   ·exact .inr ⟨g',cap,cur,a1,g7 _,a3⟩
  ·obtain ⟨s,_,rfl⟩:=m6.1 hx;rfl
  ·have ha':a < (iX L).length:=by simpa [aR] using ha
   have hg:(aR (iX L))[a]=[FV.v (.string (iX L)[a])]:=by simp [aR,uJ]
   have hq0:q=0:=by simp only [hg,i6,bAj] at hq;omega
   subst hq0;refine ⟨.string (iX L)[a],by simp [ha'],rfl,?_⟩
   simp only [hg,l6];exact .v _
  ·rw [aK] at hb
   have:=hlk b hb
   have hw0:=G.kept.size
   have:=c.hn
   exact ⟨.inl (by omega),fun _=>by omega⟩)
 subst hl'
 have Ga:=Gn.setE (v:=.func (.func fI) #[] #[.pointer (some ⟨w.heap.size,0,none⟩)]) (.junk _) d1
 have ro:RepH w2 (c.A (fC ρ nid u) ((((S.kill (only nid)).row nid (.sl true kT 1 (aR (iX L)))).set (some d1) .junk)).st) c.n0 (fC ρ nid u) u (.own nid):=by
  have:=RepH.own (w:=w2) (A:=c.A (fC ρ nid u) ((((S.kill (only nid)).row nid (.sl true kT 1 (aR (iX L)))).set (some d1) .junk)).st) (n0:=c.n0) (ρ:=fC ρ nid u) nid (by
   rw [aK]
   rcases hO.2 with ⟨rfl,_⟩|⟨g',cap,cur,rfl,_⟩ <;> rfl)
  rw [aK] at this;exact this
 have Gb:=Ga.setE ro d2
 exact h c F _ _ hk2 ⟨_,_,Gb⟩ (M.block fun b hb _=>hB.block b hb.lt)
end
end Go.Eng
namespace Go.Proofs.Y
open Go Go.RowKit Go.Maps Go.Sort Go.Shelf Go.Proofs
def Tryz.keysM_ren:Go.Shelf.Ren:=⟨fun|7=>50|10=>64|n=>n,fun|23=>89|26=>9|3=>3|28=>96|0=>0|27=>95|33=>86|4=>4|n=>n,fun|n=>n⟩
def Tryz.keysM:Go.Proofs.SlLaysZ.n7 Tryz.prog Tryz.keysM_ren:={
  mixed:=by kernel_rfl
  f7:=⟨Tryz.f50.name,by decide,Tryz.func50.trans (congrArg some (by kernel_rfl))⟩
  f10:=⟨Tryz.f64.name,by decide,Tryz.func64.trans (congrArg some (by kernel_rfl))⟩
  t0:=Tryz.underlying0
  a0:=Tryz.isAgg0
  z0:=Tryz.sizeOf0
  v0:=Tryz.zeroValue0
  t4:=Tryz.underlying4
  a4:=Tryz.isAgg4
  z4:=Tryz.sizeOf4
  v4:=Tryz.zeroValue4
  t23:=Tryz.underlying89
  a23:=Tryz.isAgg89
  z23:=Tryz.sizeOf89
  v23:=Tryz.zeroValue89
  t26:=Tryz.underlying9
  a26:=Tryz.isAgg9
  z26:=Tryz.sizeOf9
  v26:=Tryz.zeroValue9
  t27:=Tryz.underlying95
  a27:=Tryz.isAgg95
  z27:=Tryz.sizeOf95
  v27:=Tryz.zeroValue95
  t28:=Tryz.underlying96
  a28:=Tryz.isAgg96
  z28:=Tryz.sizeOf96
  v28:=Tryz.zeroValue96
  t33:=Tryz.underlying86
  a33:=Tryz.isAgg86
  z33:=Tryz.sizeOf86
  v33:=Tryz.zeroValue86 }
def Tryz.sortedM_ren:Go.Shelf.Ren:=⟨fun|6=>49|8=>62|9=>63|11=>81|13=>83|12=>82|23=>113|24=>114|14=>104|15=>105|16=>106|17=>107|18=>108|19=>109|20=>110|21=>111|22=>112|25=>137|26=>138|27=>139|28=>140|29=>141|30=>142|31=>155|n=>n,fun|26=>9|28=>96|24=>84|0=>0|3=>3|37=>122|48=>151|50=>153|4=>4|40=>145|39=>144|45=>82|5=>5|9=>9|51=>180|55=>184|57=>198|58=>199|33=>86|n=>n,fun|n=>n⟩
def Tryz.sortedM:Go.Proofs.SlLaysZ.n6 Tryz.prog Tryz.sortedM_ren:={
  mixed:=by kernel_rfl
  f6:=⟨Tryz.f49.name,by decide,Tryz.func49.trans (congrArg some (by kernel_rfl))⟩
  f8:=⟨Tryz.f62.name,by decide,Tryz.func62.trans (congrArg some (by kernel_rfl))⟩
  f11:=⟨Tryz.f81.name,by decide,Tryz.func81.trans (congrArg some (by kernel_rfl))⟩
  t0:=Tryz.underlying0
  a0:=Tryz.isAgg0
  z0:=Tryz.sizeOf0
  v0:=Tryz.zeroValue0
  t24:=Tryz.underlying84
  a24:=Tryz.isAgg84
  z24:=Tryz.sizeOf84
  v24:=Tryz.zeroValue84
  t26:=Tryz.underlying9
  a26:=Tryz.isAgg9
  z26:=Tryz.sizeOf9
  v26:=Tryz.zeroValue9
  t28:=Tryz.underlying96
  a28:=Tryz.isAgg96
  z28:=Tryz.sizeOf96
  v28:=Tryz.zeroValue96
  i26:=by kernel_rfl }
def Tryz.sortM_ren:Go.Shelf.Ren:=⟨fun|6=>63|8=>83|9=>82|19=>113|20=>114|21=>104|22=>105|23=>106|24=>107|25=>108|26=>109|27=>110|28=>111|29=>112|36=>137|31=>138|32=>139|37=>140|38=>141|39=>142|41=>155|n=>n,fun|27=>84|29=>9|3=>3|32=>122|26=>84|0=>0|44=>151|46=>153|4=>4|36=>145|35=>144|41=>82|5=>5|9=>9|53=>180|57=>184|63=>198|64=>199|n=>n,fun|n=>n⟩
def Tryz.sortM:Go.Proofs.SlLaysM.n6 Tryz.prog Tryz.sortM_ren:={
  mixed:=by kernel_rfl
  f6:=⟨Tryz.f63.name,by decide,Tryz.func63.trans (congrArg some (by kernel_rfl))⟩
  f8:=Tryz.func83.trans (congrArg some (by kernel_rfl))
  f9:=⟨Tryz.f82.name,by decide,Tryz.func82.trans (congrArg some (by kernel_rfl))⟩
  f19:=Tryz.func113.trans (congrArg some (by kernel_rfl))
  f20:=Tryz.func114.trans (congrArg some (by kernel_rfl))
  f21:=⟨Tryz.f104.name,by decide,Tryz.func104.trans (congrArg some (by kernel_rfl))⟩
  f22:=⟨Tryz.f105.name,by decide,Tryz.func105.trans (congrArg some (by kernel_rfl))⟩
  f23:=⟨Tryz.f106.name,by decide,Tryz.func106.trans (congrArg some (by kernel_rfl))⟩
  f24:=⟨Tryz.f107.name,by decide,Tryz.func107.trans (congrArg some (by kernel_rfl))⟩
  f25:=⟨Tryz.f108.name,by decide,Tryz.func108.trans (congrArg some (by kernel_rfl))⟩
  f26:=⟨Tryz.f109.name,by decide,Tryz.func109.trans (congrArg some (by kernel_rfl))⟩
  f27:=⟨Tryz.f110.name,by decide,Tryz.func110.trans (congrArg some (by kernel_rfl))⟩
  f28:=⟨Tryz.f111.name,by decide,Tryz.func111.trans (congrArg some (by kernel_rfl))⟩
  f29:=⟨Tryz.f112.name,by decide,Tryz.func112.trans (congrArg some (by kernel_rfl))⟩
  f31:=Tryz.func138.trans (congrArg some (by kernel_rfl))
  f32:=Tryz.func139.trans (congrArg some (by kernel_rfl))
  f36:=⟨Tryz.f137.name,by decide,Tryz.func137.trans (congrArg some (by kernel_rfl))⟩
  f37:=⟨Tryz.f140.name,by decide,Tryz.func140.trans (congrArg some (by kernel_rfl))⟩
  f38:=⟨Tryz.f141.name,by decide,Tryz.func141.trans (congrArg some (by kernel_rfl))⟩
  f39:=⟨Tryz.f142.name,by decide,Tryz.func142.trans (congrArg some (by kernel_rfl))⟩
  f41:=⟨Tryz.f155.name,by decide,Tryz.func155.trans (congrArg some (by kernel_rfl))⟩
  t0:=Tryz.underlying0
  a0:=Tryz.isAgg0
  z0:=Tryz.sizeOf0
  v0:=Tryz.zeroValue0
  t3:=Tryz.underlying3
  a3:=Tryz.isAgg3
  z3:=Tryz.sizeOf3
  v3:=Tryz.zeroValue3
  t4:=Tryz.underlying4
  a4:=Tryz.isAgg4
  z4:=Tryz.sizeOf4
  v4:=Tryz.zeroValue4
  t5:=Tryz.underlying5
  a5:=Tryz.isAgg5
  z5:=Tryz.sizeOf5
  v5:=Tryz.zeroValue5
  t9:=Tryz.underlying9
  a9:=Tryz.isAgg9
  z9:=Tryz.sizeOf9
  v9:=Tryz.zeroValue9
  t26:=Tryz.underlying84
  a26:=Tryz.isAgg84
  z26:=Tryz.sizeOf84
  v26:=Tryz.zeroValue84
  t27:=Tryz.underlying84
  a27:=Tryz.isAgg84
  z27:=Tryz.sizeOf84
  v27:=Tryz.zeroValue84
  t29:=Tryz.underlying9
  a29:=Tryz.isAgg9
  z29:=Tryz.sizeOf9
  v29:=Tryz.zeroValue9
  t32:=Tryz.underlying122
  a32:=Tryz.isAgg122
  z32:=Tryz.sizeOf122
  v32:=Tryz.zeroValue122
  t35:=Tryz.underlying144
  a35:=Tryz.isAgg144
  z35:=Tryz.sizeOf144
  v35:=Tryz.zeroValue144
  t36:=Tryz.underlying145
  a36:=Tryz.isAgg145
  z36:=Tryz.sizeOf145
  v36:=Tryz.zeroValue145
  t41:=Tryz.underlying82
  a41:=Tryz.isAgg82
  z41:=Tryz.sizeOf82
  v41:=Tryz.zeroValue82
  t44:=Tryz.underlying151
  a44:=Tryz.isAgg151
  z44:=Tryz.sizeOf151
  v44:=Tryz.zeroValue151
  t46:=Tryz.underlying153
  a46:=Tryz.isAgg153
  z46:=Tryz.sizeOf153
  v46:=Tryz.zeroValue153
  t53:=Tryz.underlying180
  a53:=Tryz.isAgg180
  z53:=Tryz.sizeOf180
  v53:=Tryz.zeroValue180
  t57:=Tryz.underlying184
  a57:=Tryz.isAgg184
  z57:=Tryz.sizeOf184
  v57:=Tryz.zeroValue184
  t63:=Tryz.underlying198
  a63:=Tryz.isAgg198
  z63:=Tryz.sizeOf198
  v63:=Tryz.zeroValue198
  t64:=Tryz.underlying199
  a64:=Tryz.isAgg199
  z64:=Tryz.sizeOf199
  v64:=Tryz.zeroValue199 }
def Tryz.sortsM (m:Nat):AnyZ.SortsIn Tryz.prog Tryz.sortedM_ren Fence.wide m :=
  ⟨fun blk off cap ss W hH hblk hsz=>bDl.2 (AnyM.slices_Sort_string Tryz.sortM blk off cap ss W hH hblk hsz),
   fun p cap W=>bDl.2 (AnyM.slices_Sort_string_none Tryz.sortM p cap W)⟩
def Tryz.mapsKeys (mb:Option Nat) (W:World):CallsIn Fence.wide 5 Tryz.prog 50 #[.map mb] W fun e w'=>e=.returned (.func (.func 64) #[] #[.pointer (some ⟨W.heap.size,0,none⟩)])∧w'=W.alloc (.cells #[.map mb] 89) :=
  AnyZ.keys_in Tryz.keysM Fence.wide 5 trivial rfl mb W
def Tryz.sortedKeys {H : Type} (b nn : Nat) (D0 : DataW H) (R : Value → Option (DataW H × List MemPlace)) (w : World) (hown : w.ownsMap Tryz.prog 9 R b nn D0) (hmax : Maps.size D0 ≤ maxLen) (hbytes : Maps.size D0 * 16 ≤ 140737488355328) :
    CallsIn Fence.wide 5 Tryz.prog 49 #[.func (.func 64) #[] #[.pointer (some ⟨w.heap.size,0,none⟩)]] (w.alloc (.cells #[.map (some b)] 89)) fun e w'=>∃ (v:Value) (ss:List (List UInt8)),e=.returned v∧ss.Perm (strKeys D0) ∧
      w'.ownsRow (w.alloc (.cells #[.map (some b)] 89)).heap.size 9 1 v ss.length ((ss.mergeSort (fun x y=>decide (x≤y))).map encStr)∧(v=.slice none 0 0↔ss=[])∧Below (w.alloc (.cells #[.map (some b)] 89)).heap.size (w.alloc (.cells #[.map (some b)] 89)) w':=by
  have hbl:=hown.lt
  have hseq:SeqGives Fence.wide 2 Tryz.prog 64 #[.pointer (some ⟨w.heap.size,0,none⟩)] encStr (fun ss=>ss.Perm (strKeys D0)) (Maps.size D0) (w.alloc (.cells #[.map (some b)] 89)) :=
    AnyZ.keys_gives (ρ:=Tryz.keysM_ren) { Tryz.keysM with } Fence.wide _ trivial rfl (by omega) w.heap.size b nn D0 _ (by simp) (by simp) (by
      obtain ⟨es,clock,hb,Ft,hs,hD⟩:=hown;exact ⟨es,clock,(Below.heap_alloc _ _ b hbl).trans hb,Ft,hs,hD⟩)
  exact AnyZ.sorted_in Tryz.sortedM Fence.wide 5 trivial trivial trivial trivial rfl (by omega) (Tryz.sortsM _) (enters_of Tryz.func63 (by kernel_rfl) rfl) 64 #[.pointer (some ⟨w.heap.size,0,none⟩)] trivial (enters_of Tryz.func64 (by kernel_rfl) rfl) _ _ hmax hbytes _ hseq
end Go.Proofs.Y
namespace Go.Tr
open Go Go.Eng
end Go.Tr
namespace Go.Proofs.Y
open Go Go.Eng Go.RowKit Go.Tr
def zYy (a b:List Ent) (ha:a.length≤140737488355328):HFun Tryz.prog 52 [.lst false (aG a),.lst false (aG b)] (fun h st=>h=.v (.bool (decide (a=b)))):=by
 refine bP (N:=26) Tryz.func52 rfl Tryz.ntmps52 Tryz.results52 (by simp) ?_
 refine goA 3 ?_;push_cast
 by_cases hl:a.length=b.length
 ·refine goA 5 ?_;push_cast(disch:=omega)[yV];refine goL (fun i:Nat=>⟨[(0,.lst false (aG a)),(1,.lst false (aG b)),(12,.v (.int .i64 a.length)),(13,.v (.int .i64 i))],[]⟩) (fun i=>i≤a.length∧a.take i=b.take i) (fun i=>a.length - i) [0,1,12,13] [] 0 rfl ⟨g7 _,rfl⟩ ?_
  rintro i ⟨hi,hp⟩
  by_cases hia:i < a.length
  ·have hib:i < b.length:=by omega
   refine goA 5 ?_;push_cast(disch:=omega)
   by_cases he:a[i]=b[i]
   ·have he':decide ((a[i].1,a[i].2.1,a[i].2.2)=(b[i].1,b[i].2.1,b[i].2.2))=true:=by rw [he];simp
    refine mA 9 mixed (by kernel_rfl) (fun K hK K1 hK1=>?_);push_cast(disch:=omega)[yV,yU,yW hia,yW hib,he']
    refine ⟨_,eqE _ _ _ _ _ _,?_⟩;with_reducible refine aS ?_;push_cast[he']
    refine hK1 _ ?_;(try clear hK1 K1);with_reducible refine aS ?_;push_cast[he']
    refine hK _ ?_;clear hK K;refine goK 3 ?_;push_cast(disch:=omega);exact ⟨i + 1,rfl,⟨hia,qNm hp hia hib he⟩,by omega⟩
   ·have he':decide ((a[i].1,a[i].2.1,a[i].2.2)=(b[i].1,b[i].2.1,b[i].2.2))=false:=b9 he
    refine mA 9 mixed (by kernel_rfl) (fun K hK K1 hK1=>?_);push_cast(disch:=omega)[yV,yU,yW hia,yW hib,he']
    refine ⟨_,eqE _ _ _ _ _ _,?_⟩;with_reducible refine aS ?_;push_cast[he']
    refine hK1 _ ?_;(try clear hK1 K1);with_reducible refine aS ?_;push_cast[he']
    refine hK _ ?_;clear hK K;refine goK 3 ?_;push_cast;refine aQ ?_;rw [b9 (fun e=>he (by subst e;rfl))]
  ·refine goA 5 ?_;push_cast(disch:=omega);refine aQ ?_;rw [m9 (by omega),m9 (by omega)] at hp
   rw [i7 hp]
 ·refine goA 5 ?_;push_cast(disch:=omega)[yV];refine aQ ?_;rw [b9 (fun e=>hl (by rw [e]))]
def qD3 (a b:List Ent) (ha:a.length≤140737488355328):HFun Tryz.prog 31 [.lst false (aG a),.lst false (aG b)] (fun h st=>h=.v (.bool (decide (a=b)))):=by
 refine bP (N:=8) Tryz.func31 rfl Tryz.ntmps31 Tryz.results31 (by simp) ?_
 refine goA 5 ?_;push_cast;refine cVt yKx (zYy a b ha) (.cons (aD (yT _)) (.cons (aD (yT _)) .nil)) ?_;push_cast;exact aQ rfl
end Go.Proofs.Y
namespace Go.Rc
open Go Go.Eng Go.RowKit Go.Tr Go.Dk
structure TB (t:List Ent):Prop where
 rise:rise t
 len:t.length≤1000
 sz:∀ e ∈ t,e.1.size≤1048576
 dat:∀ e ∈ t,e.2.2.size≤4096
def trN (A H S:List Ent) (i:Nat):List Ent:=[A,H,S].getD i []
abbrev nmV (L:LN):MTab:=tab zWj L
def nmI (top:Ba) (A H S:List Ent):Nat→LN
|0=>[]
|i + 1=>(trN A H S i).foldl (cX top) (nmI top A H S i)
def zWm (top:Ba) (A H S:List Ent):nmI top A H S 3=lB top (A ++ H ++ S):=by
 rw [lB,bC8,bC8];rfl
def zWl {t:List Ent} {top:Ba} {L0 L:LN} {j:Nat} (h:j < t.length) (hL:L=(t.take j).foldl (cX top) L0):(t.take (j + 1)).foldl (cX top) L0=cX top L t[j]:=by
 rw [d7 h,bC8,← hL];rfl
def qFq {n m:Int} {L:LN} (h:n≤m) (hv:qW3 n L):qW3 m L:=fun x hx=>⟨(hv x hx).1,Int.le_trans (hv x hx).2 h⟩
def qBk {p q:Ba} (h:bN p q=true):q.size≤p.size:=by
 by_cases hq:q={ data:=#[] }
 ·subst hq;exact g7 _
 ·obtain ⟨t,ht,-⟩:=iA h hq;rw [Lib.size_eq p,ht,i8,← Lib.size_eq];omega
def zGb {top:Ba} {L:LN} {e:Ent} (h:cK top e=none):cX top L e=L:=by rw [cX,h]
def qNp {top q:Ba} {L:LN} {e:Ent} (h:cK top e=some q):cX top L e=put q ((iN L q).getD 0 + 1) L:=by rw [cX,h]
def yAu {A H S:List Ent} (hA:TB A) (hH:TB H) (hS:TB S) {i:Nat} (h:i < 3):TB (trN A H S i):=by
 rcases i with _|_|_|i
 ·exact hA
 ·exact hH
 ·exact hS
 ·omega
def zUi (A H S:List Ent) {i:Nat} (h:i < 3):([HV.lst false (aG A),.lst false (aG H),.lst false (aG S)]:List HV)[i]?=some (.lst false (aG (trN A H S i))):=by
 rcases i with _|_|_|i
 ·rfl
 ·rfl
 ·rfl
 ·omega
end Go.Rc
namespace Go.Proofs.Y
open Go Go.Eng Go.RowKit Go.Tr Go.Dk Go.Rc
def qMj {mg:(Int × Ba)→(Int × Ba)→(Int × Ba)→Bool} {A H S:List Ent} (hA:TB A) (hH:TB H) (hS:TB S) (k:Nat) (top:Ba) (htop:top.size≤1048576)
  (IH:∀ p ∈ (lB top (A ++ H ++ S)).map (fun e=>e.1),∀ out:LN,out.length + (gP mg (bQ mg A H S k) A H S p).length≤1000000→HFunS Tryz.prog 51 [.ptr 0 4 0 0,.v (.string p)] (wgS A H S out) (fun h st=>h=.tup []∧st=wgS A H S (out ++ gP mg (bQ mg A H S k) A H S p)))
  (out:LN) (hout:out.length + (bQ mg A H S (k + 1) top).length≤1000000) :
  HFunS Tryz.prog 29 [.ptr 0 4 0 0,.v (.string top)] (wgS A H S out) (fun h st=>h=.tup []∧st=wgS A H S (out ++ bQ mg A H S (k + 1) top)):=by
 refine yAh (N:=82) Tryz.func29 rfl Tryz.ntmps29 Tryz.results29 (by simp) ?_
 refine yEg ?_
 (repeat first|refine bD ?_|refine aL ?_|refine aX ?_|refine aM ?_|refine bC ?_)
 refine qSq ?_;refine zTx (cp:=none) rfl rfl rfl kS fun r=>?_
 refine qCs 1 (fun K1 hK1=>?_);push_cast[xP,tK];refine hK1 _ ?_;(try clear hK1 K1)
 refine qJw ?_
 (repeat first|refine bD ?_|refine aL ?_|refine aX ?_|refine aM ?_|refine bC ?_);refine zZy 14 mixed (by kernel_rfl) (fun K1 hK1=>?_);push_cast
 refine hK1 _ ?_;(try clear hK1 K1);refine qJw ?_;refine sT [0,1,4,28,29] [0,1] (by simp only [zZ,zR,zP,zQ,zN,zS,zM,zX,zU,Nat.reduceEqDiff,reduceIte];exact rfl) ?_
 (repeat first|refine bD ?_|refine aL ?_|refine aX ?_|refine aM ?_|refine bC ?_)
 refine qMo (ι:=Nat × Nat × LN) (fun q=>⟨[(0,.ptr 0 4 0 0),(1,.v (.string top)),(4,.v (.map (some r))),(28,.agg [.lst false (aG A),.lst false (aG H),.lst false (aG S)]),(29,.v (.int .i64 (q.1:Int)))],wgS A H S out⟩)
  (fun q=>[.map r kS q.2.1 (nmV q.2.2)]) (fun q=>q.1≤3∧q.2.2=nmI top A H S q.1∧q.2.1≤1000 * q.1∧qW3 ((1000 * q.1:Nat):Int) q.2.2) (fun q=>3 - q.1) [0,1,4,28,29] [0,1] (0,0,[]) rfl rfl
  ⟨g7 _,rfl,a7 _,fun x hx=>by cases hx⟩ ?_
 rintro ⟨i,n,L⟩ ⟨hi,hL,hn,hv⟩;dsimp only at hi hL hn hv ⊢
 rcases (Decidable.em (i < 3)).symm with h1|h1
 ·have hi3:i=3:=by omega
  subst hi3;rw [zWm] at hL
  (repeat first|refine bD ?_|refine aL ?_|refine aX ?_|refine aM ?_|refine bC ?_);refine dG (fun K hK=>?_);push_cast;refine hK _ ?_;clear hK K
  (repeat first|refine bD ?_|refine aL ?_|refine aX ?_|refine aM ?_|refine bC ?_)
  refine qY rfl ?_
  (repeat first|refine jK ?_|refine gG ?_|refine gJ ?_|refine fA rfl ?_|refine jL ?_|refine aM ?_|refine bD ?_|refine aL ?_|refine aX ?_|refine gN ?_|refine jR ?_)
  have hRi:qJa L:=by rw [hL];exact xN _ _ List.Pairwise.nil
  obtain ⟨ks,hks⟩:∃ ks,iX L=ks:=⟨_,rfl⟩
  have hbel:bQ mg A H S (k + 1) top=ks.flatMap (gP mg (bQ mg A H S k) A H S):=by rw [bQ,← hks,hL];rfl
  have hkm:∀ p ∈ ks,p ∈ (lB top (A ++ H ++ S)).map (fun e=>e.1):=fun p hp=>by rw [← hks,hL] at hp;exact hp
  have hkl:ks.length≤3000:=by
   have e1:ks.length=L.length:=by rw [← hks];simp [iX]
   have e2:=qPb (top:=top) (A ++ H ++ S) []
   rw [i8,i8,bAj,← lB,← hL] at e2
   have:=hA.len
   have:=hH.len
   have:=hS.len
   omega
  (repeat first|refine bD ?_|refine aL ?_|refine aX ?_|refine aM ?_|refine bC ?_);refine qSq ?_;refine qCs 1 (fun K1 hK1=>?_);push_cast;refine hK1 _ ?_;(try clear hK1 K1)
  refine zTz (i:=0) (fI:=64) (tM:=89) 576 hRi (by omega) (by kernel_rfl) rfl rfl rfl rfl rfl rfl rfl rfl yKz yK0 (fun b W=>(bDl.1 (Tryz.mapsKeys (some b) W))) (fun b nn D0 w hown hmax hbytes=>bDl.1 (Tryz.sortedKeys b nn D0 _ w hown hmax hbytes)) rfl rfl ?_
  refine qCs 2 (fun K1 hK1=>?_);push_cast[xP,tK,aJ];refine hK1 _ ?_;(try clear hK1 K1)
  refine qJw ?_;rw [hks];refine sT [0,72,73,74] [0,1,576] (by simp only [zZ,zR,zP,zQ,zN,zS,zM,zX,zU,Nat.reduceEqDiff,reduceIte];exact rfl) ?_
  (repeat first|refine bD ?_|refine aL ?_|refine aX ?_|refine aM ?_|refine bC ?_)
  obtain ⟨W,hW⟩:∃ W,gP mg (bQ mg A H S k) A H S=W:=⟨_,rfl⟩;rw [hW] at IH hbel;rw [hbel] at hout ⊢;refine qMo (ι:=Nat × LN) (fun q=>⟨[(0,.ptr 0 4 0 0),(72,.own 576),(73,.v (.int .i64 (ks.length:Int))),(74,.v (.int .i64 (q.1:Int)))],[(0,wgR A H S),(1,.sl true 53 2 (itl q.2)),(576,.sl true 9 1 (aR ks))]⟩)
   (fun q=>[.map r kS n (nmV L)]) (fun q=>q.1≤ks.length∧q.2=out ++ (ks.take q.1).flatMap W) (fun q=>ks.length - q.1) [0,72,73,74] [0,1,576] (0,out) rfl rfl
   ⟨g7 _,by simp⟩ ?_
  rintro ⟨j,o⟩ ⟨hj,ho⟩;dsimp only at hj ho ⊢
  rcases (Decidable.em (j < ks.length)).symm with h2|h2
  ·have hjl:j=ks.length:=by omega
   rw [hjl,t6] at ho
   (repeat first|refine bD ?_|refine aL ?_|refine aX ?_|refine aM ?_|refine bC ?_);refine dG (fun K hK=>?_);push_cast(disch:=omega);refine hK _ ?_;clear hK K
   (repeat first|refine bD ?_|refine aL ?_|refine aX ?_|refine aM ?_|refine bC ?_)
   refine qY rfl ?_
   (repeat first|refine jK ?_|refine gG ?_|refine gJ ?_|refine fA rfl ?_|refine jL ?_|refine aM ?_|refine bD ?_|refine aL ?_|refine aX ?_|refine gN ?_|refine jR ?_)
   simp only [qC4,qLr,yH,yE,yK,yJ,qVg,zS,zM,Nat.reduceEqDiff,reduceIte,reduceCtorEq];refine yAg [0,1] (by decide) (by decide) (by push_cast) (by push_cast) (by push_cast;rfl) (by push_cast;rfl) ?_
   exact ⟨rfl,by rw [ho]⟩
  obtain ⟨p,hp⟩:∃ p,p=ks[j]:=⟨_,rfl⟩
  have hgp:(aR ks).getD j []=[FV.v (.string p)]:=by rw [dM h2,hp]
  have hpm:=hkm p (by rw [hp];exact c7 h2)
  have htk:ks.take (j + 1)=ks.take j ++ [p]:=by rw [hp];exact d7 h2
  have hfl:(ks.take (j + 1)).flatMap W=(ks.take j).flatMap W ++ W p:=by rw [htk,bAt];simp
  have hlen:o.length + (W p).length≤1000000:=by
   have e1:ks.flatMap W=(ks.take (j + 1)).flatMap W ++ (ks.drop (j + 1)).flatMap W:=by rw [← bAt,x5]
   have e2:=congrArg List.length e1
   rw [hfl,i8,i8] at e2;rw [ho,i8];omega
  have cw:=IH p hpm o hlen
  (repeat first|refine bD ?_|refine aL ?_|refine aX ?_|refine aM ?_|refine bC ?_);refine dG (fun K hK=>?_);push_cast(disch:=omega);refine hK _ ?_;clear hK K
  (repeat first|refine bD ?_|refine aL ?_|refine aX ?_|refine aM ?_|refine bC ?_)
  refine qBc rfl ?_
  (repeat first|refine bD ?_|refine aL ?_|refine aX ?_|refine aM ?_|refine bC ?_);refine dG (fun K hK=>?_);push_cast(disch:=omega)[aJ,bK,hgp];(repeat refine ⟨by first|omega|decide|((repeat' apply And.intro) <;> first|omega|decide),?_⟩);refine hK _ ?_;clear hK K
  (repeat first|refine bD ?_|refine aL ?_|refine aX ?_|refine aM ?_|refine bC ?_);refine dG (fun K hK=>?_);push_cast
  refine zBt 640 [0,1] yKy (cw) rfl (by decide) (by decide) (by push_cast;try rfl) (by push_cast;try rfl) ?_
  rintro _ _ ⟨rfl,rfl⟩;refine aS ?_;push_cast;refine hK _ ?_;clear hK K
  (repeat first|refine jK ?_|refine gG ?_|refine gJ ?_|refine fA rfl ?_|refine jL ?_|refine aM ?_|refine bD ?_|refine aL ?_|refine aX ?_|refine gN ?_|refine jR ?_)
  (repeat first|refine bD ?_|refine aL ?_|refine aX ?_|refine aM ?_|refine bC ?_);refine dG (fun K hK=>?_);push_cast(disch:=omega);refine hK _ ?_;clear hK K
  (repeat first|refine jK ?_|refine gG ?_|refine gJ ?_|refine fA rfl ?_|refine jL ?_|refine aM ?_|refine bD ?_|refine aL ?_|refine aX ?_|refine gN ?_|refine jR ?_)
  refine ⟨(j + 1,o ++ W p),?_,rfl,⟨h2,by rw [hfl,ho,u6]⟩,by dsimp only;omega⟩
  dsimp only;rw [show (((j + 1:Nat):Int))=(j:Int) + 1 from bB3 j]
  rfl
 have htb:=yAu hA hH hS h1
 have hge:=zUi A H S h1
 obtain ⟨t,ht⟩:∃ t,trN A H S i=t:=⟨_,rfl⟩;rw [ht] at htb hge
 have htl:=htb.len
 (repeat first|refine bD ?_|refine aL ?_|refine aX ?_|refine aM ?_|refine bC ?_);refine dG (fun K hK=>?_);push_cast(disch:=omega);refine hK _ ?_;clear hK K
 (repeat first|refine bD ?_|refine aL ?_|refine aX ?_|refine aM ?_|refine bC ?_)
 refine qBc rfl ?_
 (repeat first|refine bD ?_|refine aL ?_|refine aX ?_|refine aM ?_|refine bC ?_);refine dG (fun K hK=>?_);push_cast(disch:=omega)[hge];(repeat refine ⟨by first|omega|decide|((repeat' apply And.intro) <;> first|omega|decide),?_⟩);refine hK _ ?_;clear hK K
 (repeat first|refine bD ?_|refine aL ?_|refine aX ?_|refine aM ?_|refine bC ?_);refine dG (fun K hK=>?_);push_cast[yV];refine hK _ ?_;clear hK K
 refine sT [0,1,4,28,29,32,33,34] [0,1] (by simp only [zZ,zR,zP,zQ,zN,zS,zM,zX,zU,Nat.reduceEqDiff,reduceIte];exact rfl) ?_
 (repeat first|refine bD ?_|refine aL ?_|refine aX ?_|refine aM ?_|refine bC ?_)
 refine qMo (ι:=Nat × Nat × LN) (fun q=>⟨[(0,.ptr 0 4 0 0),(1,.v (.string top)),(4,.v (.map (some r))),(28,.agg [.lst false (aG A),.lst false (aG H),.lst false (aG S)]),(29,.v (.int .i64 (i:Int))),(32,.lst false (aG t)),(33,.v (.int .i64 (t.length:Int))),(34,.v (.int .i64 (q.1:Int)))],wgS A H S out⟩)
  (fun q=>[.map r kS q.2.1 (nmV q.2.2)]) (fun q=>q.1≤t.length∧q.2.2=(t.take q.1).foldl (cX top) L∧q.2.1≤1000 * i + q.1∧qW3 ((1000 * i + q.1:Nat):Int) q.2.2) (fun q=>t.length - q.1) [0,1,4,28,29,32,33,34] [0,1] (0,n,L) rfl rfl
  ⟨g7 _,rfl,hn,hv⟩ ?_
 rintro ⟨j,m,M⟩ ⟨hj,hM,hm,hw⟩;dsimp only at hj hM hm hw ⊢
 rcases (Decidable.em (j < t.length)).symm with h2|h2
 ·have hjl:j=t.length:=by omega
  rw [hjl,t6] at hM
  (repeat first|refine bD ?_|refine aL ?_|refine aX ?_|refine aM ?_|refine bC ?_);refine dG (fun K hK=>?_);push_cast(disch:=omega);refine hK _ ?_;clear hK K
  (repeat first|refine bD ?_|refine aL ?_|refine aX ?_|refine aM ?_|refine bC ?_)
  refine qY rfl ?_
  (repeat first|refine jK ?_|refine gG ?_|refine gJ ?_|refine fA rfl ?_|refine jL ?_|refine aM ?_|refine bD ?_|refine aL ?_|refine aX ?_|refine gN ?_|refine jR ?_)
  (repeat first|refine bD ?_|refine aL ?_|refine aX ?_|refine aM ?_|refine bC ?_);refine dG (fun K hK=>?_);push_cast(disch:=omega);refine hK _ ?_;clear hK K
  (repeat first|refine jK ?_|refine gG ?_|refine gJ ?_|refine fA rfl ?_|refine jL ?_|refine aM ?_|refine bD ?_|refine aL ?_|refine aX ?_|refine gN ?_|refine jR ?_)
  refine ⟨(i + 1,m,M),?_,rfl,⟨h1,?_,by dsimp only;omega,qFq (by dsimp only;omega) hw⟩,by dsimp only;omega⟩
  ·dsimp only;rw [show (((i + 1:Nat):Int))=(i:Int) + 1 from bB3 i]
   rfl
  ·show M=nmI top A H S (i + 1)
   rw [hM,hL,nmI,ht]
 have hnx:=zWl h2 hM
 have hes:=htb.sz _ (c7 h2)
 obtain ⟨e,he⟩:∃ e,t[j]=e:=⟨_,rfl⟩
 have heg:(aG t).getD j []=[FV.v (.string e.1),.v (.int .i64 e.2.1),.v (.string e.2.2)]:=by rw [yW h2,he]
 rw [he] at hnx hes;obtain ⟨ep,ek,ed⟩:=e;dsimp only at heg hes
 have skip:cK top (ep,ek,ed)=none→j + 1≤t.length∧M=(t.take (j + 1)).foldl (cX top) L∧m≤1000 * i + (j + 1)∧qW3 ((1000 * i + (j + 1):Nat):Int) M:=fun h =>
  ⟨h2,by rw [hnx,zGb h],by omega,qFq (by omega) hw⟩
 (repeat first|refine bD ?_|refine aL ?_|refine aX ?_|refine aM ?_|refine bC ?_);refine dG (fun K hK=>?_);push_cast(disch:=omega);refine hK _ ?_;clear hK K
 (repeat first|refine bD ?_|refine aL ?_|refine aX ?_|refine aM ?_|refine bC ?_)
 refine qBc rfl ?_
 (repeat first|refine bD ?_|refine aL ?_|refine aX ?_|refine aM ?_|refine bC ?_);refine dG (fun K hK=>?_);push_cast(disch:=omega)[yV,yU,heg];(repeat refine ⟨by first|omega|decide|((repeat' apply And.intro) <;> first|omega|decide),?_⟩);refine hK _ ?_;clear hK K
 refine sT [0,1,4,8,28,29,32,33,34] [0,1,64] (by simp only [zZ,zR,zP,zQ,zN,zS,zM,zX,zU,Nat.reduceEqDiff,reduceIte];exact rfl) ?_
 cases e1:decide (ep=top) with
|true =>
  have hinv:=skip (by rw [cK,g8 (.inl (u7 e1))])
  (repeat first|refine bD ?_|refine aL ?_|refine aX ?_|refine aM ?_|refine bC ?_);refine dG (fun K hK=>?_);push_cast[e1];(repeat refine ⟨by first|omega|decide|((repeat' apply And.intro) <;> first|omega|decide),?_⟩);refine hK _ ?_;clear hK K
  (repeat first|refine bD ?_|refine aL ?_|refine aX ?_|refine aM ?_|refine bC ?_)
  refine qY rfl ?_
  (repeat first|refine jK ?_|refine gG ?_|refine gJ ?_|refine fA rfl ?_|refine jL ?_|refine aM ?_|refine bD ?_|refine aL ?_|refine aX ?_|refine gN ?_|refine jR ?_)
  (repeat first|refine bD ?_|refine aL ?_|refine aX ?_|refine aM ?_|refine bC ?_);refine dG (fun K hK=>?_);push_cast(disch:=omega);refine hK _ ?_;clear hK K
  (repeat first|refine jK ?_|refine gG ?_|refine gJ ?_|refine fA rfl ?_|refine jL ?_|refine aM ?_|refine bD ?_|refine aL ?_|refine aX ?_|refine gN ?_|refine jR ?_)
  refine ⟨(j + 1,m,M),?_,rfl,hinv,by dsimp only;omega⟩
  dsimp only;rw [show (((j + 1:Nat):Int))=(j:Int) + 1 from bB3 j]
  rfl
|false =>
 have cu:=qJb ep top hes htop
 cases hu:bN ep top with
|false =>
  rw [hu] at cu
  have hinv:=skip (by rw [cK,g8 (.inr (.inl hu))])
  (repeat first|refine bD ?_|refine aL ?_|refine aX ?_|refine aM ?_|refine bC ?_);refine dG (fun K hK=>?_);push_cast[e1]
  refine zBs zS3 cu (.cons (.v _) (.cons (.v _) .nil)) ?_;with_reducible refine aS ?_;push_cast
  refine hK _ ?_;clear hK K
  (repeat first|refine bD ?_|refine aL ?_|refine aX ?_|refine aM ?_|refine bC ?_)
  refine qY rfl ?_
  (repeat first|refine jK ?_|refine gG ?_|refine gJ ?_|refine fA rfl ?_|refine jL ?_|refine aM ?_|refine bD ?_|refine aL ?_|refine aX ?_|refine gN ?_|refine jR ?_)
  (repeat first|refine bD ?_|refine aL ?_|refine aX ?_|refine aM ?_|refine bC ?_);refine dG (fun K hK=>?_);push_cast(disch:=omega);refine hK _ ?_;clear hK K
  (repeat first|refine jK ?_|refine gG ?_|refine gJ ?_|refine fA rfl ?_|refine jL ?_|refine aM ?_|refine bD ?_|refine aL ?_|refine aX ?_|refine gN ?_|refine jR ?_)
  refine ⟨(j + 1,m,M),?_,rfl,hinv,by dsimp only;omega⟩
  dsimp only;rw [show (((j + 1:Nat):Int))=(j:Int) + 1 from bB3 j]
  rfl
|true =>
 rw [hu] at cu
 have hts:=qBk hu
 (repeat first|refine bD ?_|refine aL ?_|refine aX ?_|refine aM ?_|refine bC ?_);refine dG (fun K hK=>?_);push_cast[e1]
 refine zBs zS3 cu (.cons (.v _) (.cons (.v _) .nil)) ?_;with_reducible refine aS ?_;push_cast
 refine hK _ ?_;clear hK K
 (repeat first|refine bD ?_|refine aL ?_|refine aX ?_|refine aM ?_|refine bC ?_)
 refine qBc rfl ?_;refine sT [0,1,4,8,28,29,32,33,34] [0,1,64] (by simp only [zZ,zR,zP,zQ,zN,zS,zM,zX,zU,Nat.reduceEqDiff,reduceIte];exact rfl) ?_
 have ct:=yAt (ep.extract top.size ep.size)
 have hxs:(sW (ep.extract top.size ep.size)).size≤1048576:=by
  have e2:(ep.extract top.size ep.size).size≤ep.size:=by rw [bAl];omega
  unfold sW;split
  ·rw [bAl];omega
  ·omega
 (repeat first|refine bD ?_|refine aL ?_|refine aX ?_|refine aM ?_|refine bC ?_);refine dG (fun K hK=>?_);push_cast
 refine ⟨⟨by omega,by omega,by omega⟩,?_⟩
 refine zBs yK3 ct (.cons (.v _) (.cons (.v _) .nil)) ?_;with_reducible refine aS ?_;push_cast
 refine hK _ ?_;clear hK K;refine sT [0,1,4,9,28,29,32,33,34] [0,1] (by simp only [zZ,zR,zP,zQ,zN,zS,zM,zX,zU,Nat.reduceEqDiff,reduceIte];exact rfl) ?_
 (repeat first|refine bD ?_|refine aL ?_|refine aX ?_|refine aM ?_|refine bC ?_);refine dG (fun K hK=>?_);push_cast
 refine qH8 yK2 (yA3 _ hxs) (.cons (.v _) (.cons (.v _) .nil)) ?_;with_reducible refine aS ?_;push_cast
 refine hK _ ?_;clear hK K;obtain ⟨f,hf⟩:∃ f,vol (sW (ep.extract top.size ep.size))=f:=⟨_,rfl⟩
 have hff:jG ep top=f:=hf
 have hfs:f.size≤1048576:=by rw [← hf];exact l5 (zM1 _) hxs
 rw [hf];refine sT [0,1,4,10,28,29,32,33,34] [0,1] (by simp only [zZ,zR,zP,zQ,zN,zS,zM,zX,zU,Nat.reduceEqDiff,reduceIte];exact rfl) ?_
 cases e2:decide (f={ data:=#[] }) with
|true =>
  have hinv:=skip (by rw [cK,g8 (.inr (.inr (by show jG ep top=_;rw [hff];exact u7 e2)))])
  (repeat first|refine bD ?_|refine aL ?_|refine aX ?_|refine aM ?_|refine bC ?_);refine dG (fun K hK=>?_);push_cast[e2];(repeat refine ⟨by first|omega|decide|((repeat' apply And.intro) <;> first|omega|decide),?_⟩);refine hK _ ?_;clear hK K
  (repeat first|refine bD ?_|refine aL ?_|refine aX ?_|refine aM ?_|refine bC ?_)
  refine qY rfl ?_
  (repeat first|refine jK ?_|refine gG ?_|refine gJ ?_|refine fA rfl ?_|refine jL ?_|refine aM ?_|refine bD ?_|refine aL ?_|refine aX ?_|refine gN ?_|refine jR ?_)
  (repeat first|refine bD ?_|refine aL ?_|refine aX ?_|refine aM ?_|refine bC ?_);refine dG (fun K hK=>?_);push_cast(disch:=omega);refine hK _ ?_;clear hK K
  (repeat first|refine jK ?_|refine gG ?_|refine gJ ?_|refine fA rfl ?_|refine jL ?_|refine aM ?_|refine bD ?_|refine aL ?_|refine aX ?_|refine gN ?_|refine jR ?_)
  refine ⟨(j + 1,m,M),?_,rfl,hinv,by dsimp only;omega⟩
  dsimp only;rw [show (((j + 1:Nat):Int))=(j:Int) + 1 from bB3 j]
  rfl
|false =>
 have hno:cK top (ep,ek,ed)=some (qC3 top f):=by
  rw [cK,b7]
  ·show some (qC3 top (jG ep top))=_
   rw [hff]
  ·show ¬ (ep=top∨bN ep top=false∨jG ep top=_)
   rw [hff,hu];simp only [bE2];exact ⟨x8 e1,by decide,x8 e2⟩
 have hqs:=iE hno
 have hq2:(qC3 top f).size≤1048576:=l5 hqs.2 hes
 have cj:=zV9 top f htop hfs
 rw [qNp hno] at hnx;generalize qC3 top f=q at hno hqs hq2 cj hnx
 (repeat first|refine bD ?_|refine aL ?_|refine aX ?_|refine aM ?_|refine bC ?_);refine dG (fun K hK=>?_);push_cast[e2];(repeat refine ⟨by first|omega|decide|((repeat' apply And.intro) <;> first|omega|decide),?_⟩);refine hK _ ?_;clear hK K
 (repeat first|refine bD ?_|refine aL ?_|refine aX ?_|refine aM ?_|refine bC ?_)
 refine qBc rfl ?_
 (repeat first|refine bD ?_|refine aL ?_|refine aX ?_|refine aM ?_|refine bC ?_);refine qSq ?_;refine qCs 4 (fun K1 hK1=>?_);push_cast
 refine zBs yK1 cj (.cons (.v _) (.cons (.v _) .nil)) ?_;with_reducible refine aS ?_;push_cast
 refine hK1 _ ?_;(try clear hK1 K1)
 have hlv:=qLa hw (by omega) q
 obtain ⟨v,hvv⟩:∃ v,(iN M q).getD 0=v:=⟨_,rfl⟩;rw [hvv] at hlv hnx
 have hlk:zEp (nmV M q.data.toList) (.int .i64 0) false=.v (.int .i64 v):=by rw [← hvv,← zPz];rfl
 refine zTy (i:=0) mtL rfl rfl rfl rfl rfl rfl (mx hq2) ?_;rw [hlk]
 have hwr:IntKind.i64.wrap (v + 1)=v + 1:=by rw [IntKind.wrap_i64];omega
 refine qCs 1 (fun K1 hK1=>?_);push_cast[xP,tK,hwr];refine hK1 _ ?_;(try clear hK1 K1)
 have hmx:m < maxLen:=by simp only [maxLen];omega
 refine zZ1 (i:=0) mtL rfl rfl rfl rfl (hmx) rfl rfl (mx hq2) rfl rfl ?_;refine qCs 0 (fun K1 hK1=>?_);push_cast[xP,tK];refine hK1 _ ?_;(try clear hK1 K1)
 refine qJw ?_
 (repeat first|refine jK ?_|refine gG ?_|refine gJ ?_|refine fA rfl ?_|refine jL ?_|refine aM ?_|refine bD ?_|refine aL ?_|refine aX ?_|refine gN ?_|refine jR ?_)
 (repeat first|refine bD ?_|refine aL ?_|refine aX ?_|refine aM ?_|refine bC ?_);refine dG (fun K hK=>?_);push_cast(disch:=omega);refine hK _ ?_;clear hK K
 (repeat first|refine jK ?_|refine gG ?_|refine gJ ?_|refine fA rfl ?_|refine jL ?_|refine aM ?_|refine bD ?_|refine aL ?_|refine aX ?_|refine gN ?_|refine jR ?_)
 refine ⟨(j + 1,m + 1,put q (v + 1) M),?_,?_,⟨h2,hnx.symm,by dsimp only;omega,?_⟩,by dsimp only;omega⟩
 ·dsimp only;rw [show (((j + 1:Nat):Int))=(j:Int) + 1 from bB3 j]
  rfl
 ·dsimp only;rw [show nmV (put q (v + 1) M)=(nmV M).put q.data.toList (Value.int .i64 (v + 1)) from (zUk zWj M q (v + 1)).symm]
  rfl
 ·have h3:=zGa (top:=top) (ep,ek,ed) hw (by omega)
  rw [qNp hno,hvv] at h3;exact qFq (by dsimp only;omega) h3
abbrev zMr (mg:(Int × Ba)→(Int × Ba)→(Int × Ba)→Bool):Prop:=∀ a h s:Int × Ba,a.2.size≤4096→h.2.size≤4096→s.2.size≤4096 →
 ∃ n,HFun Tryz.prog 33 [cY a,cY h,cY s] (fun r st=>r=.tup [cY n,.v (.bool (mg a h s))]∧st=[])
def fP {t:List Ent} (h:TB t) (p:Ba):(aV t p).2.size≤4096:=by
 unfold aV
 cases hf:t.find? (fun e=>decide (e.1=p)) with
|none=>exact g7 _
|some e=>exact h.dat e (bDf hf)
def qXf {mg:(Int × Ba)→(Int × Ba)→(Int × Ba)→Bool} {A H S:List Ent} (hA:TB A) (hH:TB H) (hS:TB S) (hm:(H=S∨H=A∨S=A)∨zMr mg) (k:Nat) (p:Ba) (hp:p.size≤1048576)
  (IH:∀ out:LN,out.length + (bQ mg A H S k p).length≤1000000→HFunS Tryz.prog 29 [.ptr 0 4 0 0,.v (.string p)] (wgS A H S out) (fun h st=>h=.tup []∧st=wgS A H S (out ++ bQ mg A H S k p)))
  (out:LN) (hout:out.length + (gP mg (bQ mg A H S k) A H S p).length≤1000000) :
  HFunS Tryz.prog 51 [.ptr 0 4 0 0,.v (.string p)] (wgS A H S out) (fun h st=>h=.tup []∧st=wgS A H S (out ++ gP mg (bQ mg A H S k) A H S p)):=by
 refine pV (N:=105) Tryz.func51 rfl Tryz.ntmps51 Tryz.results51 (by simp) ?_
 have sA:=vA A p (by have:=hA.len;omega) hA.sz hp
 have sH:=vA H p (by have:=hH.len;omega) hH.sz hp
 have sS:=vA S p (by have:=hS.len;omega) hS.sz hp
 have gA:=mU A p hA.rise (by have:=hA.len;omega)
 have gH:=mU H p hH.rise (by have:=hH.len;omega)
 have gS:=mU S p hS.rise (by have:=hS.len;omega)
 refine goA 1 ?_;push_cast;refine fT 18 [] [wgS A H S out] [(0,0,0),(1,0,0),(2,0,0),(3,0,0),(4,0,0),(5,0,0),(6,0,0),(7,0,0),(8,0,0),(9,0,0),(10,0,0),(11,0,0),(12,0,0),(13,0,0),(14,0,0),(15,0,0),(16,0,0),(17,0,0)] mixed (by kernel_rfl) (by kernel_rfl) rfl (fun K hK K1 hK1=>?_);push_cast[bBn,a7]
 refine qC5 qGu sA (.cons (aD (yT _)) (.cons (.v _) .nil)) ?_;with_reducible refine aS ?_;push_cast
 refine qC5 qGu sH (.cons (aD (yT _)) (.cons (.v _) .nil)) ?_;with_reducible refine aS ?_;push_cast
 refine qC5 qGu sS (.cons (aD (yT _)) (.cons (.v _) .nil)) ?_;with_reducible refine aS ?_;push_cast
 refine hK1 _ ?_;(try clear hK1 K1);with_reducible refine aS ?_;push_cast
 refine hK _ ?_;clear hK K;refine goP [0,1,4,5,6] [0,1] ?_;obtain ⟨tA,hsA⟩:∃ t,dX A p=t:=⟨_,rfl⟩;obtain ⟨tH,hsH⟩:∃ t,dX H p=t:=⟨_,rfl⟩;obtain ⟨tS,hsS⟩:∃ t,dX S p=t:=⟨_,rfl⟩
 have lA:tA.length≤140737488355328:=by
  have:=hA.len
  have e:tA.length≤A.length:=by rw [← hsA];exact p7 ..
  omega
 have lH:tH.length≤140737488355328:=by
  have:=hH.len
  have e:tH.length≤H.length:=by rw [← hsH];exact p7 ..
  omega
 have lS:tS.length≤140737488355328:=by
  have:=hS.len
  have e:tS.length≤S.length:=by rw [← hsS];exact p7 ..
  omega
 rw [show (A.filter fun e=>bN e.1 p)=tA from hsA,show (H.filter fun e=>bN e.1 p)=tH from hsH,show (S.filter fun e=>bN e.1 p)=tS from hsS]
 obtain ⟨nA,hnA⟩:∃ n,aV A p=n:=⟨_,rfl⟩;obtain ⟨nH,hnH⟩:∃ n,aV H p=n:=⟨_,rfl⟩;obtain ⟨nS,hnS⟩:∃ n,aV S p=n:=⟨_,rfl⟩;rw [hnA] at gA;rw [hnH] at gH;rw [hnS] at gS
 have hwg:gP mg (bQ mg A H S k) A H S p=if tH=tS then (if tA=tH then [] else [(p,1)])
   else if nH.1=1∧nS.1=1 then (if nA.1=1 then [] else [(p,1)]) ++ bQ mg A H S k p
   else if tH=tA then [(p,3)] else if tS=tA then [(p,2)] else [(p,if mg nA nH nS=true then 4 else 5)]:=by
  rw [gP,hsA,hsH,hsS,hnA,hnH,hnS]
 have hdef:(tH=tS∨tH=tA∨tS=tA)∨zMr mg:=by
  rw [← hsA,← hsH,← hsS]
  rcases hm with (rfl|rfl|rfl)|hm
  ·exact .inl (.inl rfl)
  ·exact .inl (.inr (.inl rfl))
  ·exact .inl (.inr (.inr rfl))
  ·exact .inr hm
 have zA:=fP hA p
 have zH:=fP hH p
 have zS:=fP hS p
 rw [hnA] at zA;rw [hnH] at zH;rw [hnS] at zS;rw [hwg] at hout ⊢;obtain ⟨B,hB⟩:∃ B,bQ mg A H S k p=B:=⟨_,rfl⟩;rw [hB] at IH hout ⊢;clear hwg;obtain ⟨kA,dA⟩:=nA;obtain ⟨kH,dH⟩:=nH;obtain ⟨kS,dS⟩:=nS;dsimp only at gA gH gS hout ⊢;refine goA 1 ?_;push_cast;refine qSp 21 [] [[(0,wgR A H S),(1,.sl true 53 2 (itl out))]] [(0,0,0),(1,0,0),(2,0,0),(3,0,0),(4,0,0),(5,0,0),(6,0,0),(7,0,0),(8,0,0),(9,0,0),(10,0,0),(11,0,0),(12,0,0),(13,0,0),(14,0,0),(15,0,0),(16,0,0),(17,0,0)] [(18,7,56,42,[.int .i64 0,.string ByteArray.empty]),(19,8,64,42,[.int .i64 0,.string ByteArray.empty]),(20,9,72,42,[.int .i64 0,.string ByteArray.empty])] mixed (by kernel_rfl) (by kernel_rfl) (by kernel_rfl) (by repeat' first|exact trivial|refine ⟨⟨rfl,rfl,rfl⟩,by kernel_rfl,rfl,?_⟩) rfl (fun K hK K1 hK1=>?_);push_cast[qEq,qAu,wT,sF,qA2,qFj,qA6,qFk,qA7,wW,sP,bDp,bDz]
 refine zE1 uV gA (.cons (aD (yT _)) (.cons (.v _) .nil)) ?_
 (try with_reducible refine aS ?_);push_cast[tQ,qEq,qAu,wT,sF,qA2,qFj,qA6,qFk,qA7,wW,sP,bDp,bDz,wR,sC,vC,rG,qAk,qAm,qAl,qE1,wK,wJ,wH,qAx,wL,wG,rV,qEh]
 refine zE1 uV gH (.cons (aD (yT _)) (.cons (.v _) .nil)) ?_
 (try with_reducible refine aS ?_);push_cast[tQ,qEq,qAu,wT,sF,qA2,qFj,qA6,qFk,qA7,wW,sP,bDp,bDz,wR,sC,vC,rG,qAk,qAm,qAl,qE1,wK,wJ,wH,qAx,wL,wG,rV,qEh]
 refine zE1 uV gS (.cons (aD (yT _)) (.cons (.v _) .nil)) ?_
 (try with_reducible refine aS ?_);push_cast[tQ,qEq,qAu,wT,sF,qA2,qFj,qA6,qFk,qA7,wW,sP,bDp,bDz,wR,sC,vC,rG,qAk,qAm,qAl,qE1,wK,wJ,wH,qAx,wL,wG,rV,qEh]
 refine hK1 _ ?_;(try clear hK1 K1);with_reducible refine aS ?_;push_cast
 refine hK _ ?_;clear hK K;refine goP [0,1,4,5,6,7,8,9] [0,1,56,64,72] ?_
 have cHS:=qD3 tH tS lH
 have cAH:=qD3 tA tH lA
 have cHA:=qD3 tH tA lH
 have cSA:=qD3 tS tA lS
 refine goA 1 ?_;push_cast
 by_cases c1:tH=tS
 ·rw [i7 c1] at cHS;rw [g8 c1] at hout ⊢;refine goA 3 ?_;push_cast;refine cVt qMb cHS (.cons (aD (yT _)) (.cons (aD (yT _)) .nil)) ?_;push_cast
  by_cases c2:tA=tH
  ·rw [i7 c2] at cAH;rw [g8 c2] at hout ⊢;refine goA 3 ?_;push_cast;refine cVt qMb cAH (.cons (aD (yT _)) (.cons (aD (yT _)) .nil)) ?_;push_cast;refine mC [0,1] (by decide) (by push_cast <;> exact ⟨rfl,rfl⟩) ?_
   exact ⟨rfl,by first|rfl|rw [x4]⟩
  ·rw [b9 c2] at cAH;rw [b7 c2] at hout ⊢;rw [t7] at hout;refine goA 5 ?_;push_cast;refine cVt qMb cAH (.cons (aD (yT _)) (.cons (aD (yT _)) .nil)) ?_;push_cast;refine cXt 576 [0,1] zMa (qNw A H S out p 1 (by omega)) (by decide) (by push_cast <;> first|exact ⟨rfl,rfl⟩|rfl) ?_
   push_cast;refine mC [0,1] (by decide) (by push_cast <;> exact ⟨rfl,rfl⟩) ?_
   exact ⟨rfl,rfl⟩
 rw [b9 c1] at cHS;rw [b7 c1] at hout ⊢;refine goA 3 ?_;push_cast;refine cVt qMb cHS (.cons (aD (yT _)) (.cons (aD (yT _)) .nil)) ?_;push_cast;refine goP [0,1,4,5,6,7,8,9] [0,1,56,64,72] ?_
 by_cases c3:kH=1∧kS=1
 ·rw [g8 c3,i8] at hout;rw [g8 c3];obtain ⟨rfl,rfl⟩:=c3;refine goA 3 ?_;push_cast;(repeat ((with_reducible refine bJa ?_ ?_);focus first|omega|decide))
  refine goP [0,1,7] [0,1,56] ?_
  by_cases c4:kA=1
  ·subst c4;rw [g8 rfl] at hout ⊢;rw [bAj] at hout
   have ib:=IH out (by omega)
   refine goA 5 ?_;push_cast;(repeat ((with_reducible refine bJa ?_ ?_);focus first|omega|decide))
   refine cXt 720 [0,1] yD6 (ib) (by decide) (by push_cast <;> first|exact ⟨rfl,rfl⟩|rfl) ?_
   push_cast;refine mC [0,1] (by decide) (by push_cast <;> exact ⟨rfl,rfl⟩) ?_
   exact ⟨rfl,by first|rfl|rw [u4]⟩
  ·have d4:decide (kA=1)=false:=b9 c4
   rw [b7 c4] at hout ⊢;rw [t7] at hout
   have ib:=IH (out ++ [(p,1)]) (by rw [i8,t7];omega)
   refine goA 7 ?_;push_cast[d4];(repeat ((with_reducible refine bJa ?_ ?_);focus first|omega|decide))
   refine cXt 696 [0,1] zMa (qNw A H S out p 1 (by omega)) (by decide) (by push_cast <;> first|exact ⟨rfl,rfl⟩|rfl) ?_
   push_cast;refine cXt 720 [0,1] yD6 (ib) (by decide) (by push_cast <;> first|exact ⟨rfl,rfl⟩|rfl) ?_
   push_cast;refine mC [0,1] (by decide) (by push_cast <;> exact ⟨rfl,rfl⟩) ?_
   exact ⟨rfl,by rw [u6];try rfl⟩
 rw [b7 c3] at hout ⊢
 (repeat refine goQ ?_);refine goM (fun _:Unit=>⟨[(0,.ptr 0 4 0 0),(1,.v (.string p)),(4,.lst true (aG tA)),(5,.lst true (aG tH)),(6,.lst true (aG tS)),(7,.ptr 56 2 0 0),(8,.ptr 64 2 0 0),(9,.ptr 72 2 0 0),(73,.v (.bool false))],[(0,wgR A H S),(1,.sl true 53 2 (itl out)),(56,.bx true 42 [.v (.int .i64 kA),.v (.string dA)]),(64,.bx true 42 [.v (.int .i64 kH),.v (.string dH)]),(72,.bx true 42 [.v (.int .i64 kS),.v (.string dS)])]⟩) (fun _=>True) [0,1,4,5,6,7,8,9,73] [0,1,56,64,72] ?_ ?_
 ·by_cases c4:kH=1
  ·subst c4
   have d5:decide (kS=1)=false:=b9 fun h=>c3 ⟨rfl,h⟩
   refine goA 3 ?_;push_cast[d5];(repeat ((with_reducible refine bJa ?_ ?_);focus first|omega|decide))
   exact ⟨(),trivial⟩
  ·have d4:decide (kH=1)=false:=b9 c4
   refine goA 3 ?_;push_cast[d4];(repeat ((with_reducible refine bJa ?_ ?_);focus first|omega|decide))
   exact ⟨(),trivial⟩
 intro S' _ hE _;refine yB [0,1,4,5,6,7,8,9,73] [0,1,56,64,72] hE ?_;clear hE;refine goA 1 ?_;push_cast
 by_cases c5:tH=tA
 ·rw [i7 c5] at cHA;rw [g8 c5] at hout ⊢;rw [t7] at hout;refine goA 5 ?_;push_cast;refine cVt qMb cHA (.cons (aD (yT _)) (.cons (aD (yT _)) .nil)) ?_;push_cast;refine cXt 776 [0,1] zMa (qNw A H S out p 3 (by omega)) (by decide) (by push_cast <;> first|exact ⟨rfl,rfl⟩|rfl) ?_
  push_cast;refine mC [0,1] (by decide) (by push_cast <;> exact ⟨rfl,rfl⟩) ?_
  exact ⟨rfl,rfl⟩
 rw [b9 c5] at cHA;rw [b7 c5] at hout ⊢
 by_cases c6:tS=tA
 ·rw [i7 c6] at cSA;rw [g8 c6] at hout ⊢;rw [t7] at hout;refine goA 7 ?_;push_cast;refine cVt qMb cHA (.cons (aD (yT _)) (.cons (aD (yT _)) .nil)) ?_;push_cast;refine cVt qMb cSA (.cons (aD (yT _)) (.cons (aD (yT _)) .nil)) ?_;push_cast;refine cXt 832 [0,1] zMa (qNw A H S out p 2 (by omega)) (by decide) (by push_cast <;> first|exact ⟨rfl,rfl⟩|rfl) ?_
  push_cast;refine mC [0,1] (by decide) (by push_cast <;> exact ⟨rfl,rfl⟩) ?_
  exact ⟨rfl,rfl⟩
 rw [b9 c6] at cSA;rw [b7 c6] at hout ⊢;rw [t7] at hout
 have hmg:zMr mg:=hdef.resolve_left fun h=>h.elim c1 fun h=>h.elim c5 c6
 obtain ⟨n,cm⟩:=hmg (kA,dA) (kH,dH) (kS,dS) zA zH zS;obtain ⟨b,hb⟩:∃ b,mg (kA,dA) (kH,dH) (kS,dS)=b:=⟨_,rfl⟩;rw [hb] at cm ⊢;clear hb hmg hdef;refine goA 7 ?_;push_cast;refine cVt qMb cHA (.cons (aD (yT _)) (.cons (aD (yT _)) .nil)) ?_;push_cast;refine cVt qMb cSA (.cons (aD (yT _)) (.cons (aD (yT _)) .nil)) ?_;push_cast(disch:=omega);refine cUt 416 yG2 cm (.cons (bJ (kA,dA)) (.cons (bJ (kH,dH)) (.cons (bJ (kS,dS)) .nil))) ?_;push_cast(disch:=omega);refine goP [0,1,11] [0,1] ?_;refine goA 3 ?_;push_cast
 cases b with
|true =>
  refine goA 3 ?_;push_cast;refine cXt 464 [0,1] zMa (qNw A H S out p 4 (by omega)) (by decide) (by push_cast <;> first|exact ⟨rfl,rfl⟩|rfl) ?_
  push_cast;refine mC [0,1] (by decide) (by push_cast <;> exact ⟨rfl,rfl⟩) ?_
  exact ⟨rfl,rfl⟩
|false =>
  refine goA 3 ?_;push_cast;refine cXt 488 [0,1] zMa (qNw A H S out p 5 (by omega)) (by decide) (by push_cast <;> first|exact ⟨rfl,rfl⟩|rfl) ?_
  push_cast;refine mC [0,1] (by decide) (by push_cast <;> exact ⟨rfl,rfl⟩) ?_
  exact ⟨rfl,rfl⟩
end Go.Proofs.Y
namespace Go.Rc
open Go Go.Eng Go.RowKit Go.Tr Go.Dk
def qPi (L:LN):∀ x ∈ itl L,∀ f ∈ x,FreshF f:=fun x hx f hf=>by
 obtain ⟨h,-,rfl⟩:=m6.1 hx;simp only [l3,bBf,bDu] at hf
 rcases hf with rfl|rfl
 ·exact .v _
 ·exact .v _
def fE (mg:(Int × Ba)→(Int × Ba)→(Int × Ba)→Bool) (A H S:List Ent):LN:=bQ mg A H S 1048577 { data:=#[] }
def zWh {t:List Ent} (h:okR t=true):∀ e ∈ t,e.2.2.size≤4096:=fun e he=>by
 obtain ⟨i,hi,rfl⟩:=p9 he
 have:=kP.1 h i hi
 simp only [qAg,qCx,g9] at this;rw [mH hi] at this
 have hw:=this.1.2.1
 unfold qZ at hw;split at hw
 ·exact u7 hw
 ·simp only [g9,m7] at hw;omega
def qJ6 {t:List Ent} (h:cZ t=0) (hs:∀ e ∈ t,e.1.size≤1048576):TB t:=⟨qK1 (fZ h).2,by have:=(fZ h).1;omega,hs,zWh (fZ h).2⟩
def zNa:TB []:=⟨List.Pairwise.nil,by simp,(fun e he=>by cases he),fun e he=>by cases he⟩
abbrev rcA:Ba:={ data:=#[97] }
abbrev yFs:Ba:={ data:=#[104,105] }
abbrev rcT:List Ent:=[(rcA,2,yFs)]
def yAv:TB rcT:=⟨by simp [rise],by simp,(fun e he=>by simp at he;subst he;decide),fun e he=>by simp at he;subst he;decide⟩
def zNx {mg:(Int × Ba)→(Int × Ba)→(Int × Ba)→Bool} (k:Nat):bQ mg [] rcT [] (k + 1) { data:=#[] }=[(rcA,2)]:=by
 rw [bQ]
 have h1:(lB { data:=#[] } ([] ++ rcT ++ [])).map (fun e=>e.1)=[rcA]:=by decide +kernel
 rw [h1,s9,bCs,x4]
 have h2:dX rcT rcA=rcT:=by decide +kernel
 have h3:dX ([]:List Ent) rcA=[]:=rfl
 have h4:aV rcT rcA=(2,yFs):=by decide +kernel
 unfold gP;rw [h2,h3,h4,b7 (by simp),b7 (by simp),b7 (by simp),g8 rfl]
def qRu {mg:(Int × Ba)→(Int × Ba)→(Int × Ba)→Bool}:fE mg [] rcT []=[(rcA,2)]:=zNx 1048576
end Go.Rc
namespace Go.Proofs.Y
open Go Go.Eng Go.RowKit Go.Tr Go.Dk Go.Rc
def zMl {mg:(Int × Ba)→(Int × Ba)→(Int × Ba)→Bool} {A H S:List Ent} (hA:TB A) (hH:TB H) (hS:TB S) (hm:(H=S∨H=A∨S=A)∨zMr mg) :
  ∀ (k:Nat) (top:Ba),top.size≤1048576→(∀ e ∈ A ++ H ++ S,e.1.size < top.size + k)→∀ out:LN,out.length + (bQ mg A H S k top).length≤1000000 →
   HFunS Tryz.prog 29 [.ptr 0 4 0 0,.v (.string top)] (wgS A H S out) (fun h st=>h=.tup []∧st=wgS A H S (out ++ bQ mg A H S k top)):=by
 have sz:∀ e ∈ A ++ H ++ S,e.1.size≤1048576:=fun e he=>by
  rcases m8.1 he with he|he
  ·rcases m8.1 he with he|he
   ·exact hA.sz e he
   ·exact hH.sz e he
  ·exact hS.sz e he
 have nm:∀ top:Ba,∀ p ∈ (lB top (A ++ H ++ S)).map (fun e=>e.1),top.size < p.size∧p.size≤1048576:=fun top p hp=>by
  obtain ⟨q,hq,rfl⟩:=m6.1 hp
  rcases kG (A ++ H ++ S) [] hq with h0|⟨e,he,hn⟩
  ·cases h0
  ·have h1:=iE hn
   have h2:=sz e he
   exact ⟨h1.1,by omega⟩
 intro k
 induction k with
|zero =>
  intro top htop hk out hout
  have hn:lB top (A ++ H ++ S)=[]:=qZq fun e he=>by have:=hk e he;omega
  have hb:bQ mg A H S 1 top=bQ mg A H S 0 top:=by rw [bQ,bQ,hn];rfl
  rw [← hb] at hout ⊢;exact qMj hA hH hS 0 top htop (fun p hp=>by rw [hn] at hp;cases hp) out hout
|succ k ih =>
  intro top htop hk out hout;refine qMj hA hH hS k top htop (fun p hp o ho=>?_) out hout
  have h1:=nm top p hp
  exact qXf hA hH hS hm k p h1.2 (fun o2 h2=>ih p h1.2 (fun e he=>by have:=hk e he;omega) o2 h2) o ho
def zWz {mg:(Int × Ba)→(Int × Ba)→(Int × Ba)→Bool} {A H S:List Ent} (hA:TB A) (hH:TB H) (hS:TB S) (hm:(H=S∨H=A∨S=A)∨zMr mg) :
  HFun Tryz.prog 16 [.lst false (aG A),.lst false (aG H),.lst false (aG S)] (fun h st=>h=.own 0∧st=[(0,.sl true 53 2 (itl (fE mg A H S)))]):=by
 refine bP (N:=15) Tryz.func16 rfl Tryz.ntmps16 Tryz.results16 (by simp) ?_
 have hb:(fE mg A H S).length≤3000:=by
  have h1:=uE (mg:=mg) A H S 1048577 { data:=#[] }
  have:=hA.len
  have:=hH.len
  have:=hS.len
  rw [fE];omega
 have hz:∀ e ∈ A ++ H ++ S,e.1.size < ({ data:=#[] }:Ba).size + 1048577:=fun e he=>by
  have h0:({ data:=#[] }:Ba).size=0:=rfl
  have:e.1.size≤1048576:=by
   rcases m8.1 he with he|he
   ·rcases m8.1 he with he|he
    ·exact hA.sz e he
    ·exact hH.sz e he
   ·exact hS.sz e he
  omega
 have cb:=zMl (mg:=mg) hA hH hS hm 1048577 { data:=#[] } (by decide) hz [] (by rw [← fE,bAj];omega)
 rw [← fE,u4] at cb;refine goA 5 ?_;push_cast;refine bR 56 3 9000 53 2 (by decide) rfl rfl (by push_cast[d8,m4,l8,l9,o7,p8];exact rfl) ?_
 refine goA 5 ?_;push_cast;refine cXt 96 [56,9000] yD6 (cb) (by decide) (by push_cast <;> first|exact ⟨rfl,rfl⟩|rfl) ?_
 push_cast;exact iQ rfl (qPi _) ⟨rfl,rfl⟩
end Go.Proofs.Y
namespace Go.Rc
open Go Go.Eng Go.RowKit Go.Tr Go.Dk
def kV (a:Int × Ba):Ba:=if a.1=2 then a.2 else { data:=#[] }
def gV (h s:Int × Ba) (T:Ba) (N E:Int):Ba × Int × Int :=
 if h.1=2∧s.1=2 then (if E=0 then (if 4096 < T.size then ({ data:=#[] },0,4) else (T,N,0)) else ({ data:=#[] },0,E)) else ({ data:=#[] },0,12)
def okM (m:Ba × Int × Int):Bool:=decide (m.2.2=0) && !decide (0 < m.2.1)
def qB9 {S:HS} {n:Int × Ba} {b:Value} {Q:HV→aC→Prop} (q:Q (.tup [cY n,.v b]) []):qBf S (.tup [cY n,.v b]) Q :=
 ⟨[],by simp,rfl,.tup fun x hx=>by
  simp only [l3,bBf,bDu] at hx
  rcases hx with rfl|rfl
  ·exact .agg fun x hx=>by simp at hx;rcases hx with rfl|rfl <;> exact .v _
  ·exact .v _,fun id h=>by simp at h,by simpa [HV.ren,gD] using q⟩
end Go.Rc
namespace Go.Proofs.Y
open Go Go.Eng Go.RowKit Go.Tr Go.Dk Go.Rc
def qUy (a h s:Int × Ba) (T:Ba) (N E:Int)
  (cm:HFun Tryz.prog 54 [.v (.string (kV a)),.v (.string h.2),.v (.string s.2)] (fun r st=>r=.tup ([.string T,.int .i64 N,.int .i64 E].map .v))) :
  HFun Tryz.prog 34 [cY a,cY h,cY s] (fun r st=>r=.tup ([.string (gV h s T N E).1,.int .i64 (gV h s T N E).2.1,.int .i64 (gV h s T N E).2.2].map .v)):=by
 refine bP (N:=45) Tryz.func34 rfl Tryz.ntmps34 Tryz.results34 (by simp) ?_
 obtain ⟨ka,da⟩:=a;obtain ⟨kh,dh⟩:=h;obtain ⟨ks,ds⟩:=s;obtain ⟨B,hB⟩:∃ B,kV (ka,da)=B:=⟨_,rfl⟩;rw [hB] at cm;dsimp only at cm;refine goA 3 ?_;push_cast
 by_cases h1:kh=2
 ·subst h1
  by_cases h2:ks=2
  ·subst h2
   have hmk:gV (2,dh) (2,ds) T N E=(if E=0 then (if 4096 < T.size then ({ data:=#[] },0,4) else (T,N,0)) else ({ data:=#[] },0,E)):=by rw [gV,g8 ⟨rfl,rfl⟩]
   rw [hmk];refine goA 6 ?_;push_cast;(repeat ((with_reducible refine bJa ?_ ?_);focus first|omega|decide))
   (repeat refine goQ ?_);refine goM (fun _:Unit=>⟨[(4,.ptr 32 2 0 0),(5,.ptr 40 2 0 0),(6,.v (.string { data:=#[] })),(7,.v (.int .i64 0)),(8,.v (.int .i64 0)),(9,.v (.string B))],[(32,.bx true 42 [.v (.int .i64 2),.v (.string dh)]),(40,.bx true 42 [.v (.int .i64 2),.v (.string ds)])]⟩) (fun _=>True) [4,5,6,7,8,9] [32,40] ?_ ?_
   ·by_cases h3:ka=2
    ·subst h3;refine uG rfl (fun _=>?_) (fun hf=>by simp at hf)
     have hB2:da=B:=hB
     subst hB2;refine goA 3 ?_;push_cast;(repeat ((with_reducible refine bJa ?_ ?_);focus first|omega|decide))
     exact ⟨(),trivial⟩
    ·refine uG rfl (fun ht=>by simp [h3] at ht) (fun _=>?_)
     have hB2:B={ data:=#[] }:=by rw [← hB,kV,b7 h3]
     subst hB2;refine goA 1 ?_;push_cast(disch:=omega);exact ⟨(),trivial⟩
   intro S' _ hE _;refine yB [4,5,6,7,8,9] [32,40] hE ?_;clear hE;refine goA 3 ?_;push_cast(disch:=omega);refine qH8 yKw cm (.cons (.v _) (.cons (.v _) (.cons (.v _) .nil))) ?_;with_reducible refine aS ?_;push_cast
   refine goP [6,7,8,10,11] [] ?_
   by_cases h4:E=0
   ·subst h4;rw [g8 rfl];refine goA 3 ?_;push_cast;(repeat ((with_reducible refine bJa ?_ ?_);focus first|omega|decide))
    by_cases h5:4096 < T.size
    ·rw [g8 h5];refine goA 3 ?_;push_cast(disch:=omega);(repeat ((with_reducible refine bJa ?_ ?_);focus first|omega|decide))
     (try refine tR (fun _=>?_) (fun hf=>by simp at hf <;> omega))
     refine goA 3 ?_;push_cast;exact eY rfl
    ·rw [b7 h5];refine goA 3 ?_;push_cast(disch:=omega);(repeat ((with_reducible refine bJa ?_ ?_);focus first|omega|decide))
     (try refine tR (fun ht=>by simp at ht <;> omega) (fun _=>?_))
     refine goA 3 ?_;push_cast;exact eY rfl
   ·have d4:decide (E=0)=false:=b9 h4
    rw [b7 h4];refine goA 5 ?_;push_cast[d4];(repeat ((with_reducible refine bJa ?_ ?_);focus first|omega|decide))
    exact eY rfl
  ·have d2:decide (ks=2)=false:=b9 h2
   have hmk:gV (2,dh) (ks,ds) T N E=({ data:=#[] },0,12):=by rw [gV,b7 fun h=>h2 h.2]
   rw [hmk];refine goA 5 ?_;push_cast[d2];(repeat ((with_reducible refine bJa ?_ ?_);focus first|omega|decide))
   exact eY rfl
 ·have d1:decide (kh=2)=false:=b9 h1
  have hmk:gV (kh,dh) (ks,ds) T N E=({ data:=#[] },0,12):=by rw [gV,b7 fun h=>h1 h.1]
  rw [hmk];refine goA 5 ?_;push_cast[d1];(repeat ((with_reducible refine bJa ?_ ?_);focus first|omega|decide))
  exact eY rfl
def qPd (a h s:Int × Ba) (T:Ba) (N E:Int)
  (cm:HFun Tryz.prog 54 [.v (.string (kV a)),.v (.string h.2),.v (.string s.2)] (fun r st=>r=.tup ([.string T,.int .i64 N,.int .i64 E].map .v))) :
  HFun Tryz.prog 33 [cY a,cY h,cY s] (fun r st=>r=.tup [cY (if okM (gV h s T N E)=true then (2,(gV h s T N E).1) else (0,{ data:=#[] })),.v (.bool (okM (gV h s T N E)))]∧st=[]):=by
 refine bP (N:=28) Tryz.func33 rfl Tryz.ntmps33 Tryz.results33 (by simp) ?_
 have c:=qUy a h s T N E cm
 obtain ⟨ka,da⟩:=a;obtain ⟨kh,dh⟩:=h;obtain ⟨ks,ds⟩:=s;generalize gV (kh,dh) (ks,ds) T N E=m at c ⊢;obtain ⟨t,n,e⟩:=m;dsimp only at c ⊢;refine goA 5 ?_;push_cast;refine qH8 yG1 c (.cons (bJ (ka,da)) (.cons (bJ (kh,dh)) (.cons (bJ (ks,ds)) .nil))) ?_;with_reducible refine aS ?_;push_cast
 by_cases h1:e=0
 ·subst h1
  by_cases h2:0 < n
  ·have d2:decide (0 < n)=true:=i7 h2
   have ho:okM (t,n,0)=false:=by simp [okM,h2]
   rw [ho];refine goA 5 ?_;push_cast[d2];(repeat ((with_reducible refine bJa ?_ ?_);focus first|omega|decide))
   exact qB9 (n:=(0,{ data:=#[] })) ⟨rfl,rfl⟩
  ·have d2:decide (0 < n)=false:=b9 h2
   have ho:okM (t,n,0)=true:=by simp [okM];omega
   rw [ho];refine goA 5 ?_;push_cast[d2];(repeat ((with_reducible refine bJa ?_ ?_);focus first|omega|decide))
   exact qB9 (n:=(2,t)) ⟨rfl,rfl⟩
 ·have d1:decide (e=0)=false:=b9 h1
  have ho:okM (t,n,e)=false:=by simp [okM,h1]
  rw [ho];refine goA 5 ?_;push_cast[d1];(repeat ((with_reducible refine bJa ?_ ?_);focus first|omega|decide))
  exact qB9 (n:=(0,{ data:=#[] })) ⟨rfl,rfl⟩
end Go.Proofs.Y
namespace Go.DiffM
variable {α:Type} [DecidableEq α]
def lcs:List α→List α→Nat
|[],_=>0
|_ :: _,[]=>0
|x :: xs,y :: ys=>if x=y then lcs xs ys + 1 else max (lcs xs (y :: ys)) (lcs (x :: xs) ys)
termination_by a b=>a.length + b.length
theorem zEr (b:List α):lcs [] b=0:=by cases b <;> simp [lcs]
theorem qLf (a:List α):lcs a []=0:=by cases a <;> simp [lcs]
theorem qEm (x:α) (xs:List α) (y:α) (ys:List α):lcs (x :: xs) (y :: ys)=if x=y then lcs xs ys + 1 else max (lcs xs (y :: ys)) (lcs (x :: xs) ys):=by rw [lcs]
theorem qRq:∀ (n:Nat) (a b:List α),a.length + b.length≤n→lcs a b≤a.length∧lcs a b≤b.length
|n,[],b,_=>by simp [zEr]
|n,a,[],_=>by simp [qLf]
|0,x :: xs,y :: ys,h=>by simp at h
|n + 1,x :: xs,y :: ys,h=>by
  simp only [i6] at h
  have h1:=qRq n xs ys (by omega)
  have h2:=qRq n xs (y :: ys) (by simp only [i6];omega)
  have h3:=qRq n (x :: xs) ys (by simp only [i6];omega)
  simp only [i6] at *
  rw [qEm];split <;> omega
def at2 (a b:List α) (i j:Nat):Nat:=lcs (a.drop i) (b.drop j)
theorem qSl (a b:List α) (i j:Nat) (h:a.length≤i∨b.length≤j):at2 a b i j=0:=by
 unfold at2
 rcases h with h|h
 ·rw [u0 h,zEr]
 ·rw [u0 h,qLf]
theorem qW0 (a b:List α) (i j:Nat) (hi:i < a.length) (hj:j < b.length):at2 a b i j=if a[i]=b[j] then at2 a b (i + 1) (j + 1) + 1 else max (at2 a b (i + 1) j) (at2 a b i (j + 1)):=by
 unfold at2;rw [l4 hi,l4 hj,qEm]
theorem qGx (a b:List α) (i j:Nat):at2 a b i j≤a.length:=by
 have:=(qRq _ (a.drop i) (b.drop j) (a7 _)).1
 unfold at2;simp at this;omega
def steps:List α→List α→List Nat
|[],[]=>[]
|x :: xs,[]=>1 :: steps xs []
|[],y :: ys=>2 :: steps [] ys
|x :: xs,y :: ys=>if x=y then 0 :: steps xs ys else if lcs (x :: xs) ys≤lcs xs (y :: ys) then 1 :: steps xs (y :: ys) else 2 :: steps (x :: xs) ys
termination_by a b=>a.length + b.length
theorem qDa (a b:List α) (i j:Nat) (hi:i < a.length) (hj:j < b.length) (he:a[i]=b[j]):steps (a.drop i) (b.drop j)=0 :: steps (a.drop (i + 1)) (b.drop (j + 1)):=by
 rw [l4 hi,l4 hj,steps,g8 he]
theorem oA (a b:List α) (i j:Nat) (hi:i < a.length) (h:b.length≤j∨∃ hj:j < b.length,a[i]≠b[j]∧at2 a b i (j + 1)≤at2 a b (i + 1) j):steps (a.drop i) (b.drop j)=1 :: steps (a.drop (i + 1)) (b.drop j):=by
 rcases h with h|⟨hj,h1,h2⟩
 ·rw [l4 hi,u0 h,steps]
 ·unfold at2 at h2;rw [l4 hi] at h2 ⊢;rw [l4 hj] at h2 ⊢;rw [steps,b7 h1,g8 h2]
theorem qQ (a b:List α) (i j:Nat) (hj:j < b.length) (h:a.length≤i∨∃ hi:i < a.length,a[i]≠b[j]∧at2 a b (i + 1) j < at2 a b i (j + 1)):steps (a.drop i) (b.drop j)=2 :: steps (a.drop i) (b.drop (j + 1)):=by
 rcases h with h|⟨hi,h1,h2⟩
 ·rw [l4 hj,u0 h,steps]
 ·unfold at2 at h2;rw [l4 hi] at h2 ⊢;rw [l4 hj] at h2 ⊢;rw [steps,b7 h1,b7 (by omega)]
theorem qFt (a b:List α) (i j:Nat) (hi:a.length≤i) (hj:b.length≤j):steps (a.drop i) (b.drop j)=[]:=by
 rw [u0 hi,u0 hj,steps]
def fJ:List (Nat × Nat)→Nat→List (Nat × Nat)
|[],op=>[(op,1)]
|[(o,n)],op=>if o=op then [(o,n + 1)] else [(o,n),(op,1)]
|r :: s :: t,op=>r :: fJ (s :: t) op
def zNn (l:List Nat):List (Nat × Nat):=l.foldl fJ []
def fX (a b:List α):List (Nat × Nat):=zNn (steps a b)
theorem qFl (l:List (Nat × Nat)) (o n op:Nat):fJ (l ++ [(o,n)]) op=if o=op then l ++ [(o,n + 1)] else l ++ [(o,n),(op,1)]:=by
 induction l with
|nil=>simp only [u4,fJ]
|cons r t ih =>
  cases t with
 |nil=>simp only [u5,u4,fJ] at ih ⊢;split <;> rfl
 |cons s u =>
   simp only [u5] at ih ⊢;rw [fJ];rw [ih];split <;> rfl
end Go.DiffM
namespace Go.Proofs.Y
open Go Go.Eng Go.RowKit Go.DiffM
attribute [local push_cast] qGb qB4
def zSg:eV Tryz.prog 206 0=some 0:=by kernel_rfl
def zSf:eV Tryz.prog 206 1=some 1:=by kernel_rfl
def gY {x:Int} (h1:-4000000000000000000≤x) (h2:x≤4000000000000000000):IntKind.i64.wrap x=x:=yAa (zC1 (by omega) (by omega))
def yAp {n:Nat} (h:n≤30000):IntKind.i16.wrap (n:Int)=(n:Int):=by
 have e1:IntKind.i16.bits=16:=rfl
 have e2:IntKind.i16.signed=true:=rfl
 unfold IntKind.wrap;simp only [e1,e2];simp;omega
def qA8 (w:World) (g n wide i j:Nat) (x:Value) (hn:n≤1000000) (hw:wide≤401) (hi:i≤401) (hj:j≤401) (hij:i * wide + j < n) (hx:w.cell? ⟨g,i * wide + j,none⟩=some x) :
  Calls Tryz.prog 161 #[.agg #[.int .i64 wide,.slice (some ⟨g,0,none⟩) n n],.int .i64 i,.int .i64 j] w (Ret fun r w'=>r=x∧Below w.heap.size w w'):=by
 refine nQ (args:=[_,_,_]) Tryz.func161 rfl Tryz.ntmps161 Tryz.results161 (by simp) ?_
 (repeat first|refine aF ?_|refine zV ?_|refine aA ?_|refine zY ?_);refine bF (fun K hK=>?_);push_cast[Value.cells];refine hK _ _ ?_;clear hK K
 have hs:=Blk.new w #[.int .i64 wide,.slice (some ⟨g,0,none⟩) n n] 206
 have hbel:=(Below.refl w.heap.size w).alloc (a7 _) (.cells #[.int .i64 wide,.slice (some ⟨g,0,none⟩) n n] 206)
 have hx:=dR hbel hx
 generalize hw0:w.alloc (.cells #[.int .i64 wide,.slice (some ⟨g,0,none⟩) n n] 206)=w0 at *
 clear hw0
 have c0:=hs.cell 0
 have c1:=hs.cell 1
 simp only [r8,q8,bA2] at c0 c1
 have hm:i * wide≤401 * 401:=bDd hi hw
 have e1:IntKind.i64.wrap ((i:Int) * (wide:Int))=(i:Int) * (wide:Int):=gY (by rw [← bBa];omega) (by rw [← bBa];omega)
 obtain ⟨k,hk⟩:∃ k,k=i * wide + j:=⟨_,rfl⟩
 have e2:IntKind.i64.wrap ((i:Int) * (wide:Int) + (j:Int))=(k:Int):=by rw [hk,bEf,bBa];exact gY (by rw [← bBa];omega) (by rw [← bBa];omega)
 rw [← hk] at hx
 (repeat first|refine aF ?_|refine zV ?_|refine aA ?_|refine zY ?_);refine bF (fun K hK=>?_);push_cast[kt3,zEs,qPg,zSg,zSf,c0,c1,qNj,e1,e2,hx]
 refine ⟨by omega,?_⟩
 refine hK _ _ ?_;clear hK K
 (repeat first|refine yN ?_|refine yP ?_|refine yQ ?_|refine yR rfl ?_|refine yS ?_|refine zY ?_|refine aF ?_|refine zV ?_|refine aA ?_|refine bW ?_|refine dB ?_)
 simp only [qDn,jE,tup,lk,Nat.reduceEqDiff,reduceIte,reduceCtorEq];exact ⟨trivial,hbel⟩
abbrev SlS (w:World) (v:Value) (a:List Ba):Prop:=SlAt w v 1 a.length (fun j=>.string (a.getD j ByteArray.empty))
def TabD (a b:List Ba) (cs:Array Value) (wd i j:Nat):Prop:=cs.size=(a.length + 1) * wd ∧
 ∀ p q,p≤a.length→q < wd→(i + 1≤p∨p=i∧j≤q∨q + 1=wd∨p=a.length)→cs[p * wd + q]?=some (.int .i16 (at2 a b p q))
def zW9 {wd i j m q:Nat} (hj:j < wd) (hq:q < wd) (h:i * wd + j=m * wd + q):i=m∧j=q:=by
 have h1:(i * wd + j) / wd=i:=by rw [bBw,Nat.mul_add_div (by omega),bEw hj,bAy]
 have h2:(m * wd + q) / wd=m:=by rw [bBw,Nat.mul_add_div (by omega),bEw hq,bAy]
 have:i=m:=by rw [← h1,h,h2]
 subst this;exact ⟨rfl,by omega⟩
def qLo {wd i j n:Nat} (hj:j < wd) (hi:i < n):i * wd + j < n * wd:=by
 have:=m5 wd (show i + 1≤n from hi)
 rw [x6] at this;omega
def TabD.put {a b:List Ba} {cs:Array Value} {wd m q:Nat} (h:TabD a b cs wd m (q + 1)) (hm:m < a.length) (hq:q < wd) (v:Value) (hv:v=.int .i16 (at2 a b m q)):TabD a b (cs.setIfInBounds (m * wd + q) v) wd m q:=by
 refine ⟨by rw [bCf];exact h.1,fun i j hi hj hd=>?_⟩
 by_cases he:i=m∧j=q
 ·obtain ⟨rfl,rfl⟩:=he;rw [r9 (by rw [h.1];exact qLo hq (by omega)),hv]
 ·rw [r7 (fun e=>he (zW9 hj hq e.symm))]
  refine h.2 i j hi hj ?_
  rcases hd with h1|⟨h1,h2⟩|h1|h1
  ·exact .inl h1
  ·refine .inr (.inl ⟨h1,?_⟩);omega
  ·exact .inr (.inr (.inl h1))
  ·exact .inr (.inr (.inr h1))
def zZj (x:Int) (a:Option Addr) (n c:Nat) (w:World):(Instr.build 206 #[(0,.int .i64 x),(1,.slice a n c)]).run Tryz.prog w=.ok (.agg #[.int .i64 x,.slice a n c]) w:=by kernel_rfl
def qNb (w0:World) (va vb:Value) (a b:List Ba) (hla:a.length≤400) (hlb:b.length≤400) (ha:SlS w0 va a) (hb:SlS w0 vb b) :
  Calls Tryz.prog 160 #[va,vb] w0 (Ret fun r w'=>∃ g n cs,r=.agg #[.int .i64 (b.length + 1:Nat),.slice (some ⟨g,0,none⟩) n n]∧n=(a.length + 1) * (b.length + 1)∧w0.heap.size≤g∧Blk w' g cs 208∧TabD a b cs (b.length + 1) 0 0∧Below w0.heap.size w0 w'):=by
 refine nQ (args:=[_,_]) Tryz.func160 rfl Tryz.ntmps160 Tryz.results160 (by simp) ?_
 obtain ⟨aa,ca,rfl,ha1,ha2,ha3⟩:=ha;obtain ⟨ab,cb,rfl,hb1,hb2,hb3⟩:=hb;generalize hla':a.length=la at *
 generalize hlb':b.length=lb at *
 obtain ⟨wd,hwd⟩:∃ wd,wd=lb + 1:=⟨_,rfl⟩;rw [← hwd];obtain ⟨n,hn⟩:∃ n,n=(la + 1) * wd:=⟨_,rfl⟩
 have hn':n≤401 * 401:=by rw [hn];exact bDd (by omega) (by omega)
 have e1:IntKind.i64.wrap ((lb:Int) + 1)=(wd:Int):=by rw [gY (by omega) (by omega)];omega
 have e2:IntKind.i64.wrap ((la:Int) + 1)=(la:Int) + 1:=by rw [gY (by omega) (by omega)]
 have e3:IntKind.i64.wrap (((la:Int) + 1) * (wd:Int))=(n:Int):=by
  have:((la:Int) + 1) * (wd:Int)=(n:Int):=by rw [hn];simp
  rw [this,gY (by omega) (by omega)]
 have hm:maxLen ≥ 1000000:=by decide
 (repeat first|refine aF ?_|refine zV ?_|refine aA ?_|refine zY ?_);refine bF (fun K hK=>?_);push_cast[qSr];refine hK _ _ ?_;clear hK K
 have hr0:=Blk.new w0 #[.int .i64 0,.slice none 0 0] 206
 have hB0:=(Below.refl w0.heap.size w0).alloc (a7 _) (.cells #[.int .i64 0,.slice none 0 0] 206)
 generalize hw1:w0.alloc (.cells #[.int .i64 0,.slice none 0 0] 206)=w1 at *
 clear hw1;generalize hR:w0.heap.size=R at *
 (repeat first|refine aF ?_|refine zV ?_|refine aA ?_|refine zY ?_);refine bF (fun K hK=>?_);push_cast[e1,e2,e3,qCw]
 obtain ⟨w2,hr,ho,hb2,hlt⟩:=qUo (P:=Tryz.prog) (w:=w1) yAd n (by omega) (by omega)
 refine ⟨_,w2,hr,?_⟩;clear hr
 have hRg:R < w1.heap.size:=hr0.lt
 have hr0:=hr0.up hb2
 have hB0:=hB0.trans (hb2.mono (Nat.le_of_lt hRg))
 obtain ⟨hg,-,hlen⟩:=ho.blk;rw [qNc] at hg;generalize hG:w1.heap.size=g at *
 refine v2s ?_;try push_cast[qSr]
 refine ⟨_,zZj _ _ _ _,?_⟩;refine v2s ?_;try push_cast[qSr]
 have hs0:=Blk.new w2 #[.int .i64 0,.slice none 0 0] 206
 have hRs:=hg.lt
 have hB0:=hB0.alloc (Nat.le_of_lt hr0.lt) (.cells #[.int .i64 0,.slice none 0 0] 206)
 have hr0:=hr0.alloc (.cells #[.int .i64 0,.slice none 0 0] 206)
 have hg:=hg.alloc (.cells #[.int .i64 0,.slice none 0 0] 206)
 generalize hw3:w2.alloc (.cells #[.int .i64 0,.slice none 0 0] 206)=w3 at *
 generalize hS:w2.heap.size=s at *
 obtain ⟨w4,hr,hs,ho⟩:=qJ8 (P:=Tryz.prog) (ty:=206) (vs:=#[.int .i64 wd,.slice (some ⟨g,0,none⟩) n n]) hs0 qAq (by simp [Value.oneCell']) rfl
 refine ⟨w4,hr,?_⟩
 have hr0:=hr0.only ho (by omega)
 have hg:=hg.only ho (by omega)
 have hB0:=ho.below hB0 (by omega)
 refine v2s ?_;try push_cast
 refine hK _ _ ?_;clear hK K;clear hr
 have e4:IntKind.i64.wrap ((la:Int) - 1)=(la:Int) - 1:=gY (by omega) (by omega)
 have e5:IntKind.i64.wrap ((lb:Int) - 1)=(lb:Int) - 1:=gY (by omega) (by omega)
 (repeat first|refine aF ?_|refine zV ?_|refine aA ?_|refine zY ?_);refine bF (fun K hK=>?_);push_cast[qCw,e4];refine hK _ _ ?_;clear hK K
 have hT0:TabD a b (Array.replicate n (Value.int .i16 0)) wd la 0:=by
  refine ⟨by rw [Array.size_replicate,hla',hn],fun p q hp hq hd=>?_⟩
  rw [hla'] at hp
  have:p * wd + q < n:=by rw [hn];exact qLo hq (by omega)
  rw [Array.getElem?_replicate,g8 this,qSl _ _ _ _ (by omega)]
  rfl
 (repeat first|refine aF ?_|refine zV ?_|refine aA ?_|refine zY ?_)
 refine eC ?_;refine oU (fun i:Nat=>[(0,.slice aa la ca),(1,.slice ab lb cb),(4,.pointer (some ⟨R,0,none⟩)),(5,.pointer (some ⟨s,0,none⟩)),(6,.int .i64 ((i:Int) - 1))])
  (fun i w=>i≤la∧∃ cs,Blk w g cs 208∧TabD a b cs wd i 0∧Blk w s #[.int .i64 wd,.slice (some ⟨g,0,none⟩) n n] 206∧Blk w R #[.int .i64 0,.slice none 0 0] 206∧Below R w0 w) (fun i=>i) [0,1,4,5,6] la rfl
  ⟨a7 _,_,hg,hT0,hs,hr0,hB0⟩ ?_
 clear hg hT0 hs hr0 hB0 hw3 hs0 hb2 ho hS hG;rintro i w ⟨hi,cs,hg,hT,hs,hr0,hB0⟩
 (repeat first|refine aF ?_|refine zV ?_|refine aA ?_|refine zY ?_);refine bF (fun K hK=>?_);push_cast;refine hK _ _ ?_;clear hK K
 (repeat first|refine aF ?_|refine zV ?_|refine aA ?_|refine zY ?_)
 refine dZ rfl (fun hlt=>?_) (fun hge=>?_)
 ·have hlt:0 < i:=by simp at hlt;omega
  obtain ⟨m,rfl⟩:∃ m,i=m + 1:=⟨i - 1,by omega⟩
  have em:(((m + 1:Nat):Int)) - 1=(m:Int):=by omega
  rw [em];refine kB (l':=_) [0,1,4,5,6] (by simp only [keep,lk,Nat.reduceEqDiff,reduceIte];exact rfl) ?_
  (repeat first|refine aF ?_|refine zV ?_|refine aA ?_|refine zY ?_)
  refine eC ?_
  (repeat first|refine aF ?_|refine zV ?_|refine aA ?_|refine zY ?_);refine bF (fun K hK=>?_);push_cast[qCw,e5];refine hK _ _ ?_;clear hK K
  (repeat first|refine aF ?_|refine zV ?_|refine aA ?_|refine zY ?_)
  refine eC ?_;refine oU (fun j:Nat=>[(0,.slice aa la ca),(1,.slice ab lb cb),(4,.pointer (some ⟨R,0,none⟩)),(5,.pointer (some ⟨s,0,none⟩)),(6,.int .i64 (m:Int)),(7,.int .i64 ((j:Int) - 1))])
   (fun j w=>j≤lb∧∃ cs,Blk w g cs 208∧TabD a b cs wd m j∧Blk w s #[.int .i64 wd,.slice (some ⟨g,0,none⟩) n n] 206∧Blk w R #[.int .i64 0,.slice none 0 0] 206∧Below R w0 w) (fun j=>j) [0,1,4,5,6,7] lb rfl
   ⟨a7 _,cs,hg,?_,hs,hr0,hB0⟩ ?_
  ·refine ⟨hT.1,fun p q hp hq hd=>hT.2 p q hp hq ?_⟩
   rw [hla'] at hd ⊢;omega
  clear hg hT hs hr0 hB0 cs;rintro j w ⟨hj,cs,hg,hT,hs,hr0,hB0⟩
  (repeat first|refine aF ?_|refine zV ?_|refine aA ?_|refine zY ?_);refine bF (fun K hK=>?_);push_cast;refine hK _ _ ?_;clear hK K
  (repeat first|refine aF ?_|refine zV ?_|refine aA ?_|refine zY ?_)
  refine dZ rfl (fun hltj=>?_) (fun hgej=>?_)
  ·have hltj:0 < j:=by simp at hltj;omega
   obtain ⟨q,rfl⟩:∃ q,j=q + 1:=⟨j - 1,by omega⟩
   have eq:(((q + 1:Nat):Int)) - 1=(q:Int):=by omega
   rw [eq];refine kB (l':=_) [0,1,4,5,6,7] (by simp only [keep,lk,Nat.reduceEqDiff,reduceIte];exact rfl) ?_
   (repeat first|refine aF ?_|refine zV ?_|refine aA ?_|refine zY ?_)
   refine eC ?_;obtain ⟨ba,oa,rfl,ca3⟩:=ha3 (by omega)
   obtain ⟨bb,ob,rfl,cb3⟩:=hb3 (by omega)
   have cA:=dR (w':=w) (by rw [hR];exact hB0) (ca3 m (by omega))
   have cB:=dR (w':=w) (by rw [hR];exact hB0) (cb3 q (by omega))
   have hA:(0:Int)≤m∧(m:Int) < la:=by omega
   have hB:(0:Int)≤q∧(q:Int) < lb:=by omega
   (repeat first|refine aF ?_|refine zV ?_|refine aA ?_|refine zY ?_);refine qFm [0,1,4,5,6,7] 9 mixed rfl (by kernel_rfl) (fun K hK=>?_);push_cast[qCw,kt9,cA,cB,hA,hB]
   intro w5 hw5;refine v2s ?_;try push_cast
   refine hK _ _ ?_;clear hK K;refine kB (l':=_) [42,0,1,4,5,6,7] (by simp only [keep,lk,Nat.reduceEqDiff,reduceIte];exact rfl) ?_
   have hg:=hg.up hw5
   have hs:=hs.up hw5
   have hr0:=hr0.up hw5
   have hB0:=hB0.trans (hw5.mono (by rw [← hR];exact hB0.size))
   obtain ⟨m1,hm1⟩:∃ m1,m1=m + 1:=⟨_,rfl⟩;obtain ⟨q1,hq1⟩:∃ q1,q1=q + 1:=⟨_,rfl⟩
   have hmw:m * wd≤400 * 401:=bDd (by omega) (by omega)
   have f1:IntKind.i64.wrap ((m:Int) * (wd:Int))=(m:Int) * (wd:Int):=gY (by rw [← bBa];omega) (by rw [← bBa];omega)
   obtain ⟨k,hk⟩:∃ k,k=m * wd + q:=⟨_,rfl⟩
   have f2:IntKind.i64.wrap ((m:Int) * (wd:Int) + (q:Int))=(k:Int):=by rw [hk,bEf,bBa];exact gY (by rw [← bBa];omega) (by rw [← bBa];omega)
   have f3:IntKind.i64.wrap ((m:Int) + 1)=(m1:Int):=by rw [gY (by omega) (by omega)];omega
   have f4:IntKind.i64.wrap ((q:Int) + 1)=(q1:Int):=by rw [gY (by omega) (by omega)];omega
   have hkn:k < n:=by rw [hk,hn];exact qLo (by omega) (by omega)
   have hkk:(0:Int)≤k∧(k:Int) < n:=by omega
   have g0:=hs.cell 0
   have g1:=hs.cell 1
   simp only [r8,q8,bA2] at g0 g1
   have hcs:cs.size=n:=by rw [hT.1,hla',hn]
   have hstep:=qW0 a b m q (by omega) (by omega)
   have ga:a.getD m ByteArray.empty=a[m]'(by omega):=by simp [b6,c9 (show m < a.length by omega)]
   have gb:b.getD q ByteArray.empty=b[q]'(by omega):=by simp [b6,c9 (show q < b.length by omega)]
   have near:∀ x y,x≤la→y < wd→(x=m1∨y=q1∧x=m)→w5.cell? ⟨g,x * wd + y,none⟩=some (.int .i16 (at2 a b x y)):=fun x y hx hy hd=>by
    rw [hg.cell];refine hT.2 x y (by omega) hy ?_
    omega
   have f6:IntKind.i64.wrap ((q:Int) - 1)=(q:Int) - 1:=gY (by omega) (by omega)
   have s1:at2 a b m1 q1≤la:=hla' ▸ qGx a b m1 q1
   have s2:at2 a b m1 q≤la:=hla' ▸ qGx a b m1 q
   have s3:at2 a b m q1≤la:=hla' ▸ qGx a b m q1
   have bound:∀ x y,x≤la→y < wd→x * wd + y < n:=fun x y hx hy=>by rw [hn];exact qLo hy (by omega)
   refine dZ rfl (fun he=>?_) (fun he=>?_)
   ·have he:a.getD m ByteArray.empty=b.getD q ByteArray.empty:=u7 he
    rw [ga,gb] at he;rw [g8 he] at hstep
    have f5:IntKind.i16.wrap ((at2 a b m1 q1:Int) + 1)=((at2 a b m q:Nat):Int):=by
     rw [← Int.natCast_one,← bEf,yAp (by omega)];subst hm1;subst hq1;omega
    (repeat first|refine aF ?_|refine zV ?_|refine aA ?_|refine zY ?_);refine qFm [42,0,1,4,5,6,7] 16 mixed rfl (by kernel_rfl) (fun K hK=>?_);push_cast[kt3,zEs,qAq,qPg,zSg,zSf,g0,g1,qNj,f1,f2,f3,f4,hkk]
    refine ⟨_,hs.cells rfl,?_⟩;refine vqs ?_;try push_cast[f3,f4]
    refine ⟨qWq,_,pP (fun w' hw'=>qA8 w' g n wd m1 q1 _ (by omega) (by omega) (by omega) (by omega) (bound m1 q1 (by omega) (by omega)) (dR hw' (near m1 q1 (by omega) (by omega) (.inl rfl)))),?_⟩
    refine vqs ?_;try push_cast[f5,qNj,hkk]
    intro w6 hw6;obtain ⟨w7,hr,hg7,ho⟩:=qQk (P:=Tryz.prog) (ty:=208) (i:=k) (v:=.int .i16 (at2 a b m q:Nat)) (hg.up hw6) qPg rfl (by omega)
    refine v2s ?_;try push_cast
    refine ⟨w7,hr,?_⟩;refine v2s ?_;try push_cast
    refine hK _ _ ?_;clear hK K;clear hr
    (repeat first|refine yN ?_|refine yP ?_|refine yQ ?_|refine yR rfl ?_|refine yS ?_|refine zY ?_|refine aF ?_|refine zV ?_|refine aA ?_|refine bW ?_|refine dB ?_)
    refine kB (l':=_) [0,1,4,5,6,7] (by simp only [keep,lk,Nat.reduceEqDiff,reduceIte];exact rfl) ?_
    (repeat first|refine aF ?_|refine zV ?_|refine aA ?_|refine zY ?_);refine bF (fun K hK=>?_);push_cast[f6];refine hK _ _ ?_;clear hK K
    refine zV ⟨q,rfl,⟨by omega,_,hg7,?_,(hs.up hw6).only ho (by omega),(hr0.up hw6).only ho (by omega),ho.below (hB0.trans (hw6.mono (by rw [← hR];exact hB0.size))) (by omega)⟩,by omega⟩
    rw [hk];exact hT.put (by omega) (by omega) _ rfl
   ·have he:¬ a.getD m ByteArray.empty=b.getD q ByteArray.empty:=x8 he
    rw [ga,gb] at he;rw [b7 he] at hstep
    (repeat first|refine aF ?_|refine zV ?_|refine aA ?_|refine zY ?_);refine qFm [42,0,1,4,5,6,7] 20 mixed rfl (by kernel_rfl) (fun K hK=>?_);push_cast[kt3,zEs,qAq,qPg,zSg,zSf,g0,g1,qNj,f1,f2,f3,f4,hkk]
    refine ⟨_,hs.cells rfl,?_⟩;refine vqs ?_;try push_cast[f3,f4]
    refine ⟨qWq,_,pP (fun w' hw'=>qA8 w' g n wd m1 q _ (by omega) (by omega) (by omega) (by omega) (bound m1 q (by omega) (by omega)) (dR hw' (near m1 q (by omega) (by omega) (.inl rfl)))),?_⟩
    refine vqs ?_;try push_cast
    refine ⟨_,hs.cells rfl,?_⟩;refine vqs ?_;try push_cast[f3,f4]
    refine ⟨qWq,_,pP (fun w' hw'=>qA8 w' g n wd m q1 _ (by omega) (by omega) (by omega) (by omega) (bound m q1 (by omega) (by omega)) (dR hw' (near m q1 (by omega) (by omega) (.inr ⟨rfl,rfl⟩)))),?_⟩
    refine vqs ?_;try push_cast[qNj,hkk]
    intro w6 hw6
    have f7:(if (at2 a b m1 q:Int) < (at2 a b m q1:Int) then (at2 a b m q1:Int) else (at2 a b m1 q:Int))=((at2 a b m q:Nat):Int):=by
     subst hm1;subst hq1;split <;> omega
    rw [f7];obtain ⟨w7,hr,hg7,ho⟩:=qQk (P:=Tryz.prog) (ty:=208) (i:=k) (v:=.int .i16 (at2 a b m q:Nat)) (hg.up hw6) qPg rfl (by omega)
    refine v2s ?_;try push_cast
    refine ⟨w7,hr,?_⟩;refine v2s ?_;try push_cast
    refine hK _ _ ?_;clear hK K;clear hr
    (repeat first|refine yN ?_|refine yP ?_|refine yQ ?_|refine yR rfl ?_|refine yS ?_|refine zY ?_|refine aF ?_|refine zV ?_|refine aA ?_|refine bW ?_|refine dB ?_)
    refine kB (l':=_) [0,1,4,5,6,7] (by simp only [keep,lk,Nat.reduceEqDiff,reduceIte];exact rfl) ?_
    (repeat first|refine aF ?_|refine zV ?_|refine aA ?_|refine zY ?_);refine bF (fun K hK=>?_);push_cast[f6];refine hK _ _ ?_;clear hK K
    refine zV ⟨q,rfl,⟨by omega,_,hg7,?_,(hs.up hw6).only ho (by omega),(hr0.up hw6).only ho (by omega),ho.below (hB0.trans (hw6.mono (by rw [← hR];exact hB0.size))) (by omega)⟩,by omega⟩
    rw [hk];exact hT.put (by omega) (by omega) _ rfl
  ·have hz:j=0:=by simp at hgej;omega
   subst hz
   (repeat first|refine yN ?_|refine yP ?_|refine yQ ?_|refine yR rfl ?_|refine yS ?_|refine zY ?_|refine aF ?_|refine zV ?_|refine aA ?_|refine bW ?_|refine dB ?_)
   refine kB (l':=_) [0,1,4,5,6] (by simp only [keep,lk,Nat.reduceEqDiff,reduceIte];exact rfl) ?_
   have f8:IntKind.i64.wrap ((m:Int) - 1)=(m:Int) - 1:=gY (by omega) (by omega)
   (repeat first|refine aF ?_|refine zV ?_|refine aA ?_|refine zY ?_);refine bF (fun K hK=>?_);push_cast[f8];refine hK _ _ ?_;clear hK K
   exact zV ⟨m,rfl,⟨by omega,cs,hg,hT,hs,hr0,hB0⟩,by omega⟩
 ·have hz:i=0:=by simp at hge;omega
  subst hz
  (repeat first|refine yN ?_|refine yP ?_|refine yQ ?_|refine yR rfl ?_|refine yS ?_|refine zY ?_|refine aF ?_|refine zV ?_|refine aA ?_|refine bW ?_|refine dB ?_)
  refine kB (l':=_) [0,1,4,5,6] (by simp only [keep,lk,Nat.reduceEqDiff,reduceIte];exact rfl) ?_
  (repeat first|refine aF ?_|refine zV ?_|refine aA ?_|refine zY ?_);refine bF (fun K hK=>?_);push_cast[qAq]
  refine ⟨_,hs.cells rfl,?_⟩;refine v2s ?_;try push_cast[qAq]
  obtain ⟨w5,hr,hr5,ho⟩:=qJ8 (P:=Tryz.prog) (ty:=206) (vs:=#[.int .i64 wd,.slice (some ⟨g,0,none⟩) n n]) hr0 qAq (by simp [Value.oneCell']) rfl
  refine ⟨w5,hr,?_⟩;refine v2s ?_;try push_cast
  refine hK _ _ ?_;clear hK K;clear hr
  (repeat first|refine yN ?_|refine yP ?_|refine yQ ?_|refine yR rfl ?_|refine yS ?_|refine zY ?_|refine aF ?_|refine zV ?_|refine aA ?_|refine bW ?_|refine dB ?_)
  simp only [qDn,jE,tup,lk,Nat.reduceEqDiff,reduceIte,reduceCtorEq,qAq];exact ⟨_,hr5.cells rfl,g,n,cs,rfl,hn,by omega,hg.only ho (by omega),hT,ho.below hB0 (by omega)⟩
end Go.Proofs.Y
