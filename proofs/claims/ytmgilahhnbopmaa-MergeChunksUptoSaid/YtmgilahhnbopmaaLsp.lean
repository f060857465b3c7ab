/-
  Lines: what they are; the walk of lines.Split.
-/
import Derived.Test.YtmgilahhnbopmaaSmH
import Derived.Test.YtmgilahhnbopmaaJoin
set_option linter.unusedSimpArgs false
set_option linter.unusedVariables false
set_option maxRecDepth 20000
namespace Go.Proofs.Ytmgilahhnbopmaa
open Go Go.Eng Go.RowKit
def spl:List UInt8→List (List UInt8)
|[]=>[]
|b :: l=>if b=10 then [b] :: spl l else match spl l with
 |[]=>[[b]]
 |x :: r=>(b :: x) :: r
def bs (l:List UInt8):ByteArray:=⟨l.toArray⟩
def dA (s:ByteArray):List ByteArray:=(spl s.data.toList).map bs
theorem lK (s:ByteArray):bs s.data.toList=s:=by
 apply ByteArray.ext;apply Array.toList_inj.1;simp [bs]
theorem qY4 (p q:List UInt8) (h:∀ b ∈ p,b≠10):spl (p ++ 10 :: q)=(p ++ [10]) :: spl q:=by
 induction p with
|nil=>simp [spl]
|cons b p ih =>
  rw [List.cons_append,spl,if_neg (h b (by simp)),ih (fun x hx=>h x (by simp [hx]))]
  rfl
theorem qY3 (p:List UInt8) (h:∀ b ∈ p,b≠10) (hne:p≠[]):spl p=[p]:=by
 induction p with
|nil=>exact absurd rfl hne
|cons b p ih =>
  rw [spl,if_neg (h b (by simp))]
  cases p with
 |nil=>rfl
 |cons c r=>rw [ih (fun x hx=>h x (by simp [hx])) (by simp)]
theorem zB9 (l:List UInt8):(Lib.indexByte l 10=-1∧∀ b ∈ l,b≠10)∨∃ p q,l=p ++ 10 :: q∧(∀ b ∈ p,b≠10)∧Lib.indexByte l 10=p.length:=by
 induction l with
|nil=>exact .inl ⟨rfl,by simp⟩
|cons b l ih =>
  rw [Lib.indexByte]
  by_cases e:b=10
  ·subst e;exact .inr ⟨[],l,rfl,by simp,by simp⟩
  ·rw [if_neg (by simpa using e)]
   rcases ih with ⟨h1,h2⟩|⟨p,q,rfl,h2,h3⟩
   ·left
    rw [h1];exact ⟨rfl,fun x hx=>by rcases List.mem_cons.1 hx with rfl|hx;exact e;exact h2 x hx⟩
   ·right
    refine ⟨b :: p,q,rfl,fun x hx=>by rcases List.mem_cons.1 hx with rfl|hx;exact e;exact h2 x hx,?_⟩
    rw [h3,if_neg (by simp)]
    simp
theorem lC (s:ByteArray) (a b:Nat):(s.extract a b).data.toList=(s.data.toList.take b).drop a:=by
 rw [ByteArray.data_extract,Array.toList_extract,List.extract_eq_take_drop,List.drop_take]
theorem lT (s:ByteArray):s.data.toList.length=s.size:=by rw [Array.length_toList];rfl
theorem zBn (u:ByteArray) (h:u≠⟨#[]⟩):∃ n:Nat,1≤n∧n≤u.size∧(Lib.indexByte u.data.toList 10 + 1=0∧n=u.size∨Lib.indexByte u.data.toList 10 + 1=(n:Int))∧dA u=u.extract 0 n :: dA (u.extract n u.size):=by
 have hs:=lT u
 rcases zB9 u.data.toList with ⟨h1,h2⟩|⟨p,q,h1,h2,h3⟩
 ·have hne:u.data.toList≠[]:=fun e=>h (by rw [← lK u,e];rfl)
  have hpos:0 < u.data.toList.length:=List.length_pos_iff.2 hne
  refine ⟨u.size,by omega,Nat.le_refl _,.inl ⟨by omega,rfl⟩,?_⟩
  have e1:u.extract 0 u.size=u:=by rw [← lK (u.extract 0 u.size),lC,List.take_of_length_le (by omega),List.drop_zero,lK]
  have e2:dA (u.extract u.size u.size)=[]:=by unfold dA;rw [lC,List.drop_eq_nil_of_le (by simp)];rfl
  rw [e1,e2];unfold dA;rw [qY3 _ h2 hne,List.map_cons,List.map_nil,lK]
 ·have hl:u.size=p.length + 1 + q.length:=by rw [← hs,h1];simp;omega
  refine ⟨p.length + 1,by omega,by omega,.inr (by omega),?_⟩
  unfold dA;rw [lC,h1,qY4 p q h2,List.map_cons]
  congr 1
  ·rw [← lK (u.extract 0 (p.length + 1)),lC,h1,List.drop_zero]
   congr 1
   rw [List.take_append,List.take_of_length_le (by omega)];simp
  ·congr 2
   rw [List.take_of_length_le (by simp;omega),List.drop_append,List.drop_eq_nil_of_le (by omega)];simp
theorem zGo (l:List UInt8):(spl l).length≤l.length:=by
 induction l with
|nil=>simp [spl]
|cons b l ih =>
  rw [spl];split
  ·simpa using ih
  ·split
   ·simp
   ·rename_i x r e;rw [e] at ih;simp at ih ⊢;omega
theorem qTk (s:ByteArray):(dA s).length≤s.size:=by
 unfold dA;rw [List.length_map,← lT];exact zGo _
theorem qX9 (s:ByteArray):HFun Try.prog 20 [.v (.string s),.v (.int .u8 10)] (fun h st=>h=.v (.int .i64 (Lib.indexByte s.data.toList 10))):=by
 refine (qD1 fun w vs R=>?_).mono fun h st q=>q.1
 obtain ⟨r1,r2⟩:=R
 match vs,r1 with
|[a,b],_ =>
 have ha:=cW (r2 0 (by simp) (by simp))
 have hb:=cW (r2 1 (by simp) (by simp))
 simp only [List.getElem_cons_zero,List.getElem_cons_succ] at ha hb;subst ha;subst hb;refine (Try.strings_IndexByte s 10 w).mono ?_;rintro e w' ⟨rfl,rfl⟩;exact qAa ⟨rfl,Below.refl _ _⟩
theorem qYj (s:ByteArray):HFun Try.prog 28 [.v (.string s),.v (.string ⟨#[10]⟩)] (fun h st=>h=.v (.int .i64 (s.data.toList.count 10:Nat))):=by
 refine (qD1 fun w vs R=>?_).mono fun h st q=>q.1
 obtain ⟨r1,r2⟩:=R
 match vs,r1 with
|[a,b],_ =>
 have ha:=cW (r2 0 (by simp) (by simp))
 have hb:=cW (r2 1 (by simp) (by simp))
 simp only [List.getElem_cons_zero,List.getElem_cons_succ] at ha hb;subst ha;subst hb;refine (Try.strings_Count_one s 10 w).mono ?_;rintro e w' ⟨rfl,rfl⟩;exact qAa ⟨rfl,Below.refl _ _⟩
def lH (l:List UInt8):Bool:=l.getLast? == some 10
theorem qXk (l:List UInt8):Lib.hasSuffix l [10]=lH l:=by
 unfold Lib.hasSuffix lH
 rcases List.eq_nil_or_concat l with rfl|⟨p,b,rfl⟩
 ·rfl
 ·rw [Bool.eq_iff_iff,List.isSuffixOf_iff_suffix];simp only [List.concat_eq_append,List.getLast?_concat,List.getLast?_append,List.getLast?_singleton,Option.some_or,beq_iff_eq,Option.some.injEq];constructor
  ·rintro ⟨t,h⟩
   have:=congrArg List.getLast? h
   simpa using this.symm
  ·rintro rfl;exact ⟨p,rfl⟩
theorem qTh (s:ByteArray) (hs:s.size≤9223372036854775807):HFun Try.prog 34 [.v (.string s),.v (.string ⟨#[10]⟩)] (fun h st=>h=.v (.bool (lH s.data.toList))):=by
 refine (qD1 fun w vs R=>?_).mono fun h st q=>q.1
 obtain ⟨r1,r2⟩:=R
 match vs,r1 with
|[a,b],_ =>
 have ha:=cW (r2 0 (by simp) (by simp))
 have hb:=cW (r2 1 (by simp) (by simp))
 simp only [List.getElem_cons_zero,List.getElem_cons_succ] at ha hb;subst ha;subst hb;refine (Try.strings_HasSuffix s ⟨#[10]⟩ w hs).mono ?_;rintro e w' ⟨rfl,rfl⟩;refine qAa ⟨?_,Below.refl _ _⟩;show Value.bool (Lib.hasSuffix s.data.toList [10])=_
 rw [qXk]
theorem qHi (s:ByteArray) (i:Nat) (h:i < s.size):∃ b:UInt8,s.data.toList[i]?=some b∧fY s i=(b.toNat:Int):=by
 have h':i < s.data.size:=h
 refine ⟨s.data[i],by rw [Array.getElem?_toList,Array.getElem?_eq_getElem h'],?_⟩
 unfold fY;rw [Array.getD_eq_getD_getElem?,Array.getElem?_eq_getElem h'];rfl
theorem qRv (b:UInt8):(b.toNat:Int)=10↔b=10:=by
 constructor
 ·intro h;apply UInt8.toNat_inj.1;have e:(10:UInt8).toNat=10:=rfl;omega
 ·rintro rfl;rfl
theorem qY5 (s:ByteArray) (a i:Nat) (ha:a≤i) (hi:i < s.size) (hno:∀ j,a≤j→j < i→fY s j≠10) (hb:fY s i=10∨i + 1=s.size) :
  dA (s.extract a s.size)=s.extract a (i + 1) :: dA (s.extract (i + 1) s.size):=by
 have hs:=lT s
 obtain ⟨b,b1,b2⟩:=qHi s i hi
 have hl:s.data.toList.drop a=(s.data.toList.drop a).take (i - a) ++ b :: s.data.toList.drop (i + 1):=by
  conv=>lhs;rw [← List.take_append_drop (i - a) (s.data.toList.drop a)]
  congr 1
  rw [List.drop_drop,show a + (i - a)=i by omega]
  obtain ⟨h1,h2⟩:=List.getElem?_eq_some_iff.1 b1;rw [List.drop_eq_getElem_cons h1,h2]
 have hp:∀ x ∈ (s.data.toList.drop a).take (i - a),x≠10:=fun x hx e=>by
  obtain ⟨j,hj,rfl⟩:=List.getElem_of_mem hx;simp only [List.length_take,List.length_drop] at hj;simp only [List.getElem_take,List.getElem_drop] at e;obtain ⟨c,c1,c2⟩:=qHi s (a + j) (by omega)
  refine hno (a + j) (by omega) (by omega) ?_
  rw [c2,qRv,← e];rw [List.getElem?_eq_getElem (by omega)] at c1
  exact (Option.some.inj c1).symm
 have hx:((s.data.toList.drop a).take (i - a) ++ [b])=(s.data.toList.take (i + 1)).drop a:=by
  have:(s.data.toList.drop a).take (i + 1 - a)=(s.data.toList.take (i + 1)).drop a:=by rw [List.drop_take]
  rw [← this,show i + 1 - a=(i - a) + 1 by omega]
  obtain ⟨h1,h2⟩:=List.getElem?_eq_some_iff.1 b1;rw [List.take_succ_eq_append_getElem (by simp;omega)]
  congr 2
  rw [List.getElem_drop,← h2]
  congr 1
  omega
 unfold dA;rw [lC,lC,List.take_of_length_le (by omega),hl]
 rw [b2,qRv] at hb
 by_cases hten:b=10
 ·subst hten;rw [qY4 _ _ hp,List.map_cons]
  congr 1
  rw [hx,← lC,lK]
 ·have he:i + 1=s.size:=hb.resolve_left hten
  have hd:s.data.toList.drop (i + 1)=[]:=List.drop_eq_nil_of_le (by omega)
  rw [hd,qY3 _ (fun x hx=>by rcases List.mem_append.1 hx with h|h;exact hp x h;simp at h;rw [h];exact hten) (by simp),List.map_cons,hx,← lC,lK]
  simp [spl]
theorem zBm (l:List UInt8):(spl l).length=l.count 10 + (if l≠[]∧lH l=false then 1 else 0):=by
 induction l with
|nil=>rfl
|cons b l ih =>
  have hend:∀ c r,lH (b :: c :: r)=lH (c :: r):=fun c r=>by simp [lH]
  rw [spl]
  by_cases e:b=10
  ·subst e;rw [if_pos rfl,List.length_cons,ih]
   cases l with
  |nil=>rfl
  |cons c r=>rw [hend,List.count_cons_self];simp;omega
  ·rw [if_neg e,List.count_cons_of_ne (Ne.symm (Ne.symm e))]
   cases l with
  |nil=>simp [spl,lH,e]
  |cons c r =>
    rw [hend]
    have:∃ x y,spl (c :: r)=x :: y:=by
     rw [spl];split
     ·exact ⟨_,_,rfl⟩
     ·split <;> exact ⟨_,_,rfl⟩
    obtain ⟨x,y,hxy⟩:=this;rw [hxy] at ih ⊢;simp only [List.length_cons] at ih ⊢;rw [ih];simp
theorem zG6 (s:ByteArray) (h:0 < s.size):lH s.data.toList=decide (fY s (s.size - 1)=10):=by
 obtain ⟨b,b1,b2⟩:=qHi s (s.size - 1) (by omega)
 have hs:=lT s
 rw [b2,lH,List.getLast?_eq_getElem?,hs,b1,Bool.eq_iff_iff,decide_eq_true_iff,qRv];simp
theorem qXn (s:ByteArray):(dA s).length=s.data.toList.count 10 + (if s≠⟨#[]⟩∧fY s (s.size - 1)≠10 then 1 else 0):=by
 unfold dA;rw [List.length_map,zBm]
 congr 1
 by_cases h:s=⟨#[]⟩
 ·subst h;rfl
 ·have hne:s.data.toList≠[]:=fun e=>h (by rw [← lK s,e];rfl)
  have hp:0 < s.size:=by rw [← lT];exact List.length_pos_iff.2 hne
  rw [zG6 s hp];simp [h,hne]
def nl:ByteArray:=⟨#[10]⟩
def qMv (x:ByteArray):ByteArray:=if lH x.data.toList then x else x ++ nl
def jA (l:List ByteArray):List ByteArray:=match l.getLast? with
|none=>[]
|some x=>l.set (l.length - 1) (qMv x)
theorem qG2 (l:List ByteArray):(jA l).length=l.length:=by
 unfold jA;split
 ·rename_i h;rw [List.getLast?_eq_none_iff.1 h]
 ·simp
def cH (s:ByteArray):Int:=if (∃ i,i < s.size∧fY s i=0) then 21 else if 400 < (dA s).length then 4 else 0
theorem qRf (s:ByteArray):(iH s).length=s.size:=by simp [iH]
theorem zCq (s:ByteArray):Wid 1 (iH s)=True:=eq_true fun x hx=>by
 simp only [iH,List.mem_map] at hx;obtain ⟨b,-,rfl⟩:=hx;rfl
theorem zCr {s:ByteArray} {i:Nat} {d:List FV} (h:i < s.size):(iH s).getD i d=[.v (.int .u8 (fY s i))]:=by
 obtain ⟨b,b1,b2⟩:=qHi s i h;rw [b2,List.getD_eq_getElem?_getD,iH,List.getElem?_map,b1];rfl

structure LI where
 u:ByteArray
 l:List ByteArray
def lsE (k:LI):HS:=⟨[(0,.v (.string k.u)),(3,.own 40)],[(40,.sl true 9 1 (aD k.l))]⟩
def lsI (s:ByteArray) (k:LI):Prop:=k.l.length + k.u.size≤s.size∧dA s=k.l ++ dA k.u
abbrev lsQ (s:ByteArray) (h:HV) (st:aB):Prop:=h=.own 0∧st=[(0,.sl true 9 1 (aD (dA s)))]
set_option maxHeartbeats 4000000 in
theorem qBh (s:ByteArray) (hs:s.size≤4294967296):HFun Try.prog 10 [.v (.string s)] (lsQ s):=by
 refine rT (N:=25) Try.func10 rfl Try.ntmps10 Try.results10 (by simp) ?_
 refine zE ?_;refine zJ (fun K hK=>?_);simp (disch:=omega) only [push_cast,↓iC9,simprocAttr];refine hK _ ?_;clear hK K
 refine zE ?_;refine zJ (fun K hK=>?_);simp (disch:=omega) only [push_cast,↓iC9,simprocAttr];refine hK _ ?_;clear hK K
 refine zE ?_;refine zD ?_;refine fS lsE (lsI s) (fun k=>k.u.size) [0,3] [40] ⟨s,[]⟩ (by simp only [zZ,zR,zP,zQ,zN,zS,zM,zX,zU,Nat.reduceEqDiff,reduceIte,lsE];rfl) ⟨by simp,by simp⟩ ?_
 rintro ⟨u,l⟩ ⟨hl,hsp⟩;dsimp only at hl hsp;simp only [lsE]
 by_cases hu:u=⟨#[]⟩
 ·have hd:decide (u=⟨#[]⟩)=true:=decide_eq_true hu
  refine zE ?_;refine zE ?_;refine zJ (fun K hK=>?_);simp (disch:=omega) only [push_cast,↓iC9,simprocAttr,hd];refine hK _ ?_;clear hK K
  refine yC rfl ?_;refine zT ?_;refine zG ?_;refine zG ?_;refine zH ?_;refine zE ?_;refine zJ (fun K hK=>?_);simp (disch:=omega) only [push_cast,↓iC9,simprocAttr];refine hK _ ?_;clear hK K
  refine zA ?_;refine zW ?_;simp only [yA,yM,yH,yE,aR,bT,yK,yJ,zS,zM,Nat.reduceEqDiff,reduceIte,reduceCtorEq]
  have e:dA s=l:=by rw [hsp,hu];simp [dA,spl]
  exact xK rfl (jS _) ⟨rfl,by rw [e]⟩
 ·have hd:decide (u=⟨#[]⟩)=false:=decide_eq_false hu
  obtain ⟨n,n1,n2,n3,n4⟩:=zBn u hu
  have hi:=qX9 u
  obtain ⟨k,hk⟩:∃ k,k=Lib.indexByte u.data.toList 10:=⟨_,rfl⟩;rw [← hk] at hi n3;refine zE ?_;refine zE ?_;refine zJ (fun K hK=>?_);simp (disch:=omega) only [push_cast,↓iC9,simprocAttr,hd];refine hK _ ?_;clear hK K
  refine yD rfl ?_;refine zC ?_;refine zA ?_;refine zD ?_;refine zE ?_;refine zJ (fun K hK=>?_);simp (disch:=omega) only [push_cast,↓iC9,simprocAttr]
  refine tZ zLw hi (.cons (.v _) (.cons (.v _) .nil)) ?_;with_reducible refine aH ?_;simp (disch:=omega) only [push_cast,↓iC9,simprocAttr]
  refine hK _ ?_;clear hK K;refine yB [0,3,4] [40] (by simp only [zZ,zR,zP,zQ,zN,zS,zM,zX,zU,Nat.reduceEqDiff,reduceIte];exact rfl) ?_
  have hz:(u.extract n u.size).size=u.size - n:=by rw [ByteArray.size_extract];omega
  have fin:(l ++ [u.extract 0 n]).length + (u.extract n u.size).size≤s.size∧dA s=(l ++ [u.extract 0 n]) ++ dA (u.extract n u.size):=⟨by rw [List.length_append,hz];simp;omega,by rw [hsp,n4];simp⟩
  rcases n3 with ⟨e1,e2⟩|e1
  ·refine zE ?_;refine zE ?_;refine zJ (fun K hK=>?_);simp (disch:=omega) only [push_cast,↓iC9,simprocAttr,e1];refine hK _ ?_;clear hK K
   refine yD rfl ?_;refine zJ (fun K hK=>?_);simp (disch:=omega) only [push_cast,↓iC9,simprocAttr];refine hK _ ?_;clear hK K
   rw [← e2];refine zE ?_;refine zJ (fun K hK=>?_);simp (disch:=omega) only [push_cast,↓iC9,simprocAttr,aA];(repeat refine ⟨by first|omega|decide|((repeat' apply And.intro) <;> first|omega|decide),?_⟩);refine hK _ ?_;clear hK K
   refine zA ?_;refine zJ (fun K hK=>?_);simp (disch:=omega) only [push_cast,↓iC9,simprocAttr];(repeat refine ⟨by first|omega|decide|((repeat' apply And.intro) <;> first|omega|decide),?_⟩);refine hK _ ?_;clear hK K
   refine zB ?_;refine zA ?_;exact ⟨⟨u.extract n u.size,l ++ [u.extract 0 n]⟩,by simp only [zZ,zR,zP,zQ,zN,zS,zM,zX,zU,Nat.reduceEqDiff,reduceIte,lsE,mZ];try rfl,fin,by dsimp only;omega⟩
  ·rw [e1];refine zE ?_;refine zE ?_;refine zJ (fun K hK=>?_);simp (disch:=omega) only [push_cast,↓iC9,simprocAttr];refine hK _ ?_;clear hK K
   refine yC rfl ?_;refine zC ?_;refine zE ?_;refine zJ (fun K hK=>?_);simp (disch:=omega) only [push_cast,↓iC9,simprocAttr,aA];(repeat refine ⟨by first|omega|decide|((repeat' apply And.intro) <;> first|omega|decide),?_⟩);refine hK _ ?_;clear hK K
   refine zA ?_;refine zJ (fun K hK=>?_);simp (disch:=omega) only [push_cast,↓iC9,simprocAttr];(repeat refine ⟨by first|omega|decide|((repeat' apply And.intro) <;> first|omega|decide),?_⟩);refine hK _ ?_;clear hK K
   refine zB ?_;refine zA ?_;exact ⟨⟨u.extract n u.size,l ++ [u.extract 0 n]⟩,by simp only [zZ,zR,zP,zQ,zN,zS,zM,zX,zU,Nat.reduceEqDiff,reduceIte,lsE,mZ];try rfl,fin,by dsimp only;omega⟩
set_option maxHeartbeats 4000000 in
theorem zEh (s:ByteArray) (hs:s.size≤4294967296):HFun Try.prog 19 [.v (.string s)] (fun h st=>h=.v (.int .i64 ((dA s).length:Nat))):=by
 have hc:=qXn s
 have hct:=qYj s
 have hle:s.data.toList.count 10≤s.size:=by rw [← lT];exact List.count_le_length
 obtain ⟨c,hcc⟩:∃ c,c=s.data.toList.count 10:=⟨_,rfl⟩;rw [← hcc] at hc hct hle;obtain ⟨n,hn⟩:∃ n,n=(dA s).length:=⟨_,rfl⟩;rw [← hn] at hc ⊢;refine rT (N:=19) Try.func19 rfl Try.ntmps19 Try.results19 (by simp) ?_
 refine zE ?_;refine zJ (fun K hK=>?_);simp (disch:=omega) only [push_cast,↓iC9,simprocAttr];refine hK _ ?_;clear hK K
 refine zE ?_;refine zJ (fun K hK=>?_);simp (disch:=omega) only [push_cast,↓iC9,simprocAttr]
 refine tZ zLt hct (.cons (.v _) (.cons (.v _) .nil)) ?_;with_reducible refine aH ?_;simp (disch:=omega) only [push_cast,↓iC9,simprocAttr]
 refine hK _ ?_;clear hK K
 by_cases h:s=⟨#[]⟩
 ·have hd:decide (s=⟨#[]⟩)=true:=decide_eq_true h
  rw [if_neg (by simp [h])] at hc
  refine zE ?_;refine zE ?_;refine zJ (fun K hK=>?_);simp (disch:=omega) only [push_cast,↓iC9,simprocAttr,hd];refine hK _ ?_;clear hK K
  refine yC rfl ?_;refine zC ?_;refine zE ?_;refine zJ (fun K hK=>?_);simp (disch:=omega) only [push_cast,↓iC9,simprocAttr];refine hK _ ?_;clear hK K
  refine zA ?_;refine zW ?_;simp only [yA,yM,yH,yE,aR,bT,yK,yJ,zS,zM,Nat.reduceEqDiff,reduceIte,reduceCtorEq];subst hc;exact jK rfl
 ·have hd:decide (s=⟨#[]⟩)=false:=decide_eq_false h
  have hp:0 < s.size:=by
   rcases Nat.eq_zero_or_pos s.size with e|e
   ·exact absurd (by rw [← lK s,List.eq_nil_of_length_eq_zero ((lT s).trans e)];rfl) h
   ·exact e
  have e1:((s.size:Int) - 1).toNat=s.size - 1:=by omega
  by_cases hb:fY s (s.size - 1)=10
  ·rw [if_neg (by simp [hb])] at hc
   refine zE ?_;refine zE ?_;refine zJ (fun K hK=>?_);simp (disch:=omega) only [push_cast,↓iC9,simprocAttr,hd,e1,hb];(repeat refine ⟨by first|omega|decide|((repeat' apply And.intro) <;> first|omega|decide),?_⟩);refine hK _ ?_;clear hK K
   refine yC rfl ?_;refine zC ?_;refine zE ?_;refine zJ (fun K hK=>?_);simp (disch:=omega) only [push_cast,↓iC9,simprocAttr];refine hK _ ?_;clear hK K
   refine zA ?_;refine zW ?_;simp only [yA,yM,yH,yE,aR,bT,yK,yJ,zS,zM,Nat.reduceEqDiff,reduceIte,reduceCtorEq];subst hc;exact jK rfl
  ·rw [if_pos ⟨h,hb⟩] at hc
   have e2:decide (fY s (s.size - 1)=10)=false:=decide_eq_false hb
   refine zE ?_;refine zE ?_;refine zJ (fun K hK=>?_);simp (disch:=omega) only [push_cast,↓iC9,simprocAttr,hd,e1,e2];(repeat refine ⟨by first|omega|decide|((repeat' apply And.intro) <;> first|omega|decide),?_⟩);refine hK _ ?_;clear hK K
   refine yD rfl ?_;refine zJ (fun K hK=>?_);simp (disch:=omega) only [push_cast,↓iC9,simprocAttr];refine hK _ ?_;clear hK K
   refine zE ?_;refine zJ (fun K hK=>?_);simp (disch:=omega) only [push_cast,↓iC9,simprocAttr];refine hK _ ?_;clear hK K
   refine zA ?_;refine zW ?_;simp only [yA,yM,yH,yE,aR,bT,yK,yJ,zS,zM,Nat.reduceEqDiff,reduceIte,reduceCtorEq];subst hc;exact jK rfl
end Go.Proofs.Ytmgilahhnbopmaa
