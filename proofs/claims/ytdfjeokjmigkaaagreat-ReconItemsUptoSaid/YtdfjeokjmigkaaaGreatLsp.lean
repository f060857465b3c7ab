/-
  Lines: what they are; the walk of lines.Split.
-/
import Derived.Test.YtdfjeokjmigkaaaGreatSmH
import Derived.Test.YtdfjeokjmigkaaaGreatJoin
set_option linter.unusedSimpArgs false
set_option linter.unusedVariables false
set_option maxRecDepth 20000
namespace Go.Proofs.YtdfjeokjmigkaaaGreat
open Go Go.Eng Go.RowKit
def spl:List UInt8→List (List UInt8)
|[]=>[]
|b :: l=>if b=10 then [b] :: spl l else match spl l with
 |[]=>[[b]]
 |x :: r=>(b :: x) :: r
def bs (l:List UInt8):ByteArray:=⟨l.toArray⟩
def bW (s:ByteArray):List ByteArray:=(spl s.data.toList).map bs
theorem mY (s:ByteArray):bs s.data.toList=s:=by
 apply ByteArray.ext;apply Array.toList_inj.1;simp [bs]
theorem zBj (p q:List UInt8) (h:∀ b ∈ p,b≠10):spl (p ++ 10 :: q)=(p ++ [10]) :: spl q:=by
 induction p with
|nil=>simp [spl]
|cons b p ih =>
  rw [List.cons_append,spl,if_neg (h b (by simp)),ih (fun x hx=>h x (by simp [hx]))]
  rfl
theorem zBi (p:List UInt8) (h:∀ b ∈ p,b≠10) (hne:p≠[]):spl p=[p]:=by
 induction p with
|nil=>exact absurd rfl hne
|cons b p ih =>
  rw [spl,if_neg (h b (by simp))]
  cases p with
 |nil=>rfl
 |cons c r=>rw [ih (fun x hx=>h x (by simp [hx])) (by simp)]
theorem zEu (l:List UInt8):(Lib.indexByte l 10=-1∧∀ b ∈ l,b≠10)∨∃ p q,l=p ++ 10 :: q∧(∀ b ∈ p,b≠10)∧Lib.indexByte l 10=p.length:=by
 induction l with
|nil=>exact .inl ⟨rfl,by simp⟩
|cons b l ih =>
  rw [Lib.indexByte]
  by_cases e:b=10
  ·subst e;exact .inr ⟨[],l,rfl,by simp,by simp⟩
  ·rw [if_neg (by simpa using e)]
   rcases ih with ⟨h1,h2⟩|⟨p,q,rfl,h2,h3⟩
   ·left
    rw [h1];exact ⟨rfl,fun x hx=>by rcases List.mem_cons.1 hx with rfl|hx;exact e;exact h2 x hx⟩
   ·right
    refine ⟨b :: p,q,rfl,fun x hx=>by rcases List.mem_cons.1 hx with rfl|hx;exact e;exact h2 x hx,?_⟩
    rw [h3,if_neg (by simp)]
    simp
theorem mN (s:ByteArray) (a b:Nat):(s.extract a b).data.toList=(s.data.toList.take b).drop a:=by
 rw [ByteArray.data_extract,Array.toList_extract,List.extract_eq_take_drop,List.drop_take]
theorem lE (s:ByteArray):s.data.toList.length=s.size:=by rw [Array.length_toList];rfl
theorem zDb (u:ByteArray) (h:u≠⟨#[]⟩):∃ n:Nat,1≤n∧n≤u.size∧(Lib.indexByte u.data.toList 10 + 1=0∧n=u.size∨Lib.indexByte u.data.toList 10 + 1=(n:Int))∧bW u=u.extract 0 n :: bW (u.extract n u.size):=by
 have hs:=lE u
 rcases zEu u.data.toList with ⟨h1,h2⟩|⟨p,q,h1,h2,h3⟩
 ·have hne:u.data.toList≠[]:=fun e=>h (by rw [← mY u,e];rfl)
  have hpos:0 < u.data.toList.length:=List.length_pos_iff.2 hne
  refine ⟨u.size,by omega,Nat.le_refl _,.inl ⟨by omega,rfl⟩,?_⟩
  have e1:u.extract 0 u.size=u:=by rw [← mY (u.extract 0 u.size),mN,List.take_of_length_le (by omega),List.drop_zero,mY]
  have e2:bW (u.extract u.size u.size)=[]:=by unfold bW;rw [mN,List.drop_eq_nil_of_le (by simp)];rfl
  rw [e1,e2];unfold bW;rw [zBi _ h2 hne,List.map_cons,List.map_nil,mY]
 ·have hl:u.size=p.length + 1 + q.length:=by rw [← hs,h1];simp;omega
  refine ⟨p.length + 1,by omega,by omega,.inr (by omega),?_⟩
  unfold bW;rw [mN,h1,zBj p q h2,List.map_cons]
  congr 1
  ·rw [← mY (u.extract 0 (p.length + 1)),mN,h1,List.drop_zero]
   congr 1
   rw [List.take_append,List.take_of_length_le (by omega)];simp
  ·congr 2
   rw [List.take_of_length_le (by simp;omega),List.drop_append,List.drop_eq_nil_of_le (by omega)];simp
theorem zM3 (l:List UInt8):(spl l).length≤l.length:=by
 induction l with
|nil=>simp [spl]
|cons b l ih =>
  rw [spl];split
  ·simpa using ih
  ·split
   ·simp
   ·rename_i x r e;rw [e] at ih;simp at ih ⊢;omega
theorem qS0 (s:ByteArray):(bW s).length≤s.size:=by
 unfold bW;rw [List.length_map,← lE];exact zM3 _
theorem qYo (s:ByteArray):HFun Tryz.prog 81 [.v (.string s),.v (.int .u8 10)] (fun h st=>h=.v (.int .i64 (Lib.indexByte s.data.toList 10))):=by
 refine (qAl fun w vs R=>?_).mono fun h st q=>q.1
 obtain ⟨r1,r2⟩:=R
 match vs,r1 with
|[a,b],_ =>
 have ha:=bK (r2 0 (by simp) (by simp))
 have hb:=bK (r2 1 (by simp) (by simp))
 simp only [List.getElem_cons_zero,List.getElem_cons_succ] at ha hb;subst ha;subst hb;refine (Tryz.strings_IndexByte s 10 w).mono ?_;rintro e w' ⟨rfl,rfl⟩;exact rE ⟨rfl,Below.refl _ _⟩
theorem zAy (s:ByteArray):HFun Tryz.prog 108 [.v (.string s),.v (.string ⟨#[10]⟩)] (fun h st=>h=.v (.int .i64 (s.data.toList.count 10:Nat))):=by
 refine (qAl fun w vs R=>?_).mono fun h st q=>q.1
 obtain ⟨r1,r2⟩:=R
 match vs,r1 with
|[a,b],_ =>
 have ha:=bK (r2 0 (by simp) (by simp))
 have hb:=bK (r2 1 (by simp) (by simp))
 simp only [List.getElem_cons_zero,List.getElem_cons_succ] at ha hb;subst ha;subst hb;refine (Tryz.strings_Count_one s 10 w).mono ?_;rintro e w' ⟨rfl,rfl⟩;exact rE ⟨rfl,Below.refl _ _⟩
def lK (l:List UInt8):Bool:=l.getLast? == some 10
theorem qWt (l:List UInt8):Lib.hasSuffix l [10]=lK l:=by
 unfold Lib.hasSuffix lK
 rcases List.eq_nil_or_concat l with rfl|⟨p,b,rfl⟩
 ·rfl
 ·rw [Bool.eq_iff_iff,List.isSuffixOf_iff_suffix];simp only [List.concat_eq_append,List.getLast?_concat,List.getLast?_append,List.getLast?_singleton,Option.some_or,beq_iff_eq,Option.some.injEq];constructor
  ·rintro ⟨t,h⟩
   have:=congrArg List.getLast? h
   simpa using this.symm
  ·rintro rfl;exact ⟨p,rfl⟩
theorem qSx (s:ByteArray) (hs:s.size≤9223372036854775807):HFun Tryz.prog 69 [.v (.string s),.v (.string ⟨#[10]⟩)] (fun h st=>h=.v (.bool (lK s.data.toList))):=by
 refine (qAl fun w vs R=>?_).mono fun h st q=>q.1
 obtain ⟨r1,r2⟩:=R
 match vs,r1 with
|[a,b],_ =>
 have ha:=bK (r2 0 (by simp) (by simp))
 have hb:=bK (r2 1 (by simp) (by simp))
 simp only [List.getElem_cons_zero,List.getElem_cons_succ] at ha hb;subst ha;subst hb;refine (Tryz.strings_HasSuffix s ⟨#[10]⟩ w hs).mono ?_;rintro e w' ⟨rfl,rfl⟩;refine rE ⟨?_,Below.refl _ _⟩;show Value.bool (Lib.hasSuffix s.data.toList [10])=_
 rw [qWt]
theorem qKe (s:ByteArray) (i:Nat) (h:i < s.size):∃ b:UInt8,s.data.toList[i]?=some b∧dX s i=(b.toNat:Int):=by
 have h':i < s.data.size:=h
 refine ⟨s.data[i],by rw [Array.getElem?_toList,Array.getElem?_eq_getElem h'],?_⟩
 unfold dX;rw [Array.getD_eq_getD_getElem?,Array.getElem?_eq_getElem h'];rfl
theorem qQs (b:UInt8):(b.toNat:Int)=10↔b=10:=by
 constructor
 ·intro h;apply UInt8.toNat_inj.1;have e:(10:UInt8).toNat=10:=rfl;omega
 ·rintro rfl;rfl
theorem zBk (s:ByteArray) (a i:Nat) (ha:a≤i) (hi:i < s.size) (hno:∀ j,a≤j→j < i→dX s j≠10) (hb:dX s i=10∨i + 1=s.size) :
  bW (s.extract a s.size)=s.extract a (i + 1) :: bW (s.extract (i + 1) s.size):=by
 have hs:=lE s
 obtain ⟨b,b1,b2⟩:=qKe s i hi
 have hl:s.data.toList.drop a=(s.data.toList.drop a).take (i - a) ++ b :: s.data.toList.drop (i + 1):=by
  conv=>lhs;rw [← List.take_append_drop (i - a) (s.data.toList.drop a)]
  congr 1
  rw [List.drop_drop,show a + (i - a)=i by omega]
  obtain ⟨h1,h2⟩:=List.getElem?_eq_some_iff.1 b1;rw [List.drop_eq_getElem_cons h1,h2]
 have hp:∀ x ∈ (s.data.toList.drop a).take (i - a),x≠10:=fun x hx e=>by
  obtain ⟨j,hj,rfl⟩:=List.getElem_of_mem hx;simp only [List.length_take,List.length_drop] at hj;simp only [List.getElem_take,List.getElem_drop] at e;obtain ⟨c,c1,c2⟩:=qKe s (a + j) (by omega)
  refine hno (a + j) (by omega) (by omega) ?_
  rw [c2,qQs,← e];rw [List.getElem?_eq_getElem (by omega)] at c1
  exact (Option.some.inj c1).symm
 have hx:((s.data.toList.drop a).take (i - a) ++ [b])=(s.data.toList.take (i + 1)).drop a:=by
  have:(s.data.toList.drop a).take (i + 1 - a)=(s.data.toList.take (i + 1)).drop a:=by rw [List.drop_take]
  rw [← this,show i + 1 - a=(i - a) + 1 by omega]
  obtain ⟨h1,h2⟩:=List.getElem?_eq_some_iff.1 b1;rw [List.take_succ_eq_append_getElem (by simp;omega)]
  congr 2
  rw [List.getElem_drop,← h2]
  congr 1
  omega
 unfold bW;rw [mN,mN,List.take_of_length_le (by omega),hl]
 rw [b2,qQs] at hb
 by_cases hten:b=10
 ·subst hten;rw [zBj _ _ hp,List.map_cons]
  congr 1
  rw [hx,← mN,mY]
 ·have he:i + 1=s.size:=hb.resolve_left hten
  have hd:s.data.toList.drop (i + 1)=[]:=List.drop_eq_nil_of_le (by omega)
  rw [hd,zBi _ (fun x hx=>by rcases List.mem_append.1 hx with h|h;exact hp x h;simp at h;rw [h];exact hten) (by simp),List.map_cons,hx,← mN,mY]
  simp [spl]
theorem zDa (l:List UInt8):(spl l).length=l.count 10 + (if l≠[]∧lK l=false then 1 else 0):=by
 induction l with
|nil=>rfl
|cons b l ih =>
  have hend:∀ c r,lK (b :: c :: r)=lK (c :: r):=fun c r=>by simp [lK]
  rw [spl]
  by_cases e:b=10
  ·subst e;rw [if_pos rfl,List.length_cons,ih]
   cases l with
  |nil=>rfl
  |cons c r=>rw [hend,List.count_cons_self];simp;omega
  ·rw [if_neg e,List.count_cons_of_ne (Ne.symm (Ne.symm e))]
   cases l with
  |nil=>simp [spl,lK,e]
  |cons c r =>
    rw [hend]
    have:∃ x y,spl (c :: r)=x :: y:=by
     rw [spl];split
     ·exact ⟨_,_,rfl⟩
     ·split <;> exact ⟨_,_,rfl⟩
    obtain ⟨x,y,hxy⟩:=this;rw [hxy] at ih ⊢;simp only [List.length_cons] at ih ⊢;rw [ih];simp
theorem zCc (s:ByteArray) (h:0 < s.size):lK s.data.toList=decide (dX s (s.size - 1)=10):=by
 obtain ⟨b,b1,b2⟩:=qKe s (s.size - 1) (by omega)
 have hs:=lE s
 rw [b2,lK,List.getLast?_eq_getElem?,hs,b1,Bool.eq_iff_iff,decide_eq_true_iff,qQs];simp
theorem qWw (s:ByteArray):(bW s).length=s.data.toList.count 10 + (if s≠⟨#[]⟩∧dX s (s.size - 1)≠10 then 1 else 0):=by
 unfold bW;rw [List.length_map,zDa]
 congr 1
 by_cases h:s=⟨#[]⟩
 ·subst h;rfl
 ·have hne:s.data.toList≠[]:=fun e=>h (by rw [← mY s,e];rfl)
  have hp:0 < s.size:=by rw [← lE];exact List.length_pos_iff.2 hne
  rw [zCc s hp];simp [h,hne]
def nl:ByteArray:=⟨#[10]⟩
def qE9 (x:ByteArray):ByteArray:=if lK x.data.toList then x else x ++ nl
def dU (l:List ByteArray):List ByteArray:=match l.getLast? with
|none=>[]
|some x=>l.set (l.length - 1) (qE9 x)
theorem nT (l:List ByteArray):(dU l).length=l.length:=by
 unfold dU;split
 ·rename_i h;rw [List.getLast?_eq_none_iff.1 h]
 ·simp
theorem qVw (l:List ByteArray) (i:Nat) (h:i < l.length):(dU l)[i]'(by rw [nT];exact h)=if i=l.length - 1 then qE9 l[i] else l[i]:=by
 have hl:l.getLast?=some l[l.length - 1]:=by rw [List.getLast?_eq_getElem?,List.getElem?_eq_getElem (by omega)]
 unfold dU;simp only [hl,List.getElem_set]
 by_cases e:i=l.length - 1
 ·subst e;simp
 ·rw [if_neg (by omega),if_neg e]
def eG (s:ByteArray):Int:=if (∃ i,i < s.size∧dX s i=0) then 21 else if 400 < (bW s).length then 4 else 0
theorem qQe (s:ByteArray):(iS s).length=s.size:=by simp [iS]
theorem zGp (s:ByteArray):Wid 1 (iS s)=True:=eq_true fun x hx=>by
 simp only [iS,List.mem_map] at hx;obtain ⟨b,-,rfl⟩:=hx;rfl
theorem zGq {s:ByteArray} {i:Nat} {d:List FV} (h:i < s.size):(iS s).getD i d=[.v (.int .u8 (dX s i))]:=by
 obtain ⟨b,b1,b2⟩:=qKe s i h;rw [b2,List.getD_eq_getElem?_getD,iS,List.getElem?_map,b1];rfl

structure LI where
 u:ByteArray
 l:List ByteArray
def lsE (k:LI):HS:=⟨[(0,.v (.string k.u)),(3,.own 40)],[(40,.sl true 9 1 (aK k.l))]⟩
def lsI (s:ByteArray) (k:LI):Prop:=k.l.length + k.u.size≤s.size∧bW s=k.l ++ bW k.u
abbrev lsQ (s:ByteArray) (h:HV) (st:aD):Prop:=h=.own 0∧st=[(0,.sl true 9 1 (aK (bW s)))]
set_option maxHeartbeats 4000000 in
theorem qQy (s:ByteArray) (hs:s.size≤4294967296):HFun Tryz.prog 64 [.v (.string s)] (lsQ s):=by
 refine eF (N:=25) Tryz.func64 rfl Tryz.ntmps64 Tryz.results64 (by simp) ?_
 refine zE ?_;refine zJ (fun K hK=>?_);simp (disch:=omega) only [push_cast,↓Int.cast_ofNat_Int,simprocAttr];refine hK _ ?_
 refine zE ?_;refine zJ (fun K hK=>?_);simp (disch:=omega) only [push_cast,↓Int.cast_ofNat_Int,simprocAttr];refine hK _ ?_
 refine zE ?_;refine zD ?_;refine bR lsE (lsI s) (fun k=>k.u.size) [0,3] [40] ⟨s,[]⟩ (by simp only [zZ,zR,zP,zQ,zN,zS,zM,zX,zU,Nat.reduceEqDiff,reduceIte,lsE];rfl) ⟨by simp,by simp⟩ ?_
 rintro ⟨u,l⟩ ⟨hl,hsp⟩;dsimp only at hl hsp;simp only [lsE]
 by_cases hu:u=⟨#[]⟩
 ·have hd:decide (u=⟨#[]⟩)=true:=decide_eq_true hu
  refine zE ?_;refine zE ?_;refine zJ (fun K hK=>?_);simp (disch:=omega) only [push_cast,↓Int.cast_ofNat_Int,simprocAttr,hd];refine hK _ ?_
  refine yC rfl ?_;refine zT ?_;refine zG ?_;refine zG ?_;refine zH ?_;refine zE ?_;refine zJ (fun K hK=>?_);simp (disch:=omega) only [push_cast,↓Int.cast_ofNat_Int,simprocAttr];refine hK _ ?_
  refine zA ?_;refine zW ?_;simp only [yA,yM,yH,yE,aA,aC,yK,yJ,zS,zM,Nat.reduceEqDiff,reduceIte,reduceCtorEq]
  have e:bW s=l:=by rw [hsp,hu];simp [bW,spl]
  exact lW rfl (iU _) ⟨rfl,by rw [e]⟩
 ·have hd:decide (u=⟨#[]⟩)=false:=decide_eq_false hu
  obtain ⟨n,n1,n2,n3,n4⟩:=zDb u hu
  have hi:=qYo u
  obtain ⟨k,hk⟩:∃ k,k=Lib.indexByte u.data.toList 10:=⟨_,rfl⟩;rw [← hk] at hi n3;refine zE ?_;refine zE ?_;refine zJ (fun K hK=>?_);simp (disch:=omega) only [push_cast,↓Int.cast_ofNat_Int,simprocAttr,hd];refine hK _ ?_
  refine yD rfl ?_;refine zC ?_;refine zA ?_;refine zD ?_;refine zE ?_;refine zJ (fun K hK=>?_);simp (disch:=omega) only [push_cast,↓Int.cast_ofNat_Int,simprocAttr]
  refine aW zXy hi (.cons (.v _) (.cons (.v _) .nil)) ?_;with_reducible refine aB ?_;simp (disch:=omega) only [push_cast,↓Int.cast_ofNat_Int,simprocAttr]
  refine hK _ ?_;refine yB [0,3,4] [40] (by simp only [zZ,zR,zP,zQ,zN,zS,zM,zX,zU,Nat.reduceEqDiff,reduceIte];exact rfl) ?_
  have hz:(u.extract n u.size).size=u.size - n:=by rw [ByteArray.size_extract];omega
  have fin:(l ++ [u.extract 0 n]).length + (u.extract n u.size).size≤s.size∧bW s=(l ++ [u.extract 0 n]) ++ bW (u.extract n u.size):=⟨by rw [List.length_append,hz];simp;omega,by rw [hsp,n4];simp⟩
  rcases n3 with ⟨e1,e2⟩|e1
  ·refine zE ?_;refine zE ?_;refine zJ (fun K hK=>?_);simp (disch:=omega) only [push_cast,↓Int.cast_ofNat_Int,simprocAttr,e1];refine hK _ ?_
   refine yD rfl ?_;refine zJ (fun K hK=>?_);simp (disch:=omega) only [push_cast,↓Int.cast_ofNat_Int,simprocAttr];refine hK _ ?_
   rw [← e2];refine zE ?_;refine zJ (fun K hK=>?_);simp (disch:=omega) only [push_cast,↓Int.cast_ofNat_Int,simprocAttr,aF];(repeat refine ⟨by first|omega|decide|((repeat' apply And.intro) <;> first|omega|decide),?_⟩);refine hK _ ?_
   refine zA ?_;refine zJ (fun K hK=>?_);simp (disch:=omega) only [push_cast,↓Int.cast_ofNat_Int,simprocAttr];(repeat refine ⟨by first|omega|decide|((repeat' apply And.intro) <;> first|omega|decide),?_⟩);refine hK _ ?_
   refine zB ?_;refine zA ?_;exact ⟨⟨u.extract n u.size,l ++ [u.extract 0 n]⟩,by simp only [zZ,zR,zP,zQ,zN,zS,zM,zX,zU,Nat.reduceEqDiff,reduceIte,lsE,iH];try rfl,fin,by dsimp only;omega⟩
  ·rw [e1];refine zE ?_;refine zE ?_;refine zJ (fun K hK=>?_);simp (disch:=omega) only [push_cast,↓Int.cast_ofNat_Int,simprocAttr];refine hK _ ?_
   refine yC rfl ?_;refine zC ?_;refine zE ?_;refine zJ (fun K hK=>?_);simp (disch:=omega) only [push_cast,↓Int.cast_ofNat_Int,simprocAttr,aF];(repeat refine ⟨by first|omega|decide|((repeat' apply And.intro) <;> first|omega|decide),?_⟩);refine hK _ ?_
   refine zA ?_;refine zJ (fun K hK=>?_);simp (disch:=omega) only [push_cast,↓Int.cast_ofNat_Int,simprocAttr];(repeat refine ⟨by first|omega|decide|((repeat' apply And.intro) <;> first|omega|decide),?_⟩);refine hK _ ?_
   refine zB ?_;refine zA ?_;exact ⟨⟨u.extract n u.size,l ++ [u.extract 0 n]⟩,by simp only [zZ,zR,zP,zQ,zN,zS,zM,zX,zU,Nat.reduceEqDiff,reduceIte,lsE,iH];try rfl,fin,by dsimp only;omega⟩
set_option maxHeartbeats 4000000 in
theorem zJ0 (s:ByteArray) (hs:s.size≤4294967296):HFun Tryz.prog 80 [.v (.string s)] (fun h st=>h=.v (.int .i64 ((bW s).length:Nat))):=by
 have hc:=qWw s
 have hct:=zAy s
 have hle:s.data.toList.count 10≤s.size:=by rw [← lE];exact List.count_le_length
 obtain ⟨c,hcc⟩:∃ c,c=s.data.toList.count 10:=⟨_,rfl⟩;rw [← hcc] at hc hct hle;obtain ⟨n,hn⟩:∃ n,n=(bW s).length:=⟨_,rfl⟩;rw [← hn] at hc ⊢;refine eF (N:=19) Tryz.func80 rfl Tryz.ntmps80 Tryz.results80 (by simp) ?_
 refine zE ?_;refine zJ (fun K hK=>?_);simp (disch:=omega) only [push_cast,↓Int.cast_ofNat_Int,simprocAttr];refine hK _ ?_
 refine zE ?_;refine zJ (fun K hK=>?_);simp (disch:=omega) only [push_cast,↓Int.cast_ofNat_Int,simprocAttr]
 refine aW zWb hct (.cons (.v _) (.cons (.v _) .nil)) ?_;with_reducible refine aB ?_;simp (disch:=omega) only [push_cast,↓Int.cast_ofNat_Int,simprocAttr]
 refine hK _ ?_
 by_cases h:s=⟨#[]⟩
 ·have hd:decide (s=⟨#[]⟩)=true:=decide_eq_true h
  rw [if_neg (by simp [h])] at hc
  refine zE ?_;refine zE ?_;refine zJ (fun K hK=>?_);simp (disch:=omega) only [push_cast,↓Int.cast_ofNat_Int,simprocAttr,hd];refine hK _ ?_
  refine yC rfl ?_;refine zC ?_;refine zE ?_;refine zJ (fun K hK=>?_);simp (disch:=omega) only [push_cast,↓Int.cast_ofNat_Int,simprocAttr];refine hK _ ?_
  refine zA ?_;refine zW ?_;simp only [yA,yM,yH,yE,aA,aC,yK,yJ,zS,zM,Nat.reduceEqDiff,reduceIte,reduceCtorEq];subst hc;exact aL rfl
 ·have hd:decide (s=⟨#[]⟩)=false:=decide_eq_false h
  have hp:0 < s.size:=by
   rcases Nat.eq_zero_or_pos s.size with e|e
   ·exact absurd (by rw [← mY s,List.eq_nil_of_length_eq_zero ((lE s).trans e)];rfl) h
   ·exact e
  have e1:((s.size:Int) - 1).toNat=s.size - 1:=by omega
  by_cases hb:dX s (s.size - 1)=10
  ·rw [if_neg (by simp [hb])] at hc
   refine zE ?_;refine zE ?_;refine zJ (fun K hK=>?_);simp (disch:=omega) only [push_cast,↓Int.cast_ofNat_Int,simprocAttr,hd,e1,hb];(repeat refine ⟨by first|omega|decide|((repeat' apply And.intro) <;> first|omega|decide),?_⟩);refine hK _ ?_
   refine yC rfl ?_;refine zC ?_;refine zE ?_;refine zJ (fun K hK=>?_);simp (disch:=omega) only [push_cast,↓Int.cast_ofNat_Int,simprocAttr];refine hK _ ?_
   refine zA ?_;refine zW ?_;simp only [yA,yM,yH,yE,aA,aC,yK,yJ,zS,zM,Nat.reduceEqDiff,reduceIte,reduceCtorEq];subst hc;exact aL rfl
  ·rw [if_pos ⟨h,hb⟩] at hc
   have e2:decide (dX s (s.size - 1)=10)=false:=decide_eq_false hb
   refine zE ?_;refine zE ?_;refine zJ (fun K hK=>?_);simp (disch:=omega) only [push_cast,↓Int.cast_ofNat_Int,simprocAttr,hd,e1,e2];(repeat refine ⟨by first|omega|decide|((repeat' apply And.intro) <;> first|omega|decide),?_⟩);refine hK _ ?_
   refine yD rfl ?_;refine zJ (fun K hK=>?_);simp (disch:=omega) only [push_cast,↓Int.cast_ofNat_Int,simprocAttr];refine hK _ ?_
   refine zE ?_;refine zJ (fun K hK=>?_);simp (disch:=omega) only [push_cast,↓Int.cast_ofNat_Int,simprocAttr];refine hK _ ?_
   refine zA ?_;refine zW ?_;simp only [yA,yM,yH,yE,aA,aC,yK,yJ,zS,zM,Nat.reduceEqDiff,reduceIte,reduceCtorEq];subst hc;exact aL rfl
end Go.Proofs.YtdfjeokjmigkaaaGreat
