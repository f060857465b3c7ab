/-
  The document's paths (tetherref03), walked.
-/
import Derived.Test.YtlihpgmgiehjkaaGreatDoorDkB
import Derived.Test.YtlihpgmgiehjkaaGreatDoorDkA
set_option linter.unusedSimpArgs false
set_option linter.unusedVariables false
section
namespace Go.Dk
open Go Go.Tr Go.Eng
def zP6 (e:ByteArray × Itm):List FV:=[.v (.string e.1),.v (.bool e.2.dir),.v (.string e.2.data),.v (.string e.2.kept),.v (.bool e.2.loose),.v (.bool e.2.anew),.v (.int .i64 e.2.stamp)]
def zR2 (e:ByteArray × Int):List FV:=[.v (.string e.1),.v (.int .i64 e.2)]
abbrev LI:=List (ByteArray × Itm)
abbrev LN:=List (ByteArray × Int)
def fT (L:LI):List (List FV):=L.map zP6
def rms (R:LN):List (List FV):=R.map zR2
theorem bG (L:LI):(fT L).length=L.length:=List.length_map _
theorem qQ (R:LN):(rms R).length=R.length:=List.length_map _
theorem bU (L:LI):Wid 7 (fT L)=True:=eq_true (xL L fun _=>rfl)
theorem xS (R:LN):Wid 2 (rms R)=True:=eq_true (xL R fun _=>rfl)
theorem bY {L:LI} {i:Nat} {d:List FV} (h:i < L.length):(fT L).getD i d=[.v (.string L[i].1),.v (.bool L[i].2.dir),.v (.string L[i].2.data),.v (.string L[i].2.kept),.v (.bool L[i].2.loose),.v (.bool L[i].2.anew),.v (.int .i64 L[i].2.stamp)]:=by unfold fT;rw [nW h];rfl
theorem xT {R:LN} {i:Nat} {d:List FV} (h:i < R.length):(rms R).getD i d=[.v (.string R[i].1),.v (.int .i64 R[i].2)]:=by unfold rms;rw [nW h];rfl
theorem qWm (L:LI):mN (fT L)=fT L:=by
 unfold mN fT;rw [List.map_map];apply List.map_congr_left;intro s _;simp [zP6,FV.old]
theorem zA6 (R:LN):mN (rms R)=rms R:=by
 unfold mN rms;rw [List.map_map];apply List.map_congr_left;intro s _;simp [zR2,FV.old]
theorem uL (L:LI) (e:ByteArray × Itm):fT L ++ [[.v (.string e.1),.v (.bool e.2.dir),.v (.string e.2.data),.v (.string e.2.kept),.v (.bool e.2.loose),.v (.bool e.2.anew),.v (.int .i64 e.2.stamp)]]=fT (L ++ [e]):=by simp [fT,zP6]
section
variable {α:Type}
def plc (p:ByteArray):List (ByteArray × α)→Option Nat
|[]=>none
|e :: r=>if e.1=p then some 0 else (plc p r).map (· + 1)
def zHy (p:ByteArray) (L:List (ByteArray × α)):Int:=match plc p L with
|some i=>i
|none=>-1
theorem qDg {p:ByteArray}:∀ {L:List (ByteArray × α)} {i:Nat},plc p L=some i→∃ h:i < L.length,L[i].1=p∧aS L p=some L[i].2
|[],i,h=>by cases h
|e :: r,i,h=>by
  rw [plc] at h;split at h
  ·rename_i he
   cases h
   exact ⟨by simp,he,by simp [aS,he]⟩
  ·rename_i he
   cases hr:plc p r with
  |none=>rw [hr] at h;cases h
  |some j =>
    rw [hr] at h
    cases h
    obtain ⟨a,b,c⟩:=qDg hr;exact ⟨by simp;omega,by simpa using b,by simp [aS,he,c]⟩
theorem wL {p:ByteArray}:∀ {L:List (ByteArray × α)},plc p L=none→aS L p=none∧∀ e ∈ L,e.1≠p
|[],h=>⟨rfl,fun e he=>by cases he⟩
|e :: r,h=>by
  rw [plc] at h;split at h
  ·cases h
  ·rename_i he
   cases hr:plc p r with
  |some j=>rw [hr] at h;cases h
  |none =>
    obtain ⟨a,b⟩:=wL hr;exact ⟨by simp [aS,he,a],fun x hx=>by rcases List.mem_cons.1 hx with rfl|hx;exact he;exact b x hx⟩
theorem qVu {p:ByteArray}:∀ {L:List (ByteArray × α)} {i:Nat} (hi:i < L.length),(∀ k (h:k < L.length),k < i→L[k].1≠p)→L[i].1=p→plc p L=some i
|[],i,hi,_,_=>by simp at hi
|e :: r,0,hi,_,h=>by rw [plc,if_pos (by simpa using h)]
|e :: r,i + 1,hi,hn,h=>by
  have h0:=hn 0 (by simp) (by omega)
  rw [plc,if_neg (by simpa using h0),qVu (L:=r) (i:=i) (by simpa using hi) (fun k hk hlt=>by have:=hn (k + 1) (by simpa using hk) (by omega);simpa using this) (by simpa using h)]
  rfl
theorem zBl {p:ByteArray}:∀ {L:List (ByteArray × α)},(∀ k (h:k < L.length),L[k].1≠p)→plc p L=none
|[],_=>rfl
|e :: r,h=>by
  have h0:=h 0 (by simp)
  rw [plc,if_neg (by simpa using h0),zBl (L:=r) (fun k hk=>by have:=h (k + 1) (by simpa using hk);simpa using this)]
  rfl
theorem zBk (p:ByteArray) (L:List (ByteArray × α)):(aS L p).isSome=(plc p L).isSome:=by
 cases h:plc p L with
|none=>rw [(wL h).1];rfl
|some i=>obtain ⟨_,_,e⟩:=qDg h;rw [e];rfl
def less (p:ByteArray):List (ByteArray × α)→Nat
|[]=>0
|e :: r=>if blt e.1 p=true then less p r + 1 else 0
theorem qT8 (p:ByteArray):∀ (L:List (ByteArray × α)),less p L≤L.length
|[]=>Nat.le_refl _
|e :: r=>by
  have:=qT8 p r
  rw [less];split <;> simp only [List.length_cons] <;> omega
theorem qWe (p:ByteArray):∀ (L:List (ByteArray × α)) (k:Nat) (h:k < L.length),k < less p L→blt L[k].1 p=true
|[],k,h,_=>by simp at h
|e :: r,0,h,hl=>by
  rw [less] at hl;split at hl
  ·rename_i he;exact he
  ·omega
|e :: r,k + 1,h,hl=>by
  rw [less] at hl;split at hl
  ·exact qWe p r k (by simpa using h) (by omega)
  ·omega
theorem qQ0 (p:ByteArray):∀ (L:List (ByteArray × α)) (h:less p L < L.length),blt (L[less p L]'h).1 p=false
|[],h=>by simp at h
|e :: r,h=>by
  by_cases he:blt e.1 p=true
  ·have e1:less p (e :: r)=less p r + 1:=by rw [less,if_pos he]
   have h':less p r < r.length:=by rw [e1] at h;simpa using h
   have:=qQ0 p r h'
   simp only [e1,List.getElem_cons_succ];exact this
  ·have e1:less p (e :: r)=0:=by rw [less,if_neg he]
   simp only [e1,List.getElem_cons_zero]
   simpa using he
def iP (p:ByteArray) (L:List (ByteArray × α)):Nat:=match L[less p L]? with
|some e=>if e.1=p then 1 else 0
|none=>0
theorem qQd (p:ByteArray) (x:α):∀ {L:List (ByteArray × α)},eU L→put p x L=L.take (less p L) ++ (p,x) :: L.drop (less p L + iP p L)
|[],_=>rfl
|(t,y) :: r,h=>by
  obtain ⟨h1,h2⟩:=List.pairwise_cons.1 h
  by_cases e:t=p
  ·subst e
   have el:less t ((t,y) :: r)=0:=by rw [less,if_neg (by simp [jT])]
   have es:iP t ((t,y) :: r)=1:=by rw [iP,el];simp
   rw [el,es];simp [put]
  ·rw [put,if_neg e,rX]
   by_cases hb:blt p t=true
   ·have hn:¬ blt t p=true:=fun h=>by have:=mW h;rw [hb] at this;cases this
    have el:less p ((t,y) :: r)=0:=by rw [less,if_neg hn]
    have es:iP p ((t,y) :: r)=0:=by rw [iP,el];simp [e]
    rw [if_pos hb,el,es];simp
   ·have hl:blt t p=true:=by
     rcases qH7 t p with h|h|h
     ·exact h
     ·exact absurd h e
     ·exact absurd h hb
    have el:less p ((t,y) :: r)=less p r + 1:=by rw [less,if_pos hl]
    have es:iP p ((t,y) :: r)=iP p r:=by rw [iP,iP,el];simp
    rw [if_neg hb,el,es,qQd p x h2,show less p r + 1 + iP p r=(less p r + iP p r) + 1 by omega]
    simp
theorem qB3 (p:ByteArray):∀ (L:List (ByteArray × α)),del p L=L.filter fun e=>decide (e.1≠p)
|[]=>rfl
|(t,y) :: r=>by
  rw [del,qB3 p r]
  by_cases e:t=p
  ·rw [if_pos e];simp [e]
  ·rw [if_neg e];simp [e]
theorem zLt (p:ByteArray) {L:List (ByteArray × α)} {i:Nat} (h:i < L.length):del p (L.take (i + 1))=if L[i].1=p then del p (L.take i) else del p (L.take i) ++ [L[i]]:=by
 rw [qB3,qB3,List.take_succ_eq_append_getElem h,List.filter_append]
 by_cases e:L[i].1=p
 ·rw [if_pos e];simp [e]
 ·rw [if_neg e];simp [e]
theorem qH5 (p:ByteArray):∀ (L:List (ByteArray × α)),(del p L).length≤L.length
|[]=>Nat.le_refl _
|(t,y) :: r=>by
  have:=qH5 p r
  rw [del];split <;> simp only [List.length_cons] <;> omega
end
theorem qSt:∀ (l:List UInt8),∃ r,kW l=l.take (qB9 l) :: r
|[]=>⟨[],rfl⟩
|c :: l=>by
  obtain ⟨r,h⟩:=qSt l
  by_cases e:c=47
  ·subst e;exact ⟨kW l,by rw [jF,qB9,if_pos rfl];rfl⟩
  ·exact ⟨r,by rw [kV e h,qB9,if_neg e];rfl⟩
theorem qZv (p:ByteArray):∃ r,parts p=vol p :: r:=by
 obtain ⟨r,h⟩:=qSt p.data.toList;refine ⟨r.map mkB,?_⟩;rw [parts,h,List.map_cons]
 congr 1
 rw [vol]
 conv=>rhs;rw [← iZ (p.extract 0 _)]
 rw [Lib.extract_from_zero]
theorem qYm:∀ (l:List UInt8),(kW l).length=l.count 47 + 1
|[]=>rfl
|c :: l=>by
  have ih:=qYm l
  by_cases e:c=47
  ·subst e;rw [jF,List.count_cons_self,List.length_cons,ih]
  ·obtain ⟨a,t,h⟩:∃ a t,kW l=a :: t:=by
    cases h:kW l with
   |nil=>exact absurd h (qAz l)
   |cons a t=>exact ⟨a,t,rfl⟩
   rw [kV e h,List.count_cons_of_ne e,← ih,h];rfl
theorem qE8 (p:ByteArray):(parts p).length=p.data.toList.count 47 + 1:=by rw [parts,List.length_map,qYm]
theorem qNy {p:ByteArray} {k:Int} (h:pOk p k=true):qFo p=(parts p).length:=by
 rw [qFo,if_neg (show ¬ p={ data:=#[] } from nZ h),qE8];rfl
theorem zSb (d:Dk) (p:ByteArray) (k:Int):may d p k=if d.down=true then 14 else if pOk p 6=false then 10 else if ((parts p).length:Int)≤k then 10 else 0:=by
 unfold may
 cases d.down with
|true=>rfl
|false =>
  simp only [Bool.false_eq_true,if_false]
  cases h:pOk p 6 with
 |false=>simp
 |true=>rw [qNy h];simp
end Go.Dk
end
section
set_option maxRecDepth 20000
namespace Go.Tr
open Go Go.Eng
def gB (out:List ByteArray) (one:ByteArray) (l:List UInt8):List ByteArray:=(qBl (out.map (·.data.toList)) one.data.toList l).map mkB
theorem zQo (s:ByteArray):gB [] { data:=#[] } s.data.toList=parts s:=by rw [gB,parts];exact congrArg _ (zFn _)
theorem zNe (out:List ByteArray):(out.map (·.data.toList)).map mkB=out:=by
 rw [List.map_map]
 conv=>rhs;rw [← List.map_id out]
 exact List.map_congr_left fun s _=>iZ s
theorem zQn (out:List ByteArray) (one:ByteArray):gB out one []=out ++ [one]:=by
 rw [gB,qBl,List.map_append,zNe,List.map_singleton,iZ]
theorem zFk (out:List ByteArray) (one:ByteArray) (r:List UInt8):gB out one (47 :: r)=gB (out ++ [one]) { data:=#[] } r:=by
 rw [gB,qBl,if_pos rfl,gB,List.map_append];rfl
theorem zJ6 (out:List ByteArray) (one x:ByteArray) (c:UInt8) (r:List UInt8) (hc:c≠47) (hx:x.data.toList=[c]):gB out one (c :: r)=gB out (one ++ x) r:=by
 rw [gB,qBl,if_neg hc,gB]
 congr 2
 rw [ByteArray.data_append,Array.toList_append,hx]
theorem zNs (s:ByteArray) (i:Nat) (h:i < s.size):∃ c,s.data.toList[i]?=some c∧(s.extract i (i + 1)).data.toList=[c]∧s.data.toList.drop i=c :: s.data.toList.drop (i + 1):=by
 have hl:i < s.data.toList.length:=by rw [← Lib.size_eq];exact h
 refine ⟨s.data.toList[i],List.getElem?_eq_getElem hl,?_,List.drop_eq_getElem_cons hl⟩;rw [ByteArray.data_extract,Array.toList_extract,List.extract_eq_take_drop,List.drop_eq_getElem_cons hl,show i + 1 - i=1 by omega];rfl
end Go.Tr
namespace Go.Proofs.YtlihpgmgiehjkaaGreatDoor
open Go Go.Eng Go.RowKit Go.Tr
set_option maxHeartbeats 4000000 in
theorem qKb (s:ByteArray) (hs:s.size≤1048576):HFun Tryz.prog 80 [.v (.string s)] (fun h st=>h=.own 0∧st=[(0,.sl true 9 1 (dP (parts s)))]):=by
 refine iD (N:=31) Tryz.func80 rfl Tryz.ntmps80 Tryz.results80 (by simp) ?_
 refine zE ?_;refine zJ (fun K hK=>?_);simp (disch:=omega) only [push_cast,↓iC9,simprocAttr];refine hK _ ?_;clear hK K
 refine zE ?_;refine zJ (fun K hK=>?_);simp (disch:=omega) only [push_cast,↓iC9,simprocAttr];refine hK _ ?_;clear hK K
 refine zE ?_;refine zJ (fun K hK=>?_);simp (disch:=omega) only [push_cast,↓iC9,simprocAttr];refine hK _ ?_;clear hK K
 refine zE ?_;refine zE ?_;refine zJ (fun K hK=>?_);simp (disch:=omega) only [push_cast,↓iC9,simprocAttr];refine hK _ ?_;clear hK K
 refine zA ?_;refine zD ?_;refine qA3 3 9000 9 1 rfl (by simp only [lK,pH,pK,fC,dV,eV,dS,iS,eZ,fA,eY,eX,gC,fB,eW,dU,fW,fY,fX,iR,jB,gU,Nat.reduceBEq,Nat.reduceEqDiff,reduceIte,cond_true,cond_false,List.map_cons,List.map_nil];exact rfl) ?_
 refine dW (fun x:Nat × List ByteArray × ByteArray=>⟨[(0,.v (.string s)),(3,.own 9000),(4,.v (.string x.2.2)),(5,.v (.int .i64 x.1))],[(9000,.sl true 9 1 (dP x.2.1))]⟩)
  (fun x=>x.1≤s.size∧x.2.2.size≤x.1∧x.2.1.length≤x.1∧gB x.2.1 x.2.2 (s.data.toList.drop x.1)=parts s) (fun x=>s.size - x.1) [0,3,4,5] [9000] (0,[],{ data:=#[] }) (by simp only [zZ,zR,zP,zQ,zN,zS,zM,zX,zU,Nat.reduceEqDiff,reduceIte];rfl) ⟨Nat.zero_le _,Nat.le_refl _,Nat.le_refl _,zQo s⟩ ?_
 rintro ⟨i,out,one⟩ ⟨hi,h1,hl,hg⟩;simp only at hi h1 hl hg
 by_cases hlt:i < s.size
 ·obtain ⟨c,c1,c2,c3⟩:=zNs s i hlt
  have h47:=zN2 s i hlt
  rw [c3] at hg;rw [c1] at h47;refine zE ?_;refine zE ?_;refine zJ (fun K hK=>?_);simp (disch:=omega) only [push_cast,↓iC9,simprocAttr];refine hK _ ?_;clear hK K
  refine zA ?_;refine yD rfl ?_;refine zC ?_;refine zE ?_
  by_cases hc:c=47
  ·subst hc;rw [zFk] at hg;rw [decide_eq_true rfl] at h47;refine zD ?_;refine zE ?_;refine zE ?_;refine zJ (fun K hK=>?_);simp (disch:=omega) only [push_cast,↓iC9,simprocAttr,h47];(repeat refine ⟨by first|omega|decide|((repeat' apply And.intro) <;> first|omega|decide),?_⟩);refine hK _ ?_;clear hK K
   refine zA ?_;refine yD rfl ?_;refine zE ?_;refine zJ (fun K hK=>?_);simp (disch:=omega) only [push_cast,↓iC9,simprocAttr,qEz,cT];(repeat refine ⟨by first|omega|decide|((repeat' apply And.intro) <;> first|omega|decide),?_⟩);refine hK _ ?_;clear hK K
   refine zE ?_;refine zJ (fun K hK=>?_);simp (disch:=omega) only [push_cast,↓iC9,simprocAttr];refine hK _ ?_;clear hK K
   refine zA ?_;refine zT ?_;refine zG ?_;refine zH ?_;refine zA ?_;refine zJ (fun K hK=>?_);simp (disch:=omega) only [push_cast,↓iC9,simprocAttr];refine hK _ ?_;clear hK K
   refine zA ?_;exact ⟨(i + 1,out ++ [one],{ data:=#[] }),by simp only [zZ,zR,zP,zQ,zN,zS,zM,zX,zU,Nat.reduceEqDiff,reduceIte];rfl,⟨hlt,by dsimp only;exact Nat.zero_le _,by dsimp only;simp;omega,hg⟩,by dsimp only;omega⟩
  ·have hne:¬ some c=some 47:=fun e=>hc (Option.some.inj e)
   rw [decide_eq_false hne] at h47;rw [zJ6 out one _ c _ hc c2] at hg
   have hz:(s.extract i (i + 1)).size=1:=by rw [ByteArray.size_extract];omega
   have e1:((i:Int) + 1).toNat=i + 1:=by omega
   refine zD ?_;refine zE ?_;refine zE ?_;refine zJ (fun K hK=>?_);simp (disch:=omega) only [push_cast,↓iC9,simprocAttr,h47];(repeat refine ⟨by first|omega|decide|((repeat' apply And.intro) <;> first|omega|decide),?_⟩);refine hK _ ?_;clear hK K
   refine zA ?_;refine yC rfl ?_;refine zC ?_;refine zA ?_;refine zJ (fun K hK=>?_);simp (disch:=omega) only [push_cast,↓iC9,simprocAttr,e1,hz]
   refine ⟨by omega,by omega,?_⟩
   refine hK _ ?_;clear hK K;refine zB ?_;refine zA ?_;refine zJ (fun K hK=>?_);simp (disch:=omega) only [push_cast,↓iC9,simprocAttr];refine hK _ ?_;clear hK K
   refine zA ?_;refine ⟨(i + 1,out,one ++ s.extract i (i + 1)),by simp only [zZ,zR,zP,zQ,zN,zS,zM,zX,zU,Nat.reduceEqDiff,reduceIte];rfl,⟨hlt,?_,by dsimp only;omega,hg⟩,by dsimp only;omega⟩
   dsimp only;rw [ByteArray.size_append,hz];omega
 ·have hne:i=s.size:=by omega
  subst hne;rw [List.drop_of_length_le (by rw [← Lib.size_eq];omega),zQn] at hg
  rw [← hg];refine zE ?_;refine zE ?_;refine zJ (fun K hK=>?_);simp (disch:=omega) only [push_cast,↓iC9,simprocAttr];refine hK _ ?_;clear hK K
  refine zA ?_;refine yC rfl ?_;refine zT ?_;refine zG ?_;refine zG ?_;refine zH ?_;refine zE ?_;refine zJ (fun K hK=>?_);simp (disch:=omega) only [push_cast,↓iC9,simprocAttr,qEz,cT];(repeat refine ⟨by first|omega|decide|((repeat' apply And.intro) <;> first|omega|decide),?_⟩);refine hK _ ?_;clear hK K
  refine zA ?_;refine zW ?_;simp only [yA,yM,yH,yE,aL,aU,yK,yJ,zS,zM,Nat.reduceEqDiff,reduceIte,reduceCtorEq];exact qZ8 rfl (tE _) ⟨rfl,rfl⟩
theorem zE2 (s:ByteArray) (h1:1≤s.size) (h2:s.size≤12):fJ s=s.data.toList.all okC:=by
 rw [fJ,decide_eq_true h1,decide_eq_true h2];rfl
set_option maxHeartbeats 8000000 in
theorem zM1 (s:ByteArray) (hs:s.size≤1048576):HFun Tryz.prog 81 [.v (.string s)] (fun h st=>h=.v (.bool (fJ s))):=by
 refine iD (N:=41) Tryz.func81 rfl Tryz.ntmps81 Tryz.results81 (by simp) ?_
 refine zE ?_;refine zJ (fun K hK=>?_);simp (disch:=omega) only [push_cast,↓iC9,simprocAttr];refine hK _ ?_;clear hK K
 by_cases h1:s.size < 1
 ·have e:fJ s=false:=by rw [fJ,decide_eq_false (by omega)];rfl
  rw [e];refine zE ?_;refine zE ?_;refine zJ (fun K hK=>?_);simp (disch:=omega) only [push_cast,↓iC9,simprocAttr];refine hK _ ?_;clear hK K
  refine yD rfl ?_;refine zE ?_;refine zJ (fun K hK=>?_);simp (disch:=omega) only [push_cast,↓iC9,simprocAttr];refine hK _ ?_;clear hK K
  refine zA ?_;refine zW ?_;refine zK ?_;simp only [yA,yM,yH,yE,aL,aU,yK,yJ,zS,zM,Nat.reduceEqDiff,reduceIte,reduceCtorEq];exact bK rfl
 by_cases h2:12 < s.size
 ·have e:fJ s=false:=by rw [fJ,decide_eq_true (by omega),decide_eq_false (by omega)];rfl
  rw [e];refine zE ?_;refine zE ?_;refine zJ (fun K hK=>?_);simp (disch:=omega) only [push_cast,↓iC9,simprocAttr];refine hK _ ?_;clear hK K
  refine yD rfl ?_;refine zE ?_;refine zJ (fun K hK=>?_);simp (disch:=omega) only [push_cast,↓iC9,simprocAttr];refine hK _ ?_;clear hK K
  refine zA ?_;refine zW ?_;refine zK ?_;simp only [yA,yM,yH,yE,aL,aU,yK,yJ,zS,zM,Nat.reduceEqDiff,reduceIte,reduceCtorEq];exact bK rfl
 rw [zE2 s (by omega) (by omega)]
 refine zE ?_;refine zE ?_;refine zJ (fun K hK=>?_);simp (disch:=omega) only [push_cast,↓iC9,simprocAttr];refine hK _ ?_;clear hK K
 refine yC rfl ?_;refine zC ?_;refine zE ?_;refine zE ?_;refine zJ (fun K hK=>?_);simp (disch:=omega) only [push_cast,↓iC9,simprocAttr];refine hK _ ?_;clear hK K
 refine zA ?_;refine zD ?_;refine dW (fun i:Nat=>⟨[(0,.v (.string s)),(3,.v (.int .i64 i))],[]⟩) (fun i=>i≤s.size∧(s.data.toList.take i).all okC=true) (fun i=>s.size - i) [0,3] [] 0 rfl ⟨Nat.zero_le _,rfl⟩ ?_
 rintro i ⟨hi,ha⟩
 by_cases hlt:i < s.size
 ·have hll:i < s.data.toList.length:=by rw [← Lib.size_eq];exact hlt
  obtain ⟨r,hr,hrr⟩:∃ r:Nat,qB s i=(r:Int)∧s.data.toList[i].toNat=r:=by
   refine ⟨_,?_,rfl⟩
   have h':i < s.data.size:=hlt
   unfold qB;rw [Array.getD_eq_getD_getElem?,Array.getElem?_eq_getElem h'];rfl
  have hb:=zDn s.data.toList[i]
  rw [hrr] at hb;refine zE ?_;refine zE ?_;refine zJ (fun K hK=>?_);simp (disch:=omega) only [push_cast,↓iC9,simprocAttr];refine hK _ ?_;clear hK K
  refine zA ?_;refine yD rfl ?_;refine zC ?_;refine zE ?_;refine zD ?_;refine zE ?_;refine zJ (fun K hK=>?_);simp (disch:=omega) only [push_cast,↓iC9,simprocAttr,hr];(repeat refine ⟨by first|omega|decide|((repeat' apply And.intro) <;> first|omega|decide),?_⟩);refine hK _ ?_;clear hK K
  have good:okC s.data.toList[i]=true→(s.data.toList.take (i + 1)).all okC=true:=fun h=>by
   rw [List.take_succ_eq_append_getElem hll,List.all_append,ha,List.all_cons,h];rfl
  have bad:okC s.data.toList[i]=false→s.data.toList.all okC=false:=fun h=>by
   rw [Bool.eq_false_iff];intro hall;rw [List.all_eq_true.1 hall _ (List.getElem_mem hll)] at h;cases h
  have cases7:(r < 48∧oU r=true)∨(48≤r∧r≤57∧oU r=false)∨(57 < r∧r < 95∧oU r=true)∨(r=95∧oU r=false)∨(r=96∧oU r=true)∨(97≤r∧r≤122∧oU r=false)∨(122 < r∧oU r=true):=by
   unfold oU;simp;omega
  rcases cases7 with ⟨c1,hc⟩|⟨c1,c2,hc⟩|⟨c1,c2,hc⟩|⟨c1,hc⟩|⟨c1,hc⟩|⟨c1,c2,hc⟩|⟨c1,hc⟩
  ·rw [hc] at hb;rw [bad (by simpa using hb.symm)]
   refine zE ?_;refine zJ (fun K hK=>?_);simp (disch:=omega) only [push_cast,↓iC9,simprocAttr];refine hK _ ?_;clear hK K
   refine yD rfl ?_;refine zE ?_;refine zJ (fun K hK=>?_);simp (disch:=omega) only [push_cast,↓iC9,simprocAttr];refine hK _ ?_;clear hK K
   refine zA ?_;refine zW ?_;refine zL ?_;refine zK ?_;refine zK ?_;refine zL ?_;refine zK ?_;simp only [yA,yM,yH,yE,aL,aU,yK,yJ,zS,zM,Nat.reduceEqDiff,reduceIte,reduceCtorEq];exact bK rfl
  ·rw [hc] at hb
   have ha2:=good (by simpa using hb.symm)
   refine zE ?_;refine zJ (fun K hK=>?_);simp (disch:=omega) only [push_cast,↓iC9,simprocAttr];refine hK _ ?_;clear hK K
   refine yC rfl ?_;refine zC ?_;refine zB ?_;refine zA ?_;refine zJ (fun K hK=>?_);simp (disch:=omega) only [push_cast,↓iC9,simprocAttr];refine hK _ ?_;clear hK K
   refine zA ?_;exact ⟨i + 1,rfl,⟨hlt,ha2⟩,by omega⟩
  ·rw [hc] at hb;rw [bad (by simpa using hb.symm)]
   refine zE ?_;refine zJ (fun K hK=>?_);simp (disch:=omega) only [push_cast,↓iC9,simprocAttr];refine hK _ ?_;clear hK K
   refine yD rfl ?_;refine zE ?_;refine zJ (fun K hK=>?_);simp (disch:=omega) only [push_cast,↓iC9,simprocAttr];refine hK _ ?_;clear hK K
   refine zA ?_;refine zW ?_;refine zL ?_;refine zK ?_;refine zK ?_;refine zL ?_;refine zK ?_;simp only [yA,yM,yH,yE,aL,aU,yK,yJ,zS,zM,Nat.reduceEqDiff,reduceIte,reduceCtorEq];exact bK rfl
  ·rw [hc] at hb
   have ha2:=good (by simpa using hb.symm)
   refine zE ?_;refine zJ (fun K hK=>?_);simp (disch:=omega) only [push_cast,↓iC9,simprocAttr];refine hK _ ?_;clear hK K
   refine yC rfl ?_;refine zC ?_;refine zB ?_;refine zA ?_;refine zJ (fun K hK=>?_);simp (disch:=omega) only [push_cast,↓iC9,simprocAttr];refine hK _ ?_;clear hK K
   refine zA ?_;exact ⟨i + 1,rfl,⟨hlt,ha2⟩,by omega⟩
  ·rw [hc] at hb;rw [bad (by simpa using hb.symm)]
   refine zE ?_;refine zJ (fun K hK=>?_);simp (disch:=omega) only [push_cast,↓iC9,simprocAttr];refine hK _ ?_;clear hK K
   refine yD rfl ?_;refine zE ?_;refine zJ (fun K hK=>?_);simp (disch:=omega) only [push_cast,↓iC9,simprocAttr];refine hK _ ?_;clear hK K
   refine zA ?_;refine zW ?_;refine zL ?_;refine zK ?_;refine zK ?_;refine zL ?_;refine zK ?_;simp only [yA,yM,yH,yE,aL,aU,yK,yJ,zS,zM,Nat.reduceEqDiff,reduceIte,reduceCtorEq];exact bK rfl
  ·rw [hc] at hb
   have ha2:=good (by simpa using hb.symm)
   refine zE ?_;refine zJ (fun K hK=>?_);simp (disch:=omega) only [push_cast,↓iC9,simprocAttr];refine hK _ ?_;clear hK K
   refine yC rfl ?_;refine zC ?_;refine zB ?_;refine zA ?_;refine zJ (fun K hK=>?_);simp (disch:=omega) only [push_cast,↓iC9,simprocAttr];refine hK _ ?_;clear hK K
   refine zA ?_;exact ⟨i + 1,rfl,⟨hlt,ha2⟩,by omega⟩
  ·rw [hc] at hb;rw [bad (by simpa using hb.symm)]
   refine zE ?_;refine zJ (fun K hK=>?_);simp (disch:=omega) only [push_cast,↓iC9,simprocAttr];refine hK _ ?_;clear hK K
   refine yD rfl ?_;refine zE ?_;refine zJ (fun K hK=>?_);simp (disch:=omega) only [push_cast,↓iC9,simprocAttr];refine hK _ ?_;clear hK K
   refine zA ?_;refine zW ?_;refine zL ?_;refine zK ?_;refine zK ?_;refine zL ?_;refine zK ?_;simp only [yA,yM,yH,yE,aL,aU,yK,yJ,zS,zM,Nat.reduceEqDiff,reduceIte,reduceCtorEq];exact bK rfl
 ·have hne:i=s.size:=by omega
  subst hne;rw [Lib.size_eq,List.take_length] at ha;rw [ha];refine zE ?_;refine zE ?_;refine zJ (fun K hK=>?_);simp (disch:=omega) only [push_cast,↓iC9,simprocAttr];refine hK _ ?_;clear hK K
  refine zA ?_;refine yC rfl ?_;refine zT ?_;refine zG ?_;refine zG ?_;refine zH ?_;refine zE ?_;refine zJ (fun K hK=>?_);simp (disch:=omega) only [push_cast,↓iC9,simprocAttr];refine hK _ ?_;clear hK K
  refine zA ?_;refine zW ?_;simp only [yA,yM,yH,yE,aL,aU,yK,yJ,zS,zM,Nat.reduceEqDiff,reduceIte,reduceCtorEq];exact bK rfl
end Go.Proofs.YtlihpgmgiehjkaaGreatDoor
end
