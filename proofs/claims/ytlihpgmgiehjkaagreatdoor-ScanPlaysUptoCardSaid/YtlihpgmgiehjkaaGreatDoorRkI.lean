/-
  The reference's disk: Limit, Mix, Restart, walked.
-/
import Derived.Test.YtlihpgmgiehjkaaGreatDoorRkH
import Derived.Test.YtlihpgmgiehjkaaGreatDoorDlC
set_option linter.unusedSimpArgs false
set_option linter.unusedVariables false
set_option maxRecDepth 20000
namespace Go.Dk
open Go Go.Eng Go.Tr
theorem qZp {α:Type} {p:ByteArray} {x:α}:∀ {L:List (ByteArray × α)} {i:Nat} (hr:eU L) (hi:i < L.length),L[i].1=p→put p x L=L.set i (p,x)
|[],i,_,hi,_=>by simp at hi
|(t,y) :: r,0,hr,hi,h=>by
  simp only [List.getElem_cons_zero] at h;rw [put,if_pos h];rfl
|(t,y) :: r,i + 1,hr,hi,h=>by
  obtain ⟨h1,h2⟩:=List.pairwise_cons.1 hr;simp only [List.getElem_cons_succ] at h
  have hi':i < r.length:=by simpa using hi
  have hlt:=h1 _ (List.getElem_mem hi')
  rw [h] at hlt;rw [put,if_neg (fun e=>by subst e;rw [jT] at hlt;cases hlt),rX,if_neg (fun e=>by have:=mW e;rw [hlt] at this;cases this),qZp h2 hi' h]
  rfl
theorem zJi {α:Type} {p:ByteArray} {x:α} {L:List (ByteArray × α)} {i:Nat} (hr:eU L) (hi:i < L.length) (h:L[i].1=p):dG (put p x L)=dG L:=by
 rw [qZp hr hi h,dG,dG,List.map_set]
 apply List.ext_getElem (by simp)
 intro j h1 h2;rw [List.getElem_set];split
 ·rename_i e;subst e;simp [h]
 ·rfl
theorem zNi {α:Type} {p:ByteArray} {x:α} {L:List (ByteArray × α)} {i:Nat} (hr:eU L) (hi:i < L.length) (h:L[i].1=p):(put p x L).length=L.length:=by
 rw [qZp hr hi h,List.length_set]
end Go.Dk
namespace Go.Proofs.YtlihpgmgiehjkaaGreatDoor
open Go Go.Eng Go.RowKit Go.Tr Go.Dk
theorem zEg (x:Int) (s:Nat) (h:0≤x):x.fdiv (2 ^ s)=x.tdiv (2 ^ s):=by
 have h2:(0:Int)≤2 ^ s:=Int.pow_nonneg (by decide)
 rw [Int.fdiv_eq_ediv_of_nonneg _ h2,Int.tdiv_eq_ediv_of_nonneg h]
theorem qBn (x:Int):0≤IntKind.u64.wrap x∧IntKind.u64.wrap x < 18446744073709551616:=by
 rw [IntKind.wrap_u64];omega
theorem zD2 {x:Int} (h:0≤x∧x < 18446744073709551616) (s:Nat):IntKind.u64.wrap (x.tdiv (2 ^ s))=x.tdiv (2 ^ s):=by
 have h2:(0:Int) < 2 ^ s:=Int.pow_pos (by decide)
 have:=Int.tdiv_eq_ediv_of_nonneg (b:=2 ^ s) h.1
 have h3:=Int.ediv_nonneg h.1 (Int.le_of_lt h2)
 have h4:=Int.ediv_le_self (2 ^ s) h.1
 rw [IntKind.wrap_u64,this];omega
theorem zQd {x:Int} (h:0≤x∧x < 18446744073709551616) (c:Int) (s:Nat) (hc:c=2 ^ s) (hs:min s IntKind.u64.bits=s):IntKind.u64.wrap (x.tdiv c)=x.fdiv (2 ^ min s IntKind.u64.bits):=by
 rw [hs,zEg _ _ h.1,hc,zD2 h]
theorem zP8 (a b:Int):HFun Tryz.prog 77 [.v (.int .u64 a),.v (.int .u64 b)] (fun h st=>h=.v (.int .u64 (qDl a b))):=by
 refine iD (N:=24) Tryz.func77 rfl Tryz.ntmps77 Tryz.results77 (by simp) ?_
 unfold qDl zH7;refine zE ?_;refine zJ (fun K hK=>?_);simp (disch:=omega) only [push_cast,↓iC9,simprocAttr];refine hK _ ?_;clear hK K
 refine zE ?_;refine zJ (fun K hK=>?_);simp (disch:=omega) only [push_cast,↓iC9,simprocAttr];refine hK _ ?_;clear hK K
 obtain ⟨x,hx,x0⟩:∃ x,IntKind.u64.wrap (a + IntKind.u64.wrap (b * 11400714819323198485))=x∧0≤x∧x < 18446744073709551616:=⟨_,rfl,qBn _⟩;rw [hx];refine zE ?_;refine zJ (fun K hK=>?_);simp (disch:=omega) only [push_cast,↓iC9,simprocAttr];(repeat refine ⟨by first|omega|decide|((repeat' apply And.intro) <;> first|omega|decide),?_⟩);refine hK _ ?_;clear hK K
 rw [zQd x0 1073741824 30 (by decide) rfl]
 refine yB [4,5] [] (by simp only [zZ,zR,zP,zQ,zN,zS,zM,zX,zU,Nat.reduceEqDiff,reduceIte];exact rfl) ?_
 obtain ⟨y,hy,y0⟩:∃ y,IntKind.u64.wrap (bits .xor .u64 x (x.fdiv (2 ^ min 30 IntKind.u64.bits)) * 13787848793156543929)=y∧0≤y∧y < 18446744073709551616:=⟨_,rfl,qBn _⟩;rw [hy];refine zE ?_;refine zJ (fun K hK=>?_);simp (disch:=omega) only [push_cast,↓iC9,simprocAttr];(repeat refine ⟨by first|omega|decide|((repeat' apply And.intro) <;> first|omega|decide),?_⟩);refine hK _ ?_;clear hK K
 rw [zQd y0 134217728 27 (by decide) rfl]
 refine yB [4,5] [] (by simp only [zZ,zR,zP,zQ,zN,zS,zM,zX,zU,Nat.reduceEqDiff,reduceIte];exact rfl) ?_
 obtain ⟨z,hz,z0⟩:∃ z,IntKind.u64.wrap (bits .xor .u64 y (y.fdiv (2 ^ min 27 IntKind.u64.bits)) * 10723151780598845931)=z∧0≤z∧z < 18446744073709551616:=⟨_,rfl,qBn _⟩;rw [hz];refine zE ?_;refine zJ (fun K hK=>?_);simp (disch:=omega) only [push_cast,↓iC9,simprocAttr];(repeat refine ⟨by first|omega|decide|((repeat' apply And.intro) <;> first|omega|decide),?_⟩);refine hK _ ?_;clear hK K
 rw [zQd z0 2147483648 31 (by decide) rfl]
 refine zA ?_;refine zW ?_;simp only [yA,yM,yH,yE,aL,aU,yK,yJ,zS,zM,Nat.reduceEqDiff,reduceIte,reduceCtorEq];exact bK rfl
set_option maxHeartbeats 8000000 in
theorem qZi (d:Dk) (R:LN) (fr nw:Bool) (hrise:eU d.L) (hlen:d.L.length≤1000) (hst:0≤d.stamps∧d.stamps≤1073741824) (hlo:Lo d) (loss:Int):HFunS Tryz.prog 37 [.ptr 0 6 0 0,.v (.int .i64 loss)] (rst d R fr nw) (fun h st=>h=.v (.int .i64 0)∧∃ fr',st=rst (restart d loss) R fr' nw):=by
 refine pS (N:=92) Tryz.func37 rfl Tryz.ntmps37 Tryz.results37 (by simp) ?_
 simp only [rst,iX];obtain ⟨ks,hks⟩:∃ ks,dG d.L=ks:=⟨_,rfl⟩
 have hkl:ks.length=d.L.length:=by rw [← hks];simp [dG]
 have hre:restart d loss={ gQ loss ks 0 d with down:=false,armed:=-1 }:=by rw [restart,hks]
 refine zE ?_;refine zJ (fun K hK=>?_);simp (disch:=omega) only [push_cast,↓iC9,simprocAttr];refine hK _ ?_;clear hK K
 refine zE ?_;refine zJ (fun K hK=>?_);simp (disch:=omega) only [push_cast,↓iC9,simprocAttr];refine hK _ ?_;clear hK K
 refine zE ?_;refine zE ?_;refine zJ (fun K hK=>?_);simp (disch:=omega) only [push_cast,↓iC9,simprocAttr];refine hK _ ?_;clear hK K
 refine zA ?_;refine zD ?_;refine dW (ι:=Nat × Int × Dk × Bool) (fun q=>⟨[(0,.ptr 0 6 0 0),(1,.v (.int .i64 loss)),(5,.v (.int .i64 q.2.1)),(6,.v (.int .i64 (q.1:Int)))],
   [(0,.bx false 68 [.lst q.2.2.2 (fT q.2.2.1.L),.own 1,.v (.int .i64 q.2.2.1.steps),.v (.int .i64 q.2.2.1.stamps),.v (.int .i64 q.2.2.1.armed),.v (.bool q.2.2.1.down)]),(1,.sl nw 126 2 (rms R))]⟩)
  (fun q=>q.1≤ks.length∧gQ loss (ks.drop q.1) q.2.1 q.2.2.1=gQ loss ks 0 d∧eU q.2.2.1.L∧dG q.2.2.1.L=ks∧Lo q.2.2.1∧0≤q.2.1∧q.2.1≤q.1∧0≤q.2.2.1.stamps∧q.2.2.1.stamps≤d.stamps + q.1) (fun q=>ks.length - q.1) [0,1,5,6] [0,1] (0,0,d,fr) rfl
  ⟨Nat.zero_le _,rfl,hrise,hks,hlo,Int.le_refl _,Int.le_refl _,hst.1,by simp⟩ ?_
 rintro ⟨j,m,e,fr2⟩ ⟨hj,hgo,hR,hK1,hL,hm0,hm1,hs0,hs1⟩;dsimp only at hj hgo hR hK1 hL hm0 hm1 hs0 hs1 ⊢
 have hel:e.L.length=ks.length:=by rw [← hK1];simp [dG]
 rcases (Decidable.em (j < ks.length)).symm with h1|h1
 ·have hjl:j=ks.length:=by omega
  rw [hjl,List.drop_length] at hgo
  have hgo:e=gQ loss ks 0 d:=hgo
  refine zE ?_;refine zE ?_;refine zJ (fun K hK=>?_);simp (disch:=omega) only [push_cast,↓iC9,simprocAttr,bG];refine hK _ ?_;clear hK K
  refine zA ?_;refine yC rfl ?_;refine zT ?_;refine zG ?_;refine zG ?_;refine zH ?_;refine zE ?_;refine zJ (fun K hK=>?_);simp (disch:=omega) only [push_cast,↓iC9,simprocAttr];refine hK _ ?_;clear hK K
  refine zE ?_;refine zJ (fun K hK=>?_);simp (disch:=omega) only [push_cast,↓iC9,simprocAttr];refine hK _ ?_;clear hK K
  refine zE ?_;refine zJ (fun K hK=>?_);simp (disch:=omega) only [push_cast,↓iC9,simprocAttr];refine hK _ ?_;clear hK K
  refine zA ?_;refine zW ?_;simp only [aR,aZ,yH,yE,yK,yJ,aH,zS,zM,Nat.reduceEqDiff,reduceIte,reduceCtorEq];refine cZ [0,1] (by decide) (by decide) (by simp only [push_cast,simprocAttr]) (by simp only [push_cast,simprocAttr]) (by simp only [push_cast,simprocAttr];rfl) (by simp only [push_cast,simprocAttr];rfl) ?_
  refine ⟨rfl,fr2,?_⟩;rw [hre,← hgo]
 have hje:j < e.L.length:=by omega
 obtain ⟨p,hp⟩:∃ p,p=e.L[j].1:=⟨_,rfl⟩
 have hkj:ks[j]=p:=by subst hK1;rw [hp];simp [dG]
 have hdr:ks.drop j=p :: ks.drop (j + 1):=by rw [← hkj];exact List.drop_eq_getElem_cons h1
 rw [hdr,gQ] at hgo
 have hlk:aS e.L p=some e.L[j].2:=dX hR (by rw [hp];exact List.getElem_mem hje)
 have hit:aP e p=e.L[j].2:=by rw [aP,hlk];rfl
 have hLp:=hL p
 obtain ⟨l1,l2,l3⟩:=hLp;obtain ⟨x,hx⟩:∃ x,aP e p=x:=⟨_,rfl⟩;rw [hx] at hgo l1 l2 l3
 have hxg:(fT e.L).getD j []=[.v (.string p),.v (.bool x.dir),.v (.string x.data),.v (.string x.kept),.v (.bool x.loose),.v (.bool x.anew),.v (.int .i64 x.stamp)]:=by
  rw [bY hje,← hp,← hit,hx]
 refine zE ?_;refine zE ?_;refine zJ (fun K hK=>?_);simp (disch:=omega) only [push_cast,↓iC9,simprocAttr,bG];refine hK _ ?_;clear hK K
 refine zA ?_;refine yD rfl ?_;refine zC ?_;refine zE ?_;refine zD ?_;refine zE ?_;refine zJ (fun K hK=>?_);simp (disch:=omega) only [push_cast,↓iC9,simprocAttr,bG,bU,hxg];refine hK _ ?_;clear hK K
 refine yB [0,1,5,6,7] [0,1,56] (by simp only [zZ,zR,zP,zQ,zN,zS,zM,zX,zU,Nat.reduceEqDiff,reduceIte];exact rfl) ?_
 refine zE ?_;refine zE ?_;refine zJ (fun K hK=>?_);simp (disch:=omega) only [push_cast,↓iC9,simprocAttr];refine hK _ ?_;clear hK K
 refine zA ?_
 cases hlo1:x.loose with
|false =>
  rw [hlo1,if_neg (by decide)] at hgo
  refine yD rfl ?_;refine zT ?_;refine zG ?_;refine zH ?_;refine zA ?_;refine zJ (fun K hK=>?_);simp (disch:=omega) only [push_cast,↓iC9,simprocAttr];refine hK _ ?_;clear hK K
  refine zA ?_;refine ⟨(j + 1,m,e,fr2),?_,⟨by show j + 1≤_;omega,hgo,hR,hK1,hL,hm0,by show m≤((j + 1:Nat):Int);push_cast;omega,hs0,by show e.stamps≤d.stamps + ((j + 1:Nat):Int);push_cast;omega⟩,by show ks.length - (j + 1) < ks.length - j;omega⟩
  dsimp only;rw [show (((j + 1:Nat):Int))=(j:Int) + 1 from Int.natCast_succ j]
  rfl
|true =>
  rw [hlo1,if_pos rfl] at hgo;refine yC rfl ?_;refine zC ?_;refine zE ?_;refine zJ (fun K hK=>?_);simp (disch:=omega) only [push_cast,↓iC9,simprocAttr];refine hK _ ?_;clear hK K
  have hmx:=zP8 (IntKind.u64.wrap loss) (IntKind.u64.wrap (m + 1))
  have hrg:=qQy (IntKind.u64.wrap loss) (IntKind.u64.wrap (m + 1))
  obtain ⟨pk,hpk⟩:∃ pk,qDl (IntKind.u64.wrap loss) (IntKind.u64.wrap (m + 1))=pk:=⟨_,rfl⟩;rw [hpk] at hgo hmx hrg;refine zE ?_;refine zJ (fun K hK=>?_);simp (disch:=omega) only [push_cast,↓iC9,simprocAttr]
  refine cK zUd hmx (.cons (.v _) (.cons (.v _) .nil)) ?_;with_reducible refine aM ?_;simp (disch:=omega) only [push_cast,↓iC9,simprocAttr]
  refine hK _ ?_;clear hK K;refine yB [0,1,5,6,7,8] [0,1,56] (by simp only [zZ,zR,zP,zQ,zN,zS,zM,zX,zU,Nat.reduceEqDiff,reduceIte];exact rfl) ?_
  refine zE ?_;refine zE ?_;refine zJ (fun K hK=>?_);simp (disch:=omega) only [push_cast,↓iC9,simprocAttr];refine hK _ ?_;clear hK K
  refine zA ?_;refine kK (fun _:Unit=>⟨[(0,.ptr 0 6 0 0),(1,.v (.int .i64 loss)),(5,.v (.int .i64 (m + 1))),(6,.v (.int .i64 (j:Int))),(7,.ptr 56 7 0 0)],
   [(0,.bx false 68 [.lst fr2 (fT e.L),.own 1,.v (.int .i64 e.steps),.v (.int .i64 e.stamps),.v (.int .i64 e.armed),.v (.bool e.down)]),(1,.sl nw 126 2 (rms R)),(56,.bx true 76 [.v (.string p),.v (.bool x.dir),.v (.string x.data),.v (.string (xF pk x)),.v (.bool true),.v (.bool x.anew),.v (.int .i64 x.stamp)])]⟩) (fun _=>True) [0,1,5,6,7] [0,1,56] ?_ ?_
  ·cases han:x.anew with
  |true =>
    refine yD rfl ?_
    have hw1:IntKind.u64.wrap ((x.data.size:Int) + 2)=(x.data.size:Int) + 2:=by rw [IntKind.wrap_u64];omega
    obtain ⟨k,hk⟩:∃ k,pk.tmod ((x.data.size:Int) + 2)=k:=⟨_,rfl⟩
    have hk2:0≤k∧k < (x.data.size:Int) + 2:=by
     rw [← hk,Int.tmod_eq_emod_of_nonneg hrg.1];exact ⟨Int.emod_nonneg _ (by omega),Int.emod_lt_of_pos _ (by omega)⟩
    have hcut:xF pk x=if 0 < k then x.data.extract 0 (k - 1).toNat else x.kept:=by
     unfold xF;rw [if_pos han,hk]
    rw [hcut];refine zE ?_;refine zJ (fun K hK=>?_);simp (disch:=omega) only [push_cast,↓iC9,simprocAttr,hw1,hk]
    refine ⟨by omega,hK _ ?_⟩
    clear hK K;refine zE ?_;refine zJ (fun K hK=>?_);simp (disch:=omega) only [push_cast,↓iC9,simprocAttr];refine hK _ ?_;clear hK K
    refine zA ?_
    by_cases hk0:0 < k
    ·rw [if_pos hk0];refine bE rfl (fun _=>?_) (fun h=>by simp [hk0] at h)
     refine zJ (fun K hK=>?_);simp (disch:=omega) only [push_cast,↓iC9,simprocAttr]
     (repeat refine ⟨by first|omega|decide|((repeat' apply And.intro) <;> first|omega|decide),?_⟩)
     refine hK _ ?_;clear hK K;refine kB ?_;exact ⟨(),by simp only [zZ,zR,zP,zQ,zN,zS,zM,zX,zU,Nat.reduceEqDiff,reduceIte];try rfl,trivial⟩
    ·rw [if_neg hk0];refine bE rfl (fun h=>by simp [hk0] at h) (fun _=>?_)
     refine zC ?_;refine kB ?_;exact ⟨(),by simp only [zZ,zR,zP,zQ,zN,zS,zM,zX,zU,Nat.reduceEqDiff,reduceIte];try rfl,trivial⟩
  |false =>
    have l4:=l3 han
    obtain ⟨k,hk⟩:∃ k,pk.tmod ((x.data.size:Int) - x.kept.size + 1)=k:=⟨_,rfl⟩
    have hk2:0≤k∧k < (x.data.size:Int) - x.kept.size + 1:=by
     rw [← hk,Int.tmod_eq_emod_of_nonneg hrg.1];exact ⟨Int.emod_nonneg _ (by omega),Int.emod_lt_of_pos _ (by omega)⟩
    have hw1:IntKind.u64.wrap ((x.data.size:Int) - x.kept.size + 1)=(x.data.size:Int) - x.kept.size + 1:=by rw [IntKind.wrap_u64];omega
    have hcut:xF pk x=x.data.extract 0 ((x.kept.size:Int) + k).toNat:=by
     unfold xF;rw [if_neg (by rw [han];decide),hk]
    rw [hcut];refine yC rfl ?_;refine zE ?_;refine zJ (fun K hK=>?_);simp (disch:=omega) only [push_cast,↓iC9,simprocAttr,hw1,hk]
    refine ⟨by omega,hK _ ?_⟩
    clear hK K;refine zA ?_;refine zJ (fun K hK=>?_);simp (disch:=omega) only [push_cast,↓iC9,simprocAttr]
    (repeat refine ⟨by first|omega|decide|((repeat' apply And.intro) <;> first|omega|decide),?_⟩)
    refine hK _ ?_;clear hK K;refine kB ?_;exact ⟨(),by simp only [zZ,zR,zP,zQ,zN,zS,zM,zX,zU,Nat.reduceEqDiff,reduceIte];try rfl,trivial⟩
  intro S' _ hE _;refine zE ?_;refine yB [0,1,5,6,7] [0,1,56] hE ?_;clear hE
  have c6:=pF e R fr2 nw p (qBi pk x) ⟨hs0,by omega⟩
  have c5:=qE2 { e with stamps:=e.stamps + 1 } R fr2 nw p { qBi pk x with stamp:=e.stamps + 1 } hR (by show e.L.length≤_;omega)
  simp only [rst,iX] at c6 c5;refine zJ (fun K hK=>?_);simp (disch:=omega) only [push_cast,↓iC9,simprocAttr];refine hK _ ?_;clear hK K
  refine yB [0,1,5,6,7] [0,1,56] (by simp only [zZ,zR,zP,zQ,zN,zS,zM,zX,zU,Nat.reduceEqDiff,reduceIte];exact rfl) ?_
  refine zJ (fun K hK=>?_);simp (disch:=omega) only [push_cast,↓iC9,simprocAttr]
  refine gW 672 [0,1] zLy (c6) rfl (by decide) (by decide) (by simp only [push_cast,simprocAttr];try rfl) (by simp only [push_cast,simprocAttr];try rfl) ?_
  rintro _ _ ⟨rfl,rfl⟩;refine aM ?_;simp (disch:=omega) only [push_cast,↓iC9,simprocAttr];refine gW 680 [0,1] zFr (c5) rfl (by decide) (by decide) (by simp only [push_cast,simprocAttr];try rfl) (by simp only [push_cast,simprocAttr];try rfl) ?_
  rintro _ _ ⟨rfl,rfl⟩;refine aM ?_;simp (disch:=omega) only [push_cast,↓iC9,simprocAttr];refine hK _ ?_;clear hK K;refine zB ?_;refine zA ?_;refine zJ (fun K hK=>?_);simp (disch:=omega) only [push_cast,↓iC9,simprocAttr];refine hK _ ?_;clear hK K
  refine zA ?_;refine ⟨(j + 1,m + 1,jJ e p (qBi pk x),true),?_,⟨by show j + 1≤_;omega,hgo,nF _ _ hR,?_,zH9 hL (zB0 (by rw [← hx];exact hL p)),by show 0≤m + 1;omega,by show m + 1≤((j + 1:Nat):Int);push_cast;omega,by show 0≤e.stamps + 1;omega,by show e.stamps + 1≤d.stamps + ((j + 1:Nat):Int);push_cast;omega⟩,by show ks.length - (j + 1) < ks.length - j;omega⟩
  ·dsimp only;rw [show (((j + 1:Nat):Int))=(j:Int) + 1 from Int.natCast_succ j]
   rfl
  ·show dG (put p _ e.L)=ks
   rw [zJi hR hje hp.symm,hK1]
end Go.Proofs.YtlihpgmgiehjkaaGreatDoor
