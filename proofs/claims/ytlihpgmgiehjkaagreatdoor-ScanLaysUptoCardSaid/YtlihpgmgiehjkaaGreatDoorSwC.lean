/-
  Scan: what is known; what a scan answers: plain; maps that are forgotten; a nil slice ay a row.
-/
import Derived.Test.YtlihpgmgiehjkaaGreatDoorDkH
import Derived.Test.YtlihpgmgiehjkaaGreatDoorPln
import Derived.Test.YtlihpgmgiehjkaaGreatDoorSwB
set_option linter.unusedSimpArgs false
set_option linter.unusedVariables false
section
set_option maxRecDepth 20000
namespace Go.Proofs.YtlihpgmgiehjkaaGreatDoor
open Go Go.Eng Go.RowKit Go.Tr Go.Dk
theorem zSk (a b:Int):HFun Tryz.prog 56 [.v (.int .u64 a),.v (.int .u64 b)] (fun h st=>h=.v (.int .u64 (qAk a b))):=by
 refine jP (N:=24) Tryz.func56 rfl Tryz.ntmps56 Tryz.results56 (by simp) ?_
 unfold qAk zMu;refine zE ?_;refine zJ (fun K hK=>?_);simp (disch:=omega) only [push_cast,↓iC9,simprocAttr];refine hK _ ?_;clear hK K
 refine zE ?_;refine zJ (fun K hK=>?_);simp (disch:=omega) only [push_cast,↓iC9,simprocAttr];refine hK _ ?_;clear hK K
 generalize IntKind.u64.wrap (a + IntKind.u64.wrap (b * 11400714819323198485))=x;refine zE ?_;refine zJ (fun K hK=>?_);simp (disch:=omega) only [push_cast,↓iC9,simprocAttr];(repeat refine ⟨by first|omega|decide|((repeat' apply And.intro) <;> first|omega|decide),?_⟩);refine hK _ ?_;clear hK K
 refine yB [4,5] [] (by simp only [zZ,zR,zP,zQ,zN,zS,zM,zX,zU,Nat.reduceEqDiff,reduceIte];exact rfl) ?_
 generalize IntKind.u64.wrap (bits .xor .u64 x (x.fdiv (2 ^ min 30 IntKind.u64.bits)) * 13787848793156543929)=y;refine zE ?_;refine zJ (fun K hK=>?_);simp (disch:=omega) only [push_cast,↓iC9,simprocAttr];(repeat refine ⟨by first|omega|decide|((repeat' apply And.intro) <;> first|omega|decide),?_⟩);refine hK _ ?_;clear hK K
 refine yB [4,5] [] (by simp only [zZ,zR,zP,zQ,zN,zS,zM,zX,zU,Nat.reduceEqDiff,reduceIte];exact rfl) ?_
 generalize IntKind.u64.wrap (bits .xor .u64 y (y.fdiv (2 ^ min 27 IntKind.u64.bits)) * 10723151780598845931)=z;refine zE ?_;refine zJ (fun K hK=>?_);simp (disch:=omega) only [push_cast,↓iC9,simprocAttr];(repeat refine ⟨by first|omega|decide|((repeat' apply And.intro) <;> first|omega|decide),?_⟩);refine hK _ ?_;clear hK K
 refine zA ?_;refine zW ?_;simp only [yA,yM,yH,yE,aL,aV,yK,yJ,zS,zM,Nat.reduceEqDiff,reduceIte,reduceCtorEq];exact bQ rfl
set_option maxHeartbeats 4000000 in
theorem zD1 (d:Dk) (B:Int) (hd:d.Ok B) (hB:B≤1073741824) (hlo:Lo d) (hlen:d.L.length≤1000) (loss:Int) (r1 r2:Nat) :
  HFunM Tryz.prog 23 [.ptr 0 6 0 0,.v (.int .i64 loss)] [(0,.bx false 64 (d.cells r1 r2))] (d.maps kS r1 r2) (fun h st g=>h=.v (.int .i64 0)∧st=[(0,.bx false 64 ((restart d loss).cells r1 r2))]∧g=(restart d loss).maps kS r1 r2):=by
 refine kC (N:=93) Tryz.func23 rfl Tryz.ntmps23 Tryz.results23 (by simp) ?_
 simp only [bM];refine aA ?_;refine aC (fun K hK=>?_);simp (disch:=omega) only [push_cast,↓iC9,simprocAttr];refine hK _ ?_;clear hK K
 refine aA ?_;refine aA ?_;refine aC (fun K hK=>?_);simp (disch:=omega) only [push_cast,↓iC9,simprocAttr];refine hK _ ?_;clear hK K
 refine aB ?_;refine aW rfl ?_;refine aN ?_;refine aA ?_;refine aC (fun K hK=>?_);simp (disch:=omega) only [push_cast,↓iC9,simprocAttr];refine hK _ ?_;clear hK K
 rw [cJ];refine aA ?_;refine aA ?_;refine aX ?_;refine aG 4 (fun K1 hK1=>?_);simp (disch:=omega) only [push_cast,↓iC9,simprocAttr];refine hK1 _ ?_;(try clear hK1 K1)
 refine qX9 (i:=0) (fI:=91) (tM:=61) 144 hd.rise (by have:=hd.n;omega) (by kernel_rfl) rfl rfl rfl rfl rfl rfl rfl rfl zUk zTd (fun b W=>(callsIn_wide.1 (Tryz.mapsKeys (some b) W))) (fun b nn D0 w hown hmax hbytes=>callsIn_wide.1 (Tryz.sortedKeys b nn D0 _ w hown hmax hbytes)) rfl rfl ?_
 refine aG 2 (fun K1 hK1=>?_);simp (disch:=omega) only [push_cast,↓iC9,simprocAttr,aE,aD,cX];refine hK1 _ ?_;(try clear hK1 K1)
 refine aR ?_;obtain ⟨ks,hks⟩:∃ ks,dE d.L=ks:=⟨_,rfl⟩
 have hkl:ks.length=d.L.length:=by rw [← hks];simp [dE]
 have hksz:∀ p ∈ ks,p.size≤1048576:=fun p hp=>by
  rw [← hks] at hp;obtain ⟨e,he,rfl⟩:=List.mem_map.1 hp;exact hd.keys e he
 have hre:restart d loss={ eQ loss ks 0 d with down:=false,armed:=-1 }:=by rw [restart,hks]
 rw [hks];refine aB ?_;refine bG ?_;refine mK (ι:=Nat × Int × Dk) (fun q=>⟨[(0,.ptr 0 6 0 0),(1,.v (.int .i64 loss)),(5,.v (.int .i64 q.2.1)),(18,.own 144),(19,.v (.int .i64 (ks.length:Int))),(20,.v (.int .i64 (q.1:Int)))],
   [(0,.bx false 64 [.v (.map (some r1)),.v (.map (some r2)),.v (.int .i64 q.2.2.steps),.v (.int .i64 q.2.2.stamps),.v (.int .i64 q.2.2.armed),.v (.bool q.2.2.down)]),(144,.sl true 9 1 (dG ks))]⟩)
  (fun q=>q.2.2.maps kS r1 r2) (fun q=>q.1≤ks.length∧eQ loss (ks.drop q.1) q.2.1 q.2.2=eQ loss ks 0 d∧q.2.2.Ok (B + q.1 * 2097153)∧Lo q.2.2∧0≤q.2.1∧q.2.1≤q.1) (fun q=>ks.length - q.1) [0,1,5,18,19,20] [0,144] (0,0,d) rfl rfl
  ⟨Nat.zero_le _,rfl,uK hd (by simp),hlo,Int.le_refl _,Int.le_refl _⟩ ?_
 rintro ⟨j,m,e⟩ ⟨hj,hgo,hO,hL,hm0,hm1⟩;dsimp only at hj hgo hO hL hm0 hm1 ⊢
 rcases (Decidable.em (j < ks.length)).symm with h1|h1
 ·have hjl:j=ks.length:=by omega
  rw [hjl,List.drop_length] at hgo
  have hgo:e=eQ loss ks 0 d:=hgo
  refine aA ?_;refine aC (fun K hK=>?_);simp (disch:=omega) only [push_cast,↓iC9,simprocAttr];refine hK _ ?_;clear hK K
  refine aA ?_;refine aW rfl ?_;refine gA ?_;refine cY ?_;refine cY ?_;refine fW ?_;refine aA ?_;refine aC (fun K hK=>?_);simp (disch:=omega) only [push_cast,↓iC9,simprocAttr];refine hK _ ?_;clear hK K
  refine aA ?_;refine aC (fun K hK=>?_);simp (disch:=omega) only [push_cast,↓iC9,simprocAttr];refine hK _ ?_;clear hK K
  refine aB ?_;refine bB ?_;simp only [aJ,aP,yH,yE,yK,yJ,aS,zS,zM,Nat.reduceEqDiff,reduceIte,reduceCtorEq];refine cE [0] [] (by first|rfl|simp [bsL,MO.bs]) (by decide) (by decide) (by simp only [push_cast,simprocAttr]) (by simp only [push_cast,simprocAttr]) (by simp only [push_cast,simprocAttr];rfl) (by simp only [push_cast,simprocAttr];rfl) ?_
  refine ⟨rfl,?_,?_⟩
  ·rw [hre,← hgo]
  ·rw [hre,← hgo];rfl
 have hlen2:(ks.length:Int)≤1000:=by omega
 obtain ⟨p,hp⟩:∃ p,p=ks[j]:=⟨_,rfl⟩
 have hgp:(dG ks).getD j []=[FV.v (.string p)]:=by
  rw [dG,List.getD_eq_getElem?_getD,List.getElem?_map,List.getElem?_eq_getElem h1,hp];rfl
 have hps:p.size≤1048576:=hksz p (by rw [hp];exact List.getElem_mem h1)
 have hdr:ks.drop j=p :: ks.drop (j + 1):=by rw [hp];exact List.drop_eq_getElem_cons h1
 rw [hdr,eQ] at hgo
 have hLp:=hL p
 obtain ⟨l1,l2,l3⟩:=hLp
 have hn2:=hO.n
 have hs2:=hO.stamps
 have hne:e.n < maxLen:=by simp only [maxLen];omega
 refine aA ?_;refine aC (fun K hK=>?_);simp (disch:=omega) only [push_cast,↓iC9,simprocAttr];refine hK _ ?_;clear hK K
 refine aA ?_;refine bX rfl ?_;refine aN ?_;refine aA ?_;refine bG ?_;refine aA ?_;refine aC (fun K hK=>?_);simp (disch:=omega) only [push_cast,↓iC9,simprocAttr,cX,vE,hgp];(repeat refine ⟨by first|omega|decide|((repeat' apply And.intro) <;> first|omega|decide),?_⟩);refine hK _ ?_;clear hK K
 rw [cJ];refine aA ?_;refine aX ?_;refine aG 5 (fun K1 hK1=>?_);simp (disch:=omega) only [push_cast,↓iC9,simprocAttr];refine hK1 _ ?_;(try clear hK1 K1)
 refine fA (i:=0) mtI rfl rfl rfl rfl rfl rfl (mx hps) ?_;refine aG 2 (fun K1 hK1=>?_);simp (disch:=omega) only [push_cast,↓iC9,simprocAttr,aE,aD,iG,iV];refine hK1 _ ?_;(try clear hK1 K1)
 refine aR ?_
 have hxd:(aH e.L p).getD itm0=aT e p:=rfl
 rw [hxd];obtain ⟨x,hx⟩:∃ x,aT e p=x:=⟨_,rfl⟩;rw [hx] at hgo l1 l2 l3 ⊢;refine bC [0,1,5,7,8,18,19,20] [0,64,144] (by simp only [zZ,zR,zP,zQ,zN,zS,zM,zX,zU,Nat.reduceEqDiff,reduceIte];exact rfl) ?_
 refine aA ?_;refine aA ?_;refine aC (fun K hK=>?_);simp (disch:=omega) only [push_cast,↓iC9,simprocAttr];refine hK _ ?_;clear hK K
 refine aB ?_
 cases hlo1:x.loose with
|false =>
  rw [hlo1,if_neg (by decide)] at hgo
  refine bX rfl ?_;refine gA ?_;refine cY ?_;refine fW ?_;refine aB ?_;refine aC (fun K hK=>?_);simp (disch:=omega) only [push_cast,↓iC9,simprocAttr];refine hK _ ?_;clear hK K
  refine aB ?_;refine ⟨(j + 1,m,e),?_,rfl,⟨by show j + 1≤_;omega,hgo,uK hO (by push_cast;omega),hL,hm0,by show m≤((j + 1:Nat):Int);push_cast;omega⟩,by show ks.length - (j + 1) < ks.length - j;omega⟩
  dsimp only;rw [show (((j + 1:Nat):Int))=(j:Int) + 1 from Int.natCast_succ j]
  rfl
|true =>
  rw [hlo1,if_pos rfl] at hgo;refine aW rfl ?_;refine aN ?_;refine aA ?_;refine aC (fun K hK=>?_);simp (disch:=omega) only [push_cast,↓iC9,simprocAttr];refine hK _ ?_;clear hK K
  have hmx:=zSk (IntKind.u64.wrap loss) (IntKind.u64.wrap (m + 1))
  have hrg:=zEc (IntKind.u64.wrap loss) (IntKind.u64.wrap (m + 1))
  obtain ⟨pk,hpk⟩:∃ pk,qAk (IntKind.u64.wrap loss) (IntKind.u64.wrap (m + 1))=pk:=⟨_,rfl⟩;rw [hpk] at hgo hmx hrg;refine aA ?_;refine aC (fun K hK=>?_);simp (disch:=omega) only [push_cast,↓iC9,simprocAttr]
  refine dJ zUj hmx (.cons (.v _) (.cons (.v _) .nil)) ?_;with_reducible refine aU ?_;simp (disch:=omega) only [push_cast,↓iC9,simprocAttr]
  refine hK _ ?_;clear hK K;refine bC [0,1,5,7,8,9,18,19,20] [0,64,144] (by simp only [zZ,zR,zP,zQ,zN,zS,zM,zX,zU,Nat.reduceEqDiff,reduceIte];exact rfl) ?_
  refine aA ?_;refine aA ?_;refine aC (fun K hK=>?_);simp (disch:=omega) only [push_cast,↓iC9,simprocAttr];refine hK _ ?_;clear hK K
  refine aB ?_;refine qX6 (ι:=Unit) (fun _=>⟨[(0,.ptr 0 6 0 0),(1,.v (.int .i64 loss)),(5,.v (.int .i64 (m + 1))),(7,.v (.string p)),(8,.ptr 64 6 0 0),(18,.own 144),(19,.v (.int .i64 (ks.length:Int))),(20,.v (.int .i64 (j:Int)))],
   [(0,.bx false 64 [.v (.map (some r1)),.v (.map (some r2)),.v (.int .i64 e.steps),.v (.int .i64 e.stamps),.v (.int .i64 e.armed),.v (.bool e.down)]),(64,.bx true 97 [.v (.bool x.dir),.v (.string x.data),.v (.string (qG1 pk x)),.v (.bool true),.v (.bool x.anew),.v (.int .i64 x.stamp)]),(144,.sl true 9 1 (dG ks))]⟩)
   (fun _=>[.map r1 kS e.n (tab Itm.val e.L),.map r2 kS e.m (tab gM e.R)]) (fun _=>True) [0,1,5,7,8,18,19,20] [0,64,144] ?_ ?_
  ·cases han:x.anew with
  |true =>
    refine bX rfl ?_
    have hw1:IntKind.u64.wrap ((x.data.size:Int) + 2)=(x.data.size:Int) + 2:=by rw [IntKind.wrap_u64];omega
    obtain ⟨k,hk⟩:∃ k,pk.tmod ((x.data.size:Int) + 2)=k:=⟨_,rfl⟩
    have hk2:0≤k∧k < (x.data.size:Int) + 2:=by
     rw [← hk,Int.tmod_eq_emod_of_nonneg hrg.1];exact ⟨Int.emod_nonneg _ (by omega),Int.emod_lt_of_pos _ (by omega)⟩
    have hcut:qG1 pk x=if 0 < k then x.data.extract 0 (k - 1).toNat else x.kept:=by
     unfold qG1;rw [if_pos han,hk]
    rw [hcut];refine aA ?_;refine aC (fun K hK=>?_);simp (disch:=omega) only [push_cast,↓iC9,simprocAttr,hw1,hk]
    refine ⟨by omega,hK _ ?_⟩
    clear hK K;refine aA ?_;refine aC (fun K hK=>?_);simp (disch:=omega) only [push_cast,↓iC9,simprocAttr];refine hK _ ?_;clear hK K
    refine aB ?_
    by_cases hk0:0 < k
    ·rw [if_pos hk0]
     have hw2:IntKind.u64.wrap (k - 1)=k - 1:=by rw [IntKind.wrap_u64];omega
     refine bA rfl (fun _=>?_) (fun h=>by simp [hk0] at h)
     refine aC (fun K hK=>?_);simp (disch:=omega) only [push_cast,↓iC9,simprocAttr,hw2]
     (repeat refine ⟨by first|omega|decide|((repeat' apply And.intro) <;> first|omega|decide),?_⟩)
     refine hK _ ?_;clear hK K;refine aB ?_;exact ⟨(),rfl,rfl,trivial⟩
    ·rw [if_neg hk0];refine bA rfl (fun h=>by simp [hk0] at h) (fun _=>?_)
     refine aN ?_;refine aB ?_;exact ⟨(),rfl,rfl,trivial⟩
  |false =>
    have l4:=l3 han
    obtain ⟨k,hk⟩:∃ k,pk.tmod ((x.data.size:Int) - x.kept.size + 1)=k:=⟨_,rfl⟩
    have hk2:0≤k∧k < (x.data.size:Int) - x.kept.size + 1:=by
     rw [← hk,Int.tmod_eq_emod_of_nonneg hrg.1];exact ⟨Int.emod_nonneg _ (by omega),Int.emod_lt_of_pos _ (by omega)⟩
    have hw1:IntKind.u64.wrap ((x.data.size:Int) - x.kept.size + 1)=(x.data.size:Int) - x.kept.size + 1:=by rw [IntKind.wrap_u64];omega
    have hcut:qG1 pk x=x.data.extract 0 ((x.kept.size:Int) + k).toNat:=by
     unfold qG1;rw [if_neg (by rw [han];decide),hk]
    rw [hcut];refine aW rfl ?_
    skip
    refine mL ?_;refine HW_drw 18 mixed (by kernel_rfl) (fun K hK=>?_)
    simp (disch:=omega) only [push_cast,↓iC9,simprocAttr,hw1,hk];refine ⟨by omega,?_⟩
    with_reducible refine aU ?_;simp (disch:=omega) only [push_cast,↓iC9,simprocAttr]
    (repeat refine ⟨by first|omega|decide|((repeat' apply And.intro) <;> first|omega|decide),?_⟩)
    refine hK _ ?_;clear hK K;refine aB ?_;exact ⟨(),rfl,rfl,trivial⟩
  rintro - -
  have hse:=zPc e p (wJ pk x) r1 r2 hps hne (by omega)
  simp only [bM] at hse;rw [cJ] at hse;refine aA ?_;refine aC (fun K hK=>?_);simp (disch:=omega) only [push_cast,↓iC9,simprocAttr];refine hK _ ?_;clear hK K
  refine aB ?_;refine aX ?_;refine aG 3 (fun K1 hK1=>?_);simp (disch:=omega) only [push_cast,↓iC9,simprocAttr];refine hK1 _ ?_;(try clear hK1 K1)
  refine bN 680 [0] zTc (hse) rfl rfl rfl rfl (by simp only [push_cast,simprocAttr];exact rfl) (by decide) (by decide) (by decide) (by simp only [push_cast,simprocAttr];try rfl) (by simp only [push_cast,simprocAttr];try rfl) ?_
  rintro _ _ _ ⟨rfl,rfl,rfl⟩;refine aG 0 (fun K1 hK1=>?_);simp (disch:=omega) only [push_cast,↓iC9,simprocAttr,aE,aD];refine hK1 _ ?_;(try clear hK1 K1)
  refine aR ?_;refine aZ ?_;refine aB ?_;refine aC (fun K hK=>?_);simp (disch:=omega) only [push_cast,↓iC9,simprocAttr];refine hK _ ?_;clear hK K
  refine aB ?_;refine ⟨(j + 1,m + 1,pW e p (wJ pk x)),?_,rfl,⟨by show j + 1≤_;omega,hgo,?_,zQf hL (zMz (by rw [← hx];exact hL p)),by show 0≤m + 1;omega,by show m + 1≤((j + 1:Nat):Int);push_cast;omega⟩,by show ks.length - (j + 1) < ks.length - j;omega⟩
  ·dsimp only;rw [show (((j + 1:Nat):Int))=(j:Int) + 1 from Int.natCast_succ j]
   rfl
  ·refine uK (zMt hO (C:=2097153) (by decide) hps ?_) (by push_cast;omega)
   rw [hx]
   have:=qNf (pick:=pk) (x:=x) ⟨l1,l2,l3⟩
   show ((qG1 pk x).size:Int)≤_
   omega
end Go.Proofs.YtlihpgmgiehjkaaGreatDoor
end
section
set_option maxRecDepth 20000
namespace Go.Eng
open Go Go.RowKit Go.Maps
section
variable {P:Program} {N:Nat} {x:Code} {Q:iK} {g:MS} {S:HS}
theorem zLu (n:Nat) {g':MS} (hg:g.take n=g') (h:HWM P N x Q g' S):HWM P N x Q g S:=fun c l w I M=>by
 subst hg
 have up:∀ {i:Nat} {m:MO},(g.take n)[i]?=some m→g[i]?=some m:=fun {i m} hi=>by
  have hl:=(List.getElem?_eq_some_iff.1 hi).1
  rw [List.length_take] at hl;rw [List.getElem?_take_of_lt (by omega)] at hi;exact hi
 exact h c l w I ⟨fun i m hi=>M.ok i m (up hi),fun i j m m' b hne hi hj=>M.nd i j m m' b hne (up hi) (up hj),fun i m b hi=>M.foot i m b (up hi)⟩
theorem qX5 (k id ty sz:Nat) {S':HS} (hk:hlk S.env k=some (.v (.slice none 0 0))) (hs:((S.kill (only id)).row id (.sl true ty sz [])).rep k (.own id)=S') (h:HWM P N x Q g S'):HWM P N x Q g S:=fun c l w I M=>by
 subst hs;refine h c l w ?_ M;obtain ⟨ρ,xs,G⟩:=I
 have G2:=G.new id (.sl true ty sz []) [] (.slice none 0 0) (w':=w) (Below.refl _ _) (fun b hb=>by cases hb) (fun _ _ =>
  ⟨by rw [bE];exact World.ownsRow_nil w 0 ty sz,⟨by simp,fun i k hi=>absurd hi (by simp)⟩,fun b hb=>by rw [bE] at hb;cases hb⟩)
 refine ⟨_,_,G2.rows,G2.apart,fun j y hj=>?_,G2.kept,G2.a0⟩
 simp only [HS.rep,qDa] at hj
 by_cases e:j=k
 ·subst e;rw [if_pos rfl] at hj
  have h1:hlk ((S.kill (only id)).row id (.sl true ty sz [])).env j=some (.v (.slice none 0 0)):=by
   show hlk (rA (only id) S.env) j=_
   rw [lA,hk];simp [HV.kill]
  rw [h1] at hj;simp only [Option.map_some,Option.some.injEq] at hj;subst hj;obtain ⟨v,a,b⟩:=G2.env j _ h1
  have:=bD b
  subst this;refine ⟨_,a,?_⟩
  have:=RepH.own (w:=w) (A:=c.A (jN ρ id (.slice none 0 0)) (((S.kill (only id)).row id (.sl true ty sz [])).rep j (.own id)).st) (n0:=c.n0) (ρ:=jN ρ id (.slice none 0 0)) id (by rw [bE];rfl)
  rw [bE] at this;exact this
 ·rw [if_neg e] at hj;exact G2.env j y hj
theorem zFd (id:Nat) {S':HS} {ty sz:Nat} {nw:Bool} {els:List (List FV)} (hr:rlk S.st id=some (.sl nw ty sz els)) (hs:S.rest id (.lst nw els)=S') (h:HWM P N x Q g S'):HWM P N x Q g S:=fun c l w I M=>h c l w (by rw [← hs];exact I.rest hr) M
end
end Go.Eng
namespace Go.Proofs.YtlihpgmgiehjkaaGreatDoor
open Go Go.Eng Go.RowKit Go.Maps Go.Tr Go.Dk Go.Sw
abbrev Sn:=ByteArray × Int × Nd
def zPd (x:Sn):List FV:=[.v (.string x.1),.v (.int .i64 x.2.1),.v (.int .i64 x.2.2.1),.v (.string x.2.2.2)]
def kL (l:List Sn):List (List FV):=l.map zPd
theorem qEd (l:List Sn):(kL l).length=l.length:=by simp [kL]
theorem zDo (l:List Sn):Wid 4 (kL l)=True:=eq_true (qSl l fun _=>rfl)
theorem zDp {l:List Sn} {i:Nat} {d:List FV} (h:i < l.length):(kL l).getD i d=[.v (.string l[i].1),.v (.int .i64 l[i].2.1),.v (.int .i64 l[i].2.2.1),.v (.string l[i].2.2.2)]:=by unfold kL;rw [xD h];rfl
theorem qYq (l:List Sn) (p:ByteArray) (n k:Int) (b:ByteArray):kL l ++ [[.v (.string p),.v (.int .i64 n),.v (.int .i64 k),.v (.string b)]]=kL (l ++ [(p,n,k,b)]):=by simp [kL,zPd]
def wL (kn:gL) (x:Sn):gL:=if x.2.2.1=2 then fun p n=>if p=x.1∧n=x.2.1 then some x.2.2 else kn p n else kn
def knS (l:List Sn):gL:=l.foldl wL fun _ _=>none
def qEv (M:MTab) (x:Sn):MTab:=if x.2.2.1=2 then M.put (qSv x.1 x.2.1) (mC x.2.2) else M
def kmS (l:List Sn):MTab:=l.foldl qEv fun _=>none
def zFc (x:Sn):Prop:=x.1.size≤1048576∧(Lit.int .i64 x.2.1).wf=true
theorem zPn:∀ (l:List Sn),(∀ x ∈ l,zFc x)→∀ (M:MTab) (kn:gL),KnOk M kn→KnOk (l.foldl qEv M) (l.foldl wL kn)
|[],_,M,kn,h=>h
|x :: l,hl,M,kn,h=>by
  obtain ⟨h1,h2⟩:=hl x (List.mem_cons_self ..);refine zPn l (fun y hy=>hl y (List.mem_cons_of_mem _ hy)) _ _ ?_
  unfold qEv wL;split
  ·refine ⟨fun p n hp hn=>?_⟩
   have hx:x.1.size≤maxLen:=Nat.le_trans h1 (by decide)
   simp only [MTab.put]
   by_cases e:qSv p n=qSv x.1 x.2.1
   ·obtain ⟨e1,e2⟩:=zF0 hp hn hx h2 e;rw [if_pos e,if_pos ⟨e1,e2⟩];rfl
   ·rw [if_neg e,if_neg (fun ⟨e1,e2⟩=>e (by rw [e1,e2]))]
    exact h.is p n hp hn
  ·exact h
theorem zQl {l:List Sn} (hl:∀ x ∈ l,zFc x):KnOk (kmS l) (knS l):=zPn l hl _ _ ⟨fun p n _ _=>rfl⟩
def gP (d:Dk) (v:ByteArray):Int:=if pOk v 1=false then 10 else if d.down then 14 else if iF d v≠1 then 11 else 0
def wk0:Wk:=⟨[],[],0,0,0⟩
def kM (d:Dk) (v:ByteArray) (l:List Sn):Wk:=dP d v (knS l) wk0 (vis d 1048577 v)
theorem qD2 (d:Dk) (v:ByteArray) (kn:gL):∀ (l:List ByteArray) (w:Wk),dW w.F→dW (dP d v kn w l).F
|[],w,h=>h
|q :: l,w,h=>by
  rw [fD];refine qD2 d v kn l _ ?_;unfold fQ;split
  ·exact jS _ _ h
  ·split
   ·exact jS _ _ h
   ·exact jS _ _ h
theorem qCk (p:ByteArray) {α:Type} (x:α):∀ (L:List (ByteArray × α)),(put p x L).length≤L.length + 1
|[]=>Nat.le_refl _
|(t,y) :: r=>by
  have:=qCk p x r
  rw [put]
  (repeat' split) <;> simp only [List.length_cons] <;> omega
theorem qNx (d:Dk) (v:ByteArray) (kn:gL):∀ (l:List ByteArray) (w:Wk),(dP d v kn w l).F.length≤w.F.length + l.length
|[],w=>Nat.le_refl _
|q :: l,w=>by
  rw [fD,List.length_cons]
  have h:=qNx d v kn l (fQ d v kn w q)
  have h1:(fQ d v kn w q).F.length≤w.F.length + 1:=by
   unfold fQ;split
   ·exact qCk _ _ _
   ·split
    ·exact qCk _ _ _
    ·exact qCk _ _ _
  omega
theorem qU6 (v q:ByteArray):(cC v q).size≤q.size:=by unfold cC;rw [ByteArray.size_extract];omega
theorem qNy (d:Dk) (v:ByteArray) (kn:gL) {B:Nat}:∀ (l:List ByteArray) (w:Wk),(∀ q ∈ l,q.size≤B)→(∀ e ∈ w.F,e.1.size≤B)→∀ e ∈ (dP d v kn w l).F,e.1.size≤B
|[],w,_,h=>h
|q :: l,w,hl,h=>by
  rw [fD];refine qNy d v kn l _ (fun x hx=>hl x (List.mem_cons_of_mem _ hx)) fun e he=>?_
  have hq:=hl q (List.mem_cons_self ..)
  have ho:=qU6 v q
  have put1:∀ (x:Nd),e ∈ put (cC v q) x w.F→e.1.size≤B:=fun x hx=>by
   rcases qG hx with rfl|hx
   ·show (cC v q).size≤B;omega
   ·exact h e hx
  unfold fQ at he;split at he
  ·exact put1 _ he
  ·split at he
   ·exact put1 _ he
   ·exact put1 _ he
def qEq (w:Wk):List Sn:=w.F.map fun e=>(e.1,(aH w.T e.1).getD 0,e.2)
end Go.Proofs.YtlihpgmgiehjkaaGreatDoor
end
