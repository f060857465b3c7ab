/-
  slices.SortFunc of entries, laid by the kit's lay-plain.
-/
import Derived.Test.YtbdomkfdkfdfgaaGreatDoorRni
import Derived.Test.YtbdomkfdkfdfgaaGreatDoorPnA
import Derived.Test.YtbdomkfdkfdfgaaGreatDoorOne
import Derived.Test.YtbdomkfdkfdfgaaGreatDoorTrE
import Derived.Shelf.SlSortCmp.WholeK
import Derived.Shelf.SlSortCmp.NoneTotal
import Derived.Test.YtbdomkfdkfdfgaaGreatDoorProg
set_option linter.unusedSimpArgs false
set_option linter.unusedVariables false
section
set_option maxRecDepth 20000
namespace Go.Tr
open Go Go.Eng Go.RowKit
def zRu (x:Act):List FV:=[.v (.int .i64 x.1),.v (.string x.2.1),.v (.int .i64 x.2.2.1),.v (.string x.2.2.2)]
def qDx (l:List Act):List (List FV):=l.map zRu
theorem qYq (l:List Act):(qDx l).length=l.length:=by simp [qDx]
theorem sZ (l:List Act):Wid 4 (qDx l)=True:=eq_true (qB6 l fun _=>rfl)
theorem zAr (l:List Act):∀ x ∈ qDx l,∀ f ∈ x,FreshF f:=fun x hx f hf=>by
 obtain ⟨s,-,rfl⟩:=List.mem_map.1 hx;simp [zRu] at hf;rcases hf with rfl|rfl|rfl|rfl <;> exact .v _
theorem qTb (l:List Act) (r:Int) (p:ByteArray) (k:Int) (d:ByteArray):qDx l ++ [[.v (.int .i64 r),.v (.string p),.v (.int .i64 k),.v (.string d)]]=qDx (l ++ [(r,p,k,d)]):=by simp [qDx,zRu]
abbrev zA6 (l:List Act):Row:=.sl true 64 4 (qDx l)
def came (old:List Ent) (pre:List (Fin (aL old).length)):List Ent:=pre.filterMap fun j:Fin (aL old).length=>old[j.1]?
theorem zF9 (old:List Ent) (pre:List (Fin (aL old).length)) (j:Fin (aL old).length) (h:j.1 < old.length):came old (pre ++ [j])=came old pre ++ [old[j.1]]:=by
 unfold came;rw [List.filterMap_append];simp [List.getElem?_eq_getElem h]
theorem zLf (old:List Ent) (pre:List (Fin (aL old).length)):(came old pre).length≤pre.length:=List.length_filterMap_le ..
theorem zLg (old:List Ent):came old (List.finRange (aL old).length).reverse=old.reverse:=by
 unfold came;rw [List.filterMap_reverse]
 congr 1
 have:∀ n (h:n=old.length),(List.finRange n).filterMap (fun j:Fin n=>old[(j:Nat)]?)=old:=by
  rintro _ rfl
  have e:(fun j:Fin old.length=>old[(j:Nat)]?)=some ∘ old.get:=funext fun j=>by rw [List.getElem?_eq_getElem j.2];rfl
  rw [e,List.filterMap_eq_map];refine List.ext_getElem (by simp) fun i h1 h2=>?_
  simp
 exact this _ (yV old)
end Go.Tr
namespace Go.Proofs.YtbdomkfdkfdfgaaGreatDoor
open Go Go.Eng Go.RowKit Go.Tr
set_option maxHeartbeats 8000000 in
theorem zGf (root:Int) (old now:List Ent) (ro:rise old) (rn:rise now) (hlo:old.length≤1048576) (hln:now.length≤1048576) :
  HFun Tryz.prog 23 [.v (.int .i64 root),.lst false (aL old),.lst false (aL now)] (fun h st=>h=.own 0∧st=[(0,zA6 (zLo root old now))]):=by
 refine zTo (N:=57) Tryz.func23 rfl Tryz.ntmps23 (by simp) ?_
 refine zEf ?_;refine zJ (fun K hK=>?_);simp (disch:=omega) only [push_cast,↓Int.cast_ofNat_Int,simprocAttr];refine hK _ ?_;clear hK K
 refine ⟨rfl,?_⟩;refine zEf ?_;refine zJ (fun K hK=>?_);simp (disch:=omega) only [push_cast,↓Int.cast_ofNat_Int,simprocAttr];refine hK _ ?_;clear hK K
 refine ⟨rfl,?_⟩;refine zLy [1,3,5,7] [24,40,56,96] (by simp only [zZ,zR,zP,zQ,zN,zS,zM,zX,zU,Nat.reduceEqDiff,reduceIte];exact rfl) ?_
 refine zGg (P:=Tryz.prog) (N:=57) (tg:=14) (t13:=13) (ti:=15) (tx:=16) (ta:=9) (t1:=1) (tsl:=22) (ty:=67) (gf:=71) (xs:=aL old) (fr:=false)
  (fun pre=>[(24,.bx false 3 [.v (.int .i64 root)]),(40,.bx false 22 [.lst false (aL now)]),(56,.bx false 52 [.own 96]),(96,zA6 (qFe root now (came old pre)))])
  (by decide) (by decide) rfl ?h3 ?hfr ?hnw ?hE0 ?hst ?hty ?hreg ?eg ?hseq ?hasg ?hbody ?hrest
 case h3=>intro x hx;obtain ⟨s,-,rfl⟩:=List.mem_map.1 hx;rfl
 case hfr =>
  intro k x h;simp only [hlk] at h
  (repeat' split at h) <;> first|omega|cases h
 case hnw =>
  intro k x h;simp only [rlk] at h
  (repeat' split at h) <;> cases h <;> rfl
 case hE0=>rfl
 case hst =>
  intro pre k x h;simp only [hlk] at h
  (repeat' split at h) <;> cases h <;> first|trivial|exact ⟨_,_,rfl⟩
 case hty =>
  intro pre k x h e;simp only [rlk] at h
  (repeat' split at h) <;> cases h <;> first|exact ⟨_,rfl⟩|(exfalso;simp only [Row.ty,zA6] at e;exact absurd e (by decide))
 case hreg =>
  intro l w a n cap h;refine iG (fun K hK=>?_)
  simp (disch:=omega) only [push_cast,↓Int.cast_ofNat_Int,simprocAttr,qT3,qZw,h];refine ⟨zVi,((callsIn_wide (n:=0)).1 (zT9 Fence.wide 0 trivial rfl a n cap w)).mono ?_⟩;rintro e w' ⟨rfl,rfl⟩;refine mR ?_;exact hK _ _ ⟨rfl,rfl,rfl⟩
 case eg=>exact fun _ _=>rfl
 case hseq=>exact fun W Bs sv T vals h1 h2 h3 h4=>zLl Fence.wide 1 trivial rfl (Nat.le_refl _) Bs sv T _ vals (by rw [yV];omega) W h1 h2 h3 h4
 case hasg =>
  intro l w v0 v1 v2 h0 h1 h2 h;refine iG (fun K hK=>?_)
  simp (disch:=omega) only [push_cast,↓Int.cast_ofNat_Int,simprocAttr,qT3,qZw,h];obtain ⟨w',q1,q2,q3⟩:=zGs (P:=Tryz.prog) (ty:=67) (vs:=#[v0,v1,v2]) (Blk.new w #[.string ByteArray.empty,.int .i64 0,.string ByteArray.empty] 67) zQ7 (by simp [h0,h1,h2]) rfl
  refine ⟨w',q1,?_⟩;exact hK _ _ ⟨rfl,rfl,q3.below ((Below.refl _ _).alloc (Nat.le_refl _) _) (Nat.le_refl _),q2⟩
 case hbody =>
  intro pre j hlen
  have hj:j.1 < old.length:=Nat.lt_of_lt_of_eq j.2 (yV old)
  have ej:(aL old)[j]=[FV.v (.string old[j.1].1),.v (.int .i64 old[j.1].2.1),.v (.string old[j.1].2.2)]:=by show (aL old)[j.1]=_;simp [aL,qUl]
  have hC:(qFe root now (came old pre)).length≤1048576:=by
   have h1:=zLf old pre
   have h2:=List.length_filter_le (zF1 now) (came old pre)
   have h3:=Nat.lt_of_lt_of_eq hlen (yV old)
   unfold qFe;rw [List.length_map];omega
  rw [ej,zF9 _ _ _ hj];generalize came old pre=C at *
  have hd:qFe root now (C ++ [old[j.1]])=qFe root now C ++ if zF1 now old[j.1]=true then [(root,old[j.1].1,0,{ data:=#[] })] else []:=by
   unfold qFe;rw [List.filter_append,List.map_append]
   cases h:zF1 now old[j.1] <;> simp [h] <;> rfl
  rw [hd];generalize old[j.1]=e at *
  obtain ⟨p,k,d⟩:=e
  have c43:=oQ now p rn (by omega)
  obtain ⟨m,hm⟩:∃ m,aF now p=m:=⟨_,rfl⟩;rw [hm] at c43;simp only [zF1,hm];obtain ⟨km,dm⟩:=m;dsimp only;refine zD ?_;refine zE ?_
  cases hb:decide (km=k) with
 |true =>
   refine pB 9 mixed (by kernel_rfl) (fun K hK K1 hK1=>?_);simp (disch:=omega) only [push_cast,↓Int.cast_ofNat_Int,simprocAttr,hb]
   refine sN uW c43 (.cons (aT (yT _)) (.cons (.v _) .nil)) ?_;with_reducible refine aC ?_;simp (disch:=omega) only [push_cast,↓Int.cast_ofNat_Int,simprocAttr,hb]
   refine hK1 _ ?_;(try clear hK1 K1);with_reducible refine aC ?_;simp (disch:=omega) only [push_cast,↓Int.cast_ofNat_Int,simprocAttr,hb]
   refine hK _ ?_;clear hK K;refine yC rfl ?_;refine zC ?_;refine zB ?_;exact ⟨rfl,[24,40,56,96],by simp only [zQ,zN,zU,zX,Nat.reduceEqDiff,reduceIte];simp⟩
 |false =>
   refine pB 9 mixed (by kernel_rfl) (fun K hK K1 hK1=>?_);simp (disch:=omega) only [push_cast,↓Int.cast_ofNat_Int,simprocAttr,hb]
   refine sN uW c43 (.cons (aT (yT _)) (.cons (.v _) .nil)) ?_;with_reducible refine aC ?_;simp (disch:=omega) only [push_cast,↓Int.cast_ofNat_Int,simprocAttr,hb]
   refine hK1 _ ?_;(try clear hK1 K1);with_reducible refine aC ?_;simp (disch:=omega) only [push_cast,↓Int.cast_ofNat_Int,simprocAttr,hb]
   refine hK _ ?_;clear hK K;refine yD rfl ?_
   have e2:qDx (qFe root now C) ++ [[FV.v (.int .i64 root),.v (.string p),.v (.int .i64 0),.v (.string ByteArray.empty)]]=qDx (qFe root now C ++ [(root,p,0,{ data:=#[] })]):=qTb _ _ _ _ _
   refine zJ (fun K hK=>?_);simp (disch:=omega) only [push_cast,↓Int.cast_ofNat_Int,simprocAttr,qYq,sZ,e2];(repeat refine ⟨by first|omega|decide|((repeat' apply And.intro) <;> first|omega|decide),?_⟩);refine hK _ ?_;clear hK K
   refine zB ?_;exact ⟨rfl,[24,40,56,96],by simp only [zQ,zN,zU,zX,Nat.reduceEqDiff,reduceIte];simp⟩
 case hrest =>
  intro D;rw [zLg]
  have hD0:(qFe root now old.reverse).length≤1048576:=by
   have h2:=List.length_filter_le (zF1 now) old.reverse
   unfold qFe;rw [List.length_map];rw [List.length_reverse] at h2;omega
  have hA:zLo root old now=qFe root now old.reverse ++ qHe root old now:=rfl
  rw [hA];generalize qFe root now old.reverse=C at *
  refine qYv ?_;simp only [oE,List.map_cons,List.map_nil,Row.light];refine zE ?_;refine zE ?_;refine zJ (fun K hK=>?_);simp (disch:=omega) only [push_cast,↓Int.cast_ofNat_Int,simprocAttr,yV];refine hK _ ?_;clear hK K
  refine zA ?_;refine zD ?_;refine cH (fun i:Nat=>⟨[(1,.lst false (aL old)),(3,.ptr 24 1 0 0),(7,.ptr 56 1 0 0),(33,.lst false (aL now)),(34,.v (.int .i64 now.length)),(35,.v (.int .i64 i))],[(24,.bx true 3 [.v (.int .i64 root)]),(56,.bx true 52 [.own 96]),(96,zA6 (C ++ qHe root old (now.take i)))]⟩) (fun i=>i≤now.length) (fun i=>now.length - i) [1,3,7,33,34,35] [24,56,96] 0 (by simp only [zZ,zR,zP,zQ,zN,zS,zM,zX,zU,Nat.reduceEqDiff,reduceIte];simp [qHe]) (Nat.zero_le _) ?_
  intro i hi
  have hP:(qHe root old (now.take i)).length≤i:=by
   have h2:=List.length_filter_le (zG5 old) (now.take i)
   unfold qHe;rw [List.length_map];rw [List.length_take] at h2;omega
  have hCP:(C ++ qHe root old (now.take i)).length≤2097152:=by rw [List.length_append];omega
  by_cases hlt:i < now.length
  ·have hd:qHe root old (now.take (i + 1))=qHe root old (now.take i) ++ if zG5 old now[i]=true then [(root,now[i].1,now[i].2)] else []:=by
    unfold qHe;rw [List.take_succ_eq_append_getElem hlt,List.filter_append,List.map_append]
    cases h:zG5 old now[i] <;> simp [h]
   have hg:=yW hlt (d:=[])
   generalize now[i]=e at *
   obtain ⟨p,k,d⟩:=e
   have c43:=oQ old p ro (by omega)
   obtain ⟨m,hm⟩:∃ m,aF old p=m:=⟨_,rfl⟩;rw [hm] at c43;simp only [zG5,hm] at hd;obtain ⟨km,dm⟩:=m;refine zE ?_;refine zJ (fun K hK=>?_);simp (disch:=omega) only [push_cast,↓Int.cast_ofNat_Int,simprocAttr];refine hK _ ?_;clear hK K
   refine zE ?_;refine yD rfl ?_;refine zC ?_;refine zE ?_;refine zD ?_;refine zE ?_;refine zJ (fun K hK=>?_);simp (disch:=omega) only [push_cast,↓Int.cast_ofNat_Int,simprocAttr,yV,yU,hg];refine hK _ ?_;clear hK K
   simp only [Prod.mk.injEq] at hd;refine zE ?_
   cases hb:decide (km=k∧dm=d) with
  |true =>
    rw [hb] at hd;refine pB 7 mixed (by kernel_rfl) (fun K hK K1 hK1=>?_);simp (disch:=omega) only [push_cast,↓Int.cast_ofNat_Int,simprocAttr,hb]
    refine sN uW c43 (.cons (aT (yT _)) (.cons (.v _) .nil)) ?_;with_reducible refine aC ?_;simp (disch:=omega) only [push_cast,↓Int.cast_ofNat_Int,simprocAttr,hb]
    refine ⟨_,eqN _ _ _ _,?_⟩;with_reducible refine aC ?_;simp (disch:=omega) only [push_cast,↓Int.cast_ofNat_Int,simprocAttr,hb]
    refine hK1 _ ?_;(try clear hK1 K1);with_reducible refine aC ?_;simp (disch:=omega) only [push_cast,↓Int.cast_ofNat_Int,simprocAttr,hb]
    refine hK _ ?_;clear hK K;refine yC rfl ?_;refine zC ?_;refine zB ?_;refine zA ?_;refine zJ (fun K hK=>?_);simp (disch:=omega) only [push_cast,↓Int.cast_ofNat_Int,simprocAttr];refine hK _ ?_;clear hK K
    refine zA ?_;refine ⟨i + 1,by simp only [zZ,zR,zP,zQ,zN,zS,zM,zX,zU,Nat.reduceEqDiff,reduceIte];rw [hd];simp,hlt,by omega⟩
  |false =>
    rw [hb] at hd;refine pB 7 mixed (by kernel_rfl) (fun K hK K1 hK1=>?_);simp (disch:=omega) only [push_cast,↓Int.cast_ofNat_Int,simprocAttr,hb]
    refine sN uW c43 (.cons (aT (yT _)) (.cons (.v _) .nil)) ?_;with_reducible refine aC ?_;simp (disch:=omega) only [push_cast,↓Int.cast_ofNat_Int,simprocAttr,hb]
    refine ⟨_,eqN _ _ _ _,?_⟩;with_reducible refine aC ?_;simp (disch:=omega) only [push_cast,↓Int.cast_ofNat_Int,simprocAttr,hb]
    refine hK1 _ ?_;(try clear hK1 K1);with_reducible refine aC ?_;simp (disch:=omega) only [push_cast,↓Int.cast_ofNat_Int,simprocAttr,hb]
    refine hK _ ?_;clear hK K;refine yD rfl ?_
    have e2:qDx (C ++ qHe root old (now.take i)) ++ [[FV.v (.int .i64 root),.v (.string p),.v (.int .i64 k),.v (.string d)]]=qDx (C ++ (qHe root old (now.take i) ++ [(root,p,k,d)])):=by rw [qTb,List.append_assoc]
    refine zJ (fun K hK=>?_);simp (disch:=omega) only [push_cast,↓Int.cast_ofNat_Int,simprocAttr,qYq,sZ,e2];(repeat refine ⟨by first|omega|decide|((repeat' apply And.intro) <;> first|omega|decide),?_⟩);refine hK _ ?_;clear hK K
    refine zB ?_;refine zA ?_;refine zJ (fun K hK=>?_);simp (disch:=omega) only [push_cast,↓Int.cast_ofNat_Int,simprocAttr];refine hK _ ?_;clear hK K
    refine zA ?_;refine ⟨i + 1,by simp only [zZ,zR,zP,zQ,zN,zS,zM,zX,zU,Nat.reduceEqDiff,reduceIte];rw [hd];rfl,hlt,by omega⟩
  ·have hne:i=now.length:=by omega
   subst hne;rw [List.take_length];refine zE ?_;refine zJ (fun K hK=>?_);simp (disch:=omega) only [push_cast,↓Int.cast_ofNat_Int,simprocAttr];refine hK _ ?_;clear hK K
   refine zE ?_;refine yC rfl ?_;refine zT ?_;refine zG ?_;refine zG ?_;refine zH ?_;refine zE ?_;refine zJ (fun K hK=>?_);simp (disch:=omega) only [push_cast,↓Int.cast_ofNat_Int,simprocAttr];refine hK _ ?_;clear hK K
   refine zA ?_;refine zW ?_;refine ⟨.inr rfl,trivial,?_⟩;change pD Tryz.prog _ [ResultVar.tmp 6] _;simp only [yA,yM,yH,yE,aA,aD,yK,yJ,zS,zM,Nat.reduceEqDiff,reduceIte,reduceCtorEq];exact rC rfl (zAr _) ⟨rfl,rfl⟩
end Go.Proofs.YtbdomkfdkfdfgaaGreatDoor
end
section
namespace Go.Proofs.YtbdomkfdkfdfgaaGreatDoor
open Go.Shelf
def Tryz.sortE_ren:Go.Shelf.Ren:=⟨fun|6=>108|15=>64|14=>132|28=>92|29=>93|20=>153|21=>154|22=>155|23=>156|24=>157|25=>158|26=>159|27=>160|46=>176|47=>120|48=>121|49=>177|50=>178|57=>185|n=>n,fun|22=>22|24=>67|25=>147|3=>3|39=>109|0=>0|53=>136|55=>138|4=>4|46=>130|45=>129|50=>110|5=>5|9=>9|66=>158|70=>162|76=>180|77=>181|n=>n,fun|n=>n⟩
theorem Tryz.sortE:Go.Proofs.SlLaysF0.n6 Tryz.prog Tryz.sortE_ren:={
 mixed:=by kernel_rfl
 f6:=⟨Tryz.f108.name,by decide,Tryz.func108.trans (congrArg some (by kernel_rfl))⟩
 f14:=⟨Tryz.f132.name,by decide,Tryz.func132.trans (congrArg some (by kernel_rfl))⟩
 f15:=Tryz.func64.trans (congrArg some (by kernel_rfl))
 f20:=⟨Tryz.f153.name,by decide,Tryz.func153.trans (congrArg some (by kernel_rfl))⟩
 f21:=⟨Tryz.f154.name,by decide,Tryz.func154.trans (congrArg some (by kernel_rfl))⟩
 f22:=⟨Tryz.f155.name,by decide,Tryz.func155.trans (congrArg some (by kernel_rfl))⟩
 f23:=⟨Tryz.f156.name,by decide,Tryz.func156.trans (congrArg some (by kernel_rfl))⟩
 f24:=⟨Tryz.f157.name,by decide,Tryz.func157.trans (congrArg some (by kernel_rfl))⟩
 f25:=⟨Tryz.f158.name,by decide,Tryz.func158.trans (congrArg some (by kernel_rfl))⟩
 f26:=⟨Tryz.f159.name,by decide,Tryz.func159.trans (congrArg some (by kernel_rfl))⟩
 f27:=⟨Tryz.f160.name,by decide,Tryz.func160.trans (congrArg some (by kernel_rfl))⟩
 f28:=Tryz.func92.trans (congrArg some (by kernel_rfl))
 f29:=Tryz.func93.trans (congrArg some (by kernel_rfl))
 f46:=⟨Tryz.f176.name,by decide,Tryz.func176.trans (congrArg some (by kernel_rfl))⟩
 f47:=Tryz.func120.trans (congrArg some (by kernel_rfl))
 f48:=Tryz.func121.trans (congrArg some (by kernel_rfl))
 f49:=⟨Tryz.f177.name,by decide,Tryz.func177.trans (congrArg some (by kernel_rfl))⟩
 f50:=⟨Tryz.f178.name,by decide,Tryz.func178.trans (congrArg some (by kernel_rfl))⟩
 f57:=⟨Tryz.f185.name,by decide,Tryz.func185.trans (congrArg some (by kernel_rfl))⟩
 t0:=Tryz.underlying0
 a0:=Tryz.isAgg0
 z0:=Tryz.sizeOf0
 v0:=Tryz.zeroValue0
 t3:=Tryz.underlying3
 a3:=Tryz.isAgg3
 z3:=Tryz.sizeOf3
 v3:=Tryz.zeroValue3
 t4:=Tryz.underlying4
 a4:=Tryz.isAgg4
 z4:=Tryz.sizeOf4
 v4:=Tryz.zeroValue4
 t5:=Tryz.underlying5
 a5:=Tryz.isAgg5
 z5:=Tryz.sizeOf5
 v5:=Tryz.zeroValue5
 t9:=Tryz.underlying9
 a9:=Tryz.isAgg9
 z9:=Tryz.sizeOf9
 v9:=Tryz.zeroValue9
 t22:=Tryz.underlying22
 a22:=Tryz.isAgg22
 z22:=Tryz.sizeOf22
 v22:=Tryz.zeroValue22
 t25:=Tryz.underlying147
 a25:=Tryz.isAgg147
 z25:=Tryz.sizeOf147
 v25:=Tryz.zeroValue147
 t39:=Tryz.underlying109
 a39:=Tryz.isAgg109
 z39:=Tryz.sizeOf109
 v39:=Tryz.zeroValue109
 t45:=Tryz.underlying129
 a45:=Tryz.isAgg129
 z45:=Tryz.sizeOf129
 v45:=Tryz.zeroValue129
 t46:=Tryz.underlying130
 a46:=Tryz.isAgg130
 z46:=Tryz.sizeOf130
 v46:=Tryz.zeroValue130
 t50:=Tryz.underlying110
 a50:=Tryz.isAgg110
 z50:=Tryz.sizeOf110
 v50:=Tryz.zeroValue110
 t53:=Tryz.underlying136
 a53:=Tryz.isAgg136
 z53:=Tryz.sizeOf136
 v53:=Tryz.zeroValue136
 t55:=Tryz.underlying138
 a55:=Tryz.isAgg138
 z55:=Tryz.sizeOf138
 v55:=Tryz.zeroValue138
 t66:=Tryz.underlying158
 a66:=Tryz.isAgg158
 z66:=Tryz.sizeOf158
 v66:=Tryz.zeroValue158
 t70:=Tryz.underlying162
 a70:=Tryz.isAgg162
 z70:=Tryz.sizeOf162
 v70:=Tryz.zeroValue162
 t76:=Tryz.underlying180
 a76:=Tryz.isAgg180
 z76:=Tryz.sizeOf180
 v76:=Tryz.zeroValue180
 t77:=Tryz.underlying181
 a77:=Tryz.isAgg181
 z77:=Tryz.sizeOf181
 v77:=Tryz.zeroValue181 }
end Go.Proofs.YtbdomkfdkfdfgaaGreatDoor
end
