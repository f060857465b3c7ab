/-
  Scan: a tree is laid: walked.
-/
import Derived.Test.YtlihpgmgiehjkaaGreatDoorSwN
import Derived.Test.YtlihpgmgiehjkaaGreatDoorRng
import Derived.Test.YtlihpgmgiehjkaaGreatDoorRnm
import Derived.Test.YtlihpgmgiehjkaaGreatDoorCam
import Derived.Test.YtlihpgmgiehjkaaGreatDoorTrW
set_option linter.unusedSimpArgs false
set_option linter.unusedVariables false
set_option maxRecDepth 20000
namespace Go.Proofs.YtlihpgmgiehjkaaGreatDoor
open Go Go.Eng Go.RowKit Go.Maps Go.Tr Go.Dk Go.Sw
set_option maxHeartbeats 16000000 in
theorem zPk {d:Dk} {D:Int→ByteArray} (hf:Fine d D) (v:ByteArray) (hv:v.size≤1000) (hE:gP d v=0) (old t:List Ent) (hold:pX d v=old) (ro:rise old) (rt:rise t) (hol:old.length≤1000) (htl:t.length≤1000) (hoz:∀ e ∈ old,e.1.size≤1000) (htz:∀ e ∈ t,e.1.size≤1000∧e.2.2.size≤1000000) (hk:LayOk v old t d) (fs:Bool) (r1 r2:Nat) :
  HFunM Tryz.prog 20 [.ptr 0 6 0 0,.v (.string v),.lst fs (bR t)] [(0,.bx false 64 (d.cells r1 r2))] (d.maps kS r1 r2)
   (fun h st g=>h=.v (.int .i64 0)∧st=[(0,.bx false 64 ((wK v old t d).cells r1 r2))]∧g=(wK v old t d).maps kS r1 r2):=by
 refine zQp (N:=89) Tryz.func20 rfl Tryz.ntmps20 (by simp) ?_
 have cw:=qG2 hf v (by omega) r1 r2
 rw [hold] at cw;simp only [hE,if_true] at cw;simp only [bM,cJ] at cw ⊢;refine qTt ?_;refine aC (fun K hK=>?_);simp (disch:=omega) only [push_cast,↓iC9,simprocAttr];refine hK _ ?_;clear hK K
 refine ⟨rfl,?_⟩;refine qTt ?_;refine aX ?_;refine aG 2 (fun K1 hK1=>?_);simp (disch:=omega) only [push_cast,↓iC9,simprocAttr];refine hK1 _ ?_;(try clear hK1 K1)
 refine bN 144 [0] cl9 (cw) rfl rfl rfl rfl (by simp only [push_cast,simprocAttr];exact rfl) (by decide) (by decide) (by decide) (by simp only [push_cast,simprocAttr];try rfl) (by simp only [push_cast,simprocAttr];try rfl) ?_
 rintro _ _ _ ⟨rfl,rfl,rfl⟩;refine aG 5 (fun K1 hK1=>?_);simp (disch:=omega) only [push_cast,↓iC9,simprocAttr,aE,aD];refine hK1 _ ?_;(try clear hK1 K1)
 refine aR ?_;refine ⟨rfl,?_⟩;refine qTt ?_;refine aA ?_;refine aC (fun K hK=>?_);simp (disch:=omega) only [push_cast,↓iC9,simprocAttr];refine hK _ ?_;clear hK K
 refine aB ?_;refine aW rfl ?_;refine aN ?_;refine ⟨rfl,?_⟩;refine zLy 145 rfl (by simp only [qCd,xJ,tK,vH,rM,qKv,wU,wV,sY,wT,wS,qC8,wW,wR,qB6,qB7,qB8,Nat.reduceEqDiff,reduceIte,List.map_cons,List.map_nil];exact rfl) ?_
 refine zLz [3,4,5,6,7,8] [0,24,32,40,48] (by simp only [zZ,zR,zP,zQ,zN,zS,zM,zX,zU,Nat.reduceEqDiff,reduceIte];exact rfl) ?_
 have cells:∀ (e:Dk),e.cells r1 r2=[.v (.map (some r1)),.v (.map (some r2)),.v (.int .i64 e.steps),.v (.int .i64 e.stamps),.v (.int .i64 e.armed),.v (.bool e.down)]:=fun e=>bM e r1 r2
 refine zFg (P:=Tryz.prog) (N:=89) (tg:=25) (t13:=24) (ti:=26) (tx:=27) (ta:=10) (t1:=7) (tsl:=32) (ty:=54) (gf:=89) (xs:=bR old) (fr:=true)
  (fun pre=>[(0,.bx false 64 [.v (.map (some r1)),.v (.map (some r2)),.v (.int .i64 (eB v t d (came old pre)).steps),.v (.int .i64 (eB v t d (came old pre)).stamps),.v (.int .i64 (eB v t d (came old pre)).armed),.v (.bool (eB v t d (came old pre)).down)]),(24,.bx false 23 [.ptr 0 6 0 0]),(32,.bx false 9 [.v (.string v)]),(40,.bx false 32 [.lst fs (bR t)]),(48,.bx false 33 [.v (.int .i64 0)])])
  (fun pre=>(eB v t d (came old pre)).maps kS r1 r2)
  (by decide) (by decide) rfl ?h3 ?hfr ?hE0 ?hG0 ?hGb ?hst ?hty ?hreg ?eg ?hseq ?hasg ?hbody ?hrest
 case h3=>intro x hx;obtain ⟨s,-,rfl⟩:=List.mem_map.1 hx;rfl
 case hfr =>
  intro k x h;simp only [hlk] at h
  (repeat' split at h) <;> first|omega|cases h
 case hE0=>rfl
 case hG0=>rfl
 case hGb=>intro pre;rfl
 case hst =>
  intro pre k x h;simp only [hlk] at h
  (repeat' split at h) <;> cases h <;> first|trivial|exact ⟨_,_,rfl⟩
 case hty =>
  intro pre k x h e;simp only [rlk] at h
  (repeat' split at h) <;> cases h <;> first|exact ⟨_,rfl⟩|(exfalso;simp only [Row.ty] at e;exact absurd e (by decide))
 case hreg =>
  intro l w a n cap h;refine fZ (fun K hK=>?_)
  simp (disch:=omega) only [push_cast,↓iC9,simprocAttr,qCy,qKo,h];refine ⟨zUm,((callsIn_wide (n:=0)).1 (zTp Fence.wide 0 trivial rfl a n cap w)).mono ?_⟩;rintro e w' ⟨rfl,rfl⟩;refine vU ?_;exact hK _ _ ⟨rfl,rfl,rfl⟩
 case eg=>exact fun _ _=>rfl
 case hseq=>exact fun W Bs sv T vals h1 h2 h3 h4=>zE9 Fence.wide 1 trivial rfl (Nat.le_refl _) Bs sv T _ vals (by rw [yV];omega) W h1 h2 h3 h4
 case hasg =>
  intro l w v0 v1 v2 h0 h1 h2 h;refine fZ (fun K hK=>?_)
  simp (disch:=omega) only [push_cast,↓iC9,simprocAttr,qCy,qKo,h];obtain ⟨w',q1,q2,q3⟩:=zFx (P:=Tryz.prog) (ty:=54) (vs:=#[v0,v1,v2]) (Blk.new w #[.string ByteArray.empty,.int .i64 0,.string ByteArray.empty] 54) zQj (by simp [h0,h1,h2]) rfl
  refine ⟨w',q1,?_⟩;exact hK _ _ ⟨rfl,rfl,q3.below ((Below.refl _ _).alloc (Nat.le_refl _) _) (Nat.le_refl _),q2⟩
 case hbody =>
  intro pre j hlen
  have hj:j.1 < old.length:=Nat.lt_of_lt_of_eq j.2 (yV old)
  have ej:(bR old)[j]=[FV.v (.string old[j.1].1),.v (.int .i64 old[j.1].2.1),.v (.string old[j.1].2.2)]:=by show (bR old)[j.1]=_;simp [bR,qNb]
  have hpf:∀ k,pre ++ [j]=(List.finRange (bR old).length).reverse.take k→∃ post,old.reverse=came old pre ++ old[j.1] :: post:=fun k hk=>by
   have h1:=congrArg (came old) hk
   rw [qR8 _ _ _ hj,zE6] at h1;refine ⟨old.reverse.drop k,?_⟩
   conv=>lhs;rw [← List.take_append_drop k old.reverse,← h1]
   simp
  have hcl:=zLk old pre
  have hpl:pre.length < old.length:=Nat.lt_of_lt_of_eq hlen (yV old)
  clear hlen;obtain ⟨okC,lenC⟩:=zAk (v:=v) (t:=t) (came old pre) hf.ok
  have hfl:=hf.len
  rw [ej,qR8 _ _ _ hj,qFp];obtain ⟨C,hC⟩:∃ C,eB v t d (came old pre)=C:=⟨_,rfl⟩;obtain ⟨e,he⟩:∃ e,old[j.1]=e:=⟨_,rfl⟩
  have hez:=hoz _ (List.getElem_mem hj)
  have hrm:¬ (cS C (inn v e.1)).1=0→(bP t e.1).1≠e.2.1→¬ ∃ k,pre ++ [j]=(List.finRange (bR old).length).reverse.take k:=fun hr hm ⟨k,hk'⟩=>by
   obtain ⟨post,hp⟩:=hpf k hk';rw [he] at hp
   have:=(hk.rem _ _ _ hp).2 hm
   rw [hC] at this;exact hr this
  rw [hC] at okC lenC ⊢;rw [he] at hez ⊢;generalize came old pre=cam at *
  obtain ⟨p,k,dt⟩:=e;dsimp only at hez hrm ⊢
  have cg:=zPr t p rt (by omega)
  obtain ⟨m,hm⟩:∃ m,bP t p=m:=⟨_,rfl⟩;rw [hm] at cg
  have hst:lH v t C (p,k,dt)=if m.1=k then C else (cS C (inn v p)).2:=by rw [lH,hm]
  rw [hst];simp only [hm] at hrm;obtain ⟨km,dm⟩:=m;dsimp only at hrm ⊢;refine bG ?_;refine aA ?_
  cases hb:decide (km=k) with
 |true =>
   rw [if_pos (of_decide_eq_true hb)];refine mL ?_;refine pU 9 mixed (by kernel_rfl) (fun K hK K1 hK1=>?_);simp (disch:=omega) only [push_cast,↓iC9,simprocAttr,hb]
   refine qRb zNj cg (.cons (iE (yT _)) (.cons (.v _) .nil)) ?_;with_reducible refine aU ?_;simp (disch:=omega) only [push_cast,↓iC9,simprocAttr,hb]
   refine hK1 _ ?_;(try clear hK1 K1);with_reducible refine aU ?_;simp (disch:=omega) only [push_cast,↓iC9,simprocAttr,hb]
   refine hK _ ?_;clear hK K;refine aB ?_;refine aW rfl ?_;refine aN ?_;refine aZ ?_;exact .inl ⟨rfl,rfl,[0,24,32,40,48],by simp only [zQ,zN,zU,zX,Nat.reduceEqDiff,reduceIte]⟩
 |false =>
   have hne:¬ km=k:=of_decide_eq_false hb
   rw [if_neg hne];refine mL ?_;refine pU 9 mixed (by kernel_rfl) (fun K hK K1 hK1=>?_);simp (disch:=omega) only [push_cast,↓iC9,simprocAttr,hb]
   refine qRb zNj cg (.cons (iE (yT _)) (.cons (.v _) .nil)) ?_;with_reducible refine aU ?_;simp (disch:=omega) only [push_cast,↓iC9,simprocAttr,hb]
   refine hK1 _ ?_;(try clear hK1 K1);with_reducible refine aU ?_;simp (disch:=omega) only [push_cast,↓iC9,simprocAttr,hb]
   refine hK _ ?_;clear hK K;refine aB ?_;refine bX rfl ?_;refine bC [3,4,5,6,7,8,10] [0,24,32,40,48] (by simp only [zZ,zR,zP,zQ,zN,zS,zM,zX,zU,Nat.reduceEqDiff,reduceIte];exact rfl) ?_
   have hsz:(inn v p).size≤1048576:=by rw [sQ];omega
   have cr:=zGf C _ okC (by omega) (inn v p) r1 r2 hsz (by omega)
   simp only [cells,cJ] at cr
   have hs1:({ data:=#[47] }:ByteArray).size=1:=rfl
   have hin:v ++ { data:=#[47] } ++ p=inn v p:=rfl
   refine aA ?_;refine aX ?_;refine aG 6 (fun K1 hK1=>?_);simp (disch:=omega) only [push_cast,↓iC9,simprocAttr]
   refine ⟨by omega,by rw [ByteArray.size_append];omega,?_⟩
   refine hK1 _ ?_;(try clear hK1 K1);rw [hin];refine bN 344 [0] zUp (cr) rfl rfl rfl rfl (by simp only [push_cast,simprocAttr];exact rfl) (by decide) (by decide) (by decide) (by simp only [push_cast,simprocAttr];try rfl) (by simp only [push_cast,simprocAttr];try rfl) ?_
   rintro _ _ _ ⟨rfl,rfl,rfl⟩;refine aG 1 (fun K1 hK1=>?_);simp (disch:=omega) only [push_cast,↓iC9,simprocAttr,aE,aD];refine hK1 _ ?_;(try clear hK1 K1)
   refine aR ?_;refine aA ?_;refine aC (fun K hK=>?_);simp (disch:=omega) only [push_cast,↓iC9,simprocAttr];refine hK _ ?_;clear hK K
   refine aB ?_
   by_cases hr:(cS C (inn v p)).1=0
   ·refine bA rfl (fun h=>by simp [hr] at h) (fun _=>?_)
    refine aN ?_;refine aZ ?_;exact .inl ⟨rfl,rfl,[0,24,32,40,48],by simp only [zQ,zN,zU,zX,Nat.reduceEqDiff,reduceIte]⟩
   ·refine bA rfl (fun _=>?_) (fun h=>by simp [hr] at h)
    refine aA ?_;refine aC (fun K hK=>?_);simp (disch:=omega) only [push_cast,↓iC9,simprocAttr];refine hK _ ?_;clear hK K
    refine aB ?_;refine bB ?_;refine fJ ?_;exact .inr ⟨rfl,hrm hr hne⟩
 case hrest =>
  intro Dd;rw [qXx];show HWM Tryz.prog 89 _ _ _ ⟨_,[(0,Row.bx false 64 _),(24,Row.bx true 23 _),(32,Row.bx true 9 _),(40,Row.bx true 32 _),(48,Row.bx true 33 _)]⟩
  obtain ⟨d1,hd1⟩:∃ d1,eB v t d old.reverse=d1:=⟨_,rfl⟩
  have hlay:wK v old t d=eW v old d1 t:=by rw [wK,hd1]
  rw [hlay,hd1]
  have hkd:=hk.dir
  have hkf:=hk.file
  rw [hd1] at hkd hkf;clear hk;refine aA ?_;refine aA ?_;refine aC (fun K hK=>?_);simp (disch:=omega) only [push_cast,↓iC9,simprocAttr,yV];refine hK _ ?_;clear hK K
  refine aB ?_;refine bG ?_;refine mK (ι:=Nat) (fun i=>⟨[(3,.ptr 24 1 0 0),(4,.ptr 32 1 0 0),(5,.ptr 40 1 0 0),(6,.ptr 48 1 0 0),(7,.lst true (bR old)),(8,.v (.int .i64 0)),(47,.lst fs (bR t)),(48,.v (.int .i64 t.length)),(49,.v (.int .i64 i))],
    [(0,.bx false 64 [.v (.map (some r1)),.v (.map (some r2)),.v (.int .i64 (eW v old d1 (t.take i)).steps),.v (.int .i64 (eW v old d1 (t.take i)).stamps),.v (.int .i64 (eW v old d1 (t.take i)).armed),.v (.bool (eW v old d1 (t.take i)).down)]),(24,.bx true 23 [.ptr 0 6 0 0]),(32,.bx true 9 [.v (.string v)]),(40,.bx true 32 [.lst fs (bR t)]),(48,.bx true 33 [.v (.int .i64 0)])]⟩)
   (fun i=>(eW v old d1 (t.take i)).maps kS r1 r2 ++ [.dfr Dd]) (fun i=>i≤t.length) (fun i=>t.length - i) [3,4,5,6,7,8,47,48,49] [0,24,32,40,48] 0 rfl rfl (Nat.zero_le _) ?_
  intro i hi
  by_cases hil:i < t.length
  ·have hl:t=t.take i ++ t[i] :: t.drop (i + 1):=by
    conv=>lhs;rw [← List.take_append_drop i t]
    rw [List.drop_eq_getElem_cons hil]
   have hkd:=hkd _ _ _ hl
   have hkf:=hkf _ _ _ hl
   have hnx:eW v old d1 (t.take (i + 1))=qC v old (eW v old d1 (t.take i)) t[i]:=by rw [List.take_succ_eq_append_getElem hil,qFz]
   obtain ⟨C,hC⟩:∃ C,eW v old d1 (t.take i)=C:=⟨_,rfl⟩
   have hez:=htz _ (List.getElem_mem hil)
   have hge:∀ x,(bR t).getD i x=[.v (.string t[i].1),.v (.int .i64 t[i].2.1),.v (.string t[i].2.2)]:=fun x=>yW hil
   obtain ⟨e,he⟩:∃ e,t[i]=e:=⟨_,rfl⟩;rw [hC] at hkd hkf hnx ⊢;rw [he] at hkd hkf hnx hez hge;obtain ⟨p,k,dt⟩:=e;dsimp only at hkd hkf hez hge
   have hsz:(inn v p).size≤1048576:=by rw [sQ];omega
   have hs1:({ data:=#[47] }:ByteArray).size=1:=rfl
   have hin:v ++ { data:=#[47] } ++ p=inn v p:=rfl
   have hBB:(1073741824:Int)≤1099511627776:=by decide
   have hst:qC v old C (p,k,dt)=if k=1 then (dY C (inn v p)).2 else if bP old p=(k,dt) then C else (nG (cW C (inn v p) dt).2 (inn v p)).2:=rfl
   rw [hst] at hnx;refine aA ?_;refine aC (fun K hK=>?_);simp (disch:=omega) only [push_cast,↓iC9,simprocAttr];refine hK _ ?_;clear hK K
   refine aA ?_;refine bX rfl ?_;refine aN ?_;refine aA ?_;refine bG ?_;refine aA ?_;refine aC (fun K hK=>?_);simp (disch:=omega) only [push_cast,↓iC9,simprocAttr,yV,yU,hge];refine hK _ ?_;clear hK K
   refine aA ?_;refine aC (fun K hK=>?_);simp (disch:=omega) only [push_cast,↓iC9,simprocAttr]
   refine ⟨by omega,by rw [ByteArray.size_append];omega,?_⟩
   refine hK _ ?_;clear hK K;rw [hin];refine bC [3,4,5,6,7,8,47,48,49,13,14] [0,24,32,40,48,104] (by simp only [zZ,zR,zP,zQ,zN,zS,zM,zX,zU,Nat.reduceEqDiff,reduceIte];exact rfl) ?_
   refine aA ?_;refine bG ?_;refine aA ?_;refine aC (fun K hK=>?_);simp (disch:=omega) only [push_cast,↓iC9,simprocAttr];refine hK _ ?_;clear hK K
   refine aB ?_;simp only [cJ]
   by_cases hk1:k=1
   ·obtain ⟨⟨ok,hlen⟩,h0⟩:=hkd hk1;rw [if_pos hk1] at hnx
    have cm:=qCv C _ ok hBB (inn v p) r1 r2 hsz
    rw [h0] at cm;simp only [cells,cJ] at cm;refine bA rfl (fun _=>?_) (fun h=>by simp [hk1] at h)
    refine aX ?_;refine aG 2 (fun K1 hK1=>?_);simp (disch:=omega) only [push_cast,↓iC9,simprocAttr];refine hK1 _ ?_;(try clear hK1 K1)
    refine nE ([]) ([.map r1 kS C.n (tab Itm.val C.L),.map r2 kS C.m (tab gM C.R)]) ([.dfr Dd]) rfl 520 [0] zLf (cm) rfl rfl rfl rfl (by simp only [push_cast,simprocAttr];exact rfl) (by decide) (by decide) (by decide) (by simp only [push_cast,simprocAttr];try rfl) (by simp only [push_cast,simprocAttr];try rfl) ?_
    rintro _ _ _ ⟨rfl,rfl,rfl⟩;refine aG 1 (fun K1 hK1=>?_);simp (disch:=omega) only [push_cast,↓iC9,simprocAttr,aE,aD];refine hK1 _ ?_;(try clear hK1 K1)
    refine aR ?_;refine aZ ?_;refine aA ?_;refine aC (fun K hK=>?_);simp (disch:=omega) only [push_cast,↓iC9,simprocAttr];refine hK _ ?_;clear hK K
    refine aB ?_;refine aW rfl ?_;refine aN ?_;refine aZ ?_;refine aB ?_;refine aC (fun K hK=>?_);simp (disch:=omega) only [push_cast,↓iC9,simprocAttr];refine hK _ ?_;clear hK K
    refine aB ?_;exact ⟨i + 1,by simp only [zZ,zR,zP,zQ,zN,zS,zM,zX,zU,Nat.reduceEqDiff,reduceIte];rw [hnx];rfl,by rw [hnx];try rfl,hil,by omega⟩
   ·refine bA rfl (fun h=>by simp [hk1] at h) (fun _=>?_)
    rw [if_neg hk1] at hnx;refine aA ?_
    have cg:=zPr old p ro (by omega)
    obtain ⟨m,hm⟩:∃ m,bP old p=m:=⟨_,rfl⟩;rw [hm] at cg hnx hkf;obtain ⟨km,dm⟩:=m
    cases hb:decide (km=k∧dm=dt) with
   |true =>
     obtain ⟨b1,b2⟩:=of_decide_eq_true hb;rw [if_pos (by rw [b1,b2])] at hnx
     refine mL ?_;refine pU 7 mixed (by kernel_rfl) (fun K hK K1 hK1=>?_);simp (disch:=omega) only [push_cast,↓iC9,simprocAttr,hb]
     refine qRb zNj cg (.cons (iE (yT _)) (.cons (.v _) .nil)) ?_;with_reducible refine aU ?_;simp (disch:=omega) only [push_cast,↓iC9,simprocAttr,hb]
     refine ⟨_,eqN _ _ _ _,?_⟩;with_reducible refine aU ?_;simp (disch:=omega) only [push_cast,↓iC9,simprocAttr,hb]
     refine hK1 _ ?_;(try clear hK1 K1);with_reducible refine aU ?_;simp (disch:=omega) only [push_cast,↓iC9,simprocAttr,hb]
     refine hK _ ?_;clear hK K;refine aB ?_;refine aW rfl ?_;refine aN ?_;refine aZ ?_;refine aA ?_;refine aC (fun K hK=>?_);simp (disch:=omega) only [push_cast,↓iC9,simprocAttr];refine hK _ ?_;clear hK K
     refine aB ?_;refine aW rfl ?_;refine aN ?_;refine aZ ?_;refine aB ?_;refine aC (fun K hK=>?_);simp (disch:=omega) only [push_cast,↓iC9,simprocAttr];refine hK _ ?_;clear hK K
     refine aB ?_;exact ⟨i + 1,by simp only [zZ,zR,zP,zQ,zN,zS,zM,zX,zU,Nat.reduceEqDiff,reduceIte];rw [hnx];rfl,by rw [hnx];try rfl,hil,by omega⟩
   |false =>
     have hne:(km,dm)≠(k,dt):=fun hh=>of_decide_eq_false hb ⟨congrArg Prod.fst hh,congrArg Prod.snd hh⟩
     obtain ⟨⟨ok,hlen⟩,hw0,⟨ok1,hlen1⟩,hs0⟩:=hkf hk1 hne;rw [if_neg hne] at hnx
     have cwr:=qSk C _ ok hBB (inn v p) r1 r2 hsz dt (by omega)
     have csy:=zP3 (cW C (inn v p) dt).2 _ ok1 hBB (inn v p) r1 r2 hsz
     rw [hw0] at cwr;rw [hs0] at csy;obtain ⟨C1,hC1⟩:∃ C1,(cW C (inn v p) dt).2=C1:=⟨_,rfl⟩;rw [hC1] at cwr csy hnx;simp only [cells,cJ] at cwr csy;refine mL ?_;refine pU 7 mixed (by kernel_rfl) (fun K hK K1 hK1=>?_);simp (disch:=omega) only [push_cast,↓iC9,simprocAttr,hb]
     refine qRb zNj cg (.cons (iE (yT _)) (.cons (.v _) .nil)) ?_;with_reducible refine aU ?_;simp (disch:=omega) only [push_cast,↓iC9,simprocAttr,hb]
     refine ⟨_,eqN _ _ _ _,?_⟩;with_reducible refine aU ?_;simp (disch:=omega) only [push_cast,↓iC9,simprocAttr,hb]
     refine hK1 _ ?_;(try clear hK1 K1);with_reducible refine aU ?_;simp (disch:=omega) only [push_cast,↓iC9,simprocAttr,hb]
     refine hK _ ?_;clear hK K;refine aB ?_;refine bX rfl ?_;refine bC [3,4,5,6,7,8,47,48,49,13,14] [0,24,32,40,48,104] (by simp only [zZ,zR,zP,zQ,zN,zS,zM,zX,zU,Nat.reduceEqDiff,reduceIte];exact rfl) ?_
     refine aA ?_;refine aX ?_;refine aG 5 (fun K1 hK1=>?_);simp (disch:=omega) only [push_cast,↓iC9,simprocAttr];refine hK1 _ ?_;(try clear hK1 K1)
     refine nE ([]) ([.map r1 kS C.n (tab Itm.val C.L),.map r2 kS C.m (tab gM C.R)]) ([.dfr Dd]) rfl 632 [0] zQ5 (cwr) rfl rfl rfl rfl (by simp only [push_cast,simprocAttr];exact rfl) (by decide) (by decide) (by decide) (by simp only [push_cast,simprocAttr];try rfl) (by simp only [push_cast,simprocAttr];try rfl) ?_
     rintro _ _ _ ⟨rfl,rfl,rfl⟩;refine aG 1 (fun K1 hK1=>?_);simp (disch:=omega) only [push_cast,↓iC9,simprocAttr,aE,aD];refine hK1 _ ?_;(try clear hK1 K1)
     refine aR ?_;refine aA ?_;refine aC (fun K hK=>?_);simp (disch:=omega) only [push_cast,↓iC9,simprocAttr];refine hK _ ?_;clear hK K
     refine aB ?_;refine bX rfl ?_;refine aX ?_;refine aG 2 (fun K1 hK1=>?_);simp (disch:=omega) only [push_cast,↓iC9,simprocAttr];refine hK1 _ ?_;(try clear hK1 K1)
     refine nE ([]) ([.map r1 kS C1.n (tab Itm.val C1.L),.map r2 kS C1.m (tab gM C1.R)]) ([.dfr Dd]) rfl 672 [0] zUl (csy) rfl rfl rfl rfl (by simp only [push_cast,simprocAttr];exact rfl) (by decide) (by decide) (by decide) (by simp only [push_cast,simprocAttr];try rfl) (by simp only [push_cast,simprocAttr];try rfl) ?_
     rintro _ _ _ ⟨rfl,rfl,rfl⟩;refine aG 1 (fun K1 hK1=>?_);simp (disch:=omega) only [push_cast,↓iC9,simprocAttr,aE,aD];refine hK1 _ ?_;(try clear hK1 K1)
     refine aR ?_;refine aZ ?_;refine aA ?_;refine aC (fun K hK=>?_);simp (disch:=omega) only [push_cast,↓iC9,simprocAttr];refine hK _ ?_;clear hK K
     refine aB ?_;refine aW rfl ?_;refine aN ?_;refine aZ ?_;refine aB ?_;refine aC (fun K hK=>?_);simp (disch:=omega) only [push_cast,↓iC9,simprocAttr];refine hK _ ?_;clear hK K
     refine aB ?_;exact ⟨i + 1,by simp only [zZ,zR,zP,zQ,zN,zS,zM,zX,zU,Nat.reduceEqDiff,reduceIte];rw [hnx];rfl,by rw [hnx];try rfl,hil,by omega⟩
  ·have hie:i=t.length:=by omega
   rw [hie,List.take_length];refine aA ?_;refine aC (fun K hK=>?_);simp (disch:=omega) only [push_cast,↓iC9,simprocAttr];refine hK _ ?_;clear hK K
   refine aA ?_;refine aW rfl ?_;refine gA ?_;refine cY ?_;refine cY ?_;refine fW ?_;refine aA ?_;refine aC (fun K hK=>?_);simp (disch:=omega) only [push_cast,↓iC9,simprocAttr];refine hK _ ?_;clear hK K
   refine aB ?_;refine bB ?_;refine ⟨.inr rfl,_,rfl,?_⟩;change kU Tryz.prog _ [ResultVar.cell 6 33] _;simp (disch:=omega) only [dR,fL,yH,yE,aL,aV,yK,yJ,aS,push_cast,↓iC9,Nat.reduceBEq,Nat.reduceAdd,Nat.reduceLT,Nat.reduceEqDiff,reduceIte,reduceCtorEq,Nat.reduceLeDiff,Nat.reduceSub,List.reduceReplicate,Nat.reduceMul,Int.reduceToNat,Int.toNat_natCast,Nat.reducePow,reduceIte];refine cE [0] [] (by first|rfl|simp [bsL,MO.bs]) (by decide) (by decide) (by simp only [push_cast,simprocAttr]) (by simp only [push_cast,simprocAttr]) (by simp only [push_cast,simprocAttr];rfl) (by simp only [push_cast,simprocAttr];rfl) ?_
   exact ⟨rfl,rfl,rfl⟩
end Go.Proofs.YtlihpgmgiehjkaaGreatDoor
