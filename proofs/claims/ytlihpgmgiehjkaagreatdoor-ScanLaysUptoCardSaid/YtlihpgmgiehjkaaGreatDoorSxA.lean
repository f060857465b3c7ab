/-
  The law ScanLays: the walk.
-/
import Derived.Test.YtlihpgmgiehjkaaGreatDoorRdd
import Derived.Test.YtlihpgmgiehjkaaGreatDoorRsz
import Derived.Test.YtlihpgmgiehjkaaGreatDoorTrW
set_option linter.unusedSimpArgs false
set_option linter.unusedVariables false
set_option maxRecDepth 20000
namespace Go.Proofs.YtlihpgmgiehjkaaGreatDoor
open Go Go.Eng Go.RowKit Go.Maps Go.Tr Go.Dk Go.Sw
theorem zF5 {d:Dk} {D:Int→ByteArray} (hf:Fine d D) (v:ByteArray) (hv:v.size≤1048576) (hE:gP d v=0) (r1 r2:Nat) :
  HFunM Tryz.prog 11 [.ptr 0 6 0 0,.v (.string v),.v (.slice none 0 0)] [(0,.bx false 64 (d.cells r1 r2))] (d.maps kS r1 r2)
   (fun h st g=>g=d.maps kS r1 r2∧h=.tup [.own 1,.own 2,.v (.int .i64 (zC5 (jE d v) [])),.v (.int .i64 0)]∧st=[(0,.bx false 64 (d.cells r1 r2)),(1,.sl true 54 3 (bR (pX d v))),(2,.sl true 83 4 (kL (jE d v)))]):=by
 have h0:=zAi hf v hv [] false (fun x hx=>by simp at hx) (by decide) (fun s hs=>by simp at hs) r1 r2
 simp only [hE,if_true] at h0;rw [show kL []=[] from rfl] at h0
 refine qSj (args':=[.ptr 0 6 0 0,.v (.string v),.lst false []]) rfl (fun i a b=>?_) h0
 match i,a with
|0,_=>exact .inr rfl
|1,_=>exact .inr rfl
|2,_=>exact .inl ⟨rfl,rfl⟩
theorem qXc (a:List Ent) {b:List Ent} {i:Nat} (h:i < b.length):pJ a (b.take (i + 1))=pJ a (b.take i) + if qR1 a b[i]=true then 1 else 0:=by
 unfold pJ;rw [List.take_succ_eq_append_getElem h,List.countP_append]
 cases hb:qR1 a b[i] <;> simp [hb]
theorem qRz (a b:List Ent):pJ a b≤b.length:=List.countP_le_length
set_option maxHeartbeats 32000000 in
theorem qYs (a b:List Ent) (hal:a.length≤1048576) (hbl:b.length≤1048576) (has:∀ e ∈ a,e.1.size≤1048576) (hbs:∀ e ∈ b,e.1.size≤1048576) (loss:Int):HFun Tryz.prog 4 [.lst false (bR a),.lst false (bR b),.v (.int .i64 loss)] (fun h st=>h=.v (.bool true)):=by
 refine jP (N:=160) Tryz.func4 rfl Tryz.ntmps4 Tryz.results4 (by simp) ?_
 refine zLt ?_
 have ca:=qUq a (by omega) has
 have cb:=qUq b (by omega) hbs
 refine aA ?_;refine aC (fun K hK=>?_);simp (disch:=omega) only [push_cast,↓iC9,simprocAttr];refine hK _ ?_;clear hK K
 cases hA:decide (xS a=0) with
|false =>
  refine aA ?_;refine aA ?_;refine aC (fun K hK=>?_);simp (disch:=omega) only [push_cast,↓iC9,simprocAttr]
  refine dJ cl7 vN .nil ?_;with_reducible refine aU ?_;simp (disch:=omega) only [push_cast,↓iC9,simprocAttr,hA]
  refine dJ zLg ca (.cons (iE (yT _)) .nil) ?_;with_reducible refine aU ?_;simp (disch:=omega) only [push_cast,↓iC9,simprocAttr,hA]
  refine hK _ ?_;clear hK K;refine aB ?_;refine bX rfl ?_;refine aA ?_;refine aC (fun K hK=>?_);simp (disch:=omega) only [push_cast,↓iC9,simprocAttr]
  refine dJ cl7 vN .nil ?_;with_reducible refine aU ?_;simp (disch:=omega) only [push_cast,↓iC9,simprocAttr]
  refine hK _ ?_;clear hK K;refine aB ?_;refine bB ?_;refine cH ?_;simp only [yA,yM,yH,yE,aL,aV,yK,yJ,zS,zM,Nat.reduceEqDiff,reduceIte,reduceCtorEq];exact bQ rfl
|true =>
 cases hB:decide (xS b=0) with
|false =>
  refine aA ?_;refine aA ?_;refine aC (fun K hK=>?_);simp (disch:=omega) only [push_cast,↓iC9,simprocAttr]
  refine dJ cl7 vN .nil ?_;with_reducible refine aU ?_;simp (disch:=omega) only [push_cast,↓iC9,simprocAttr,hA]
  refine dJ zLg ca (.cons (iE (yT _)) .nil) ?_;with_reducible refine aU ?_;simp (disch:=omega) only [push_cast,↓iC9,simprocAttr,hA,hB]
  refine dJ zLg cb (.cons (iE (yT _)) .nil) ?_;with_reducible refine aU ?_;simp (disch:=omega) only [push_cast,↓iC9,simprocAttr,hA,hB]
  refine hK _ ?_;clear hK K;refine aB ?_;refine bX rfl ?_;refine aA ?_;refine aC (fun K hK=>?_);simp (disch:=omega) only [push_cast,↓iC9,simprocAttr]
  refine dJ cl7 vN .nil ?_;with_reducible refine aU ?_;simp (disch:=omega) only [push_cast,↓iC9,simprocAttr]
  refine hK _ ?_;clear hK K;refine aB ?_;refine bB ?_;refine cH ?_;simp only [yA,yM,yH,yE,aL,aV,yK,yJ,zS,zM,Nat.reduceEqDiff,reduceIte,reduceCtorEq];exact bQ rfl
|true =>
 refine aA ?_;refine aA ?_;refine aC (fun K hK=>?_);simp (disch:=omega) only [push_cast,↓iC9,simprocAttr]
 refine dJ cl7 vN .nil ?_;with_reducible refine aU ?_;simp (disch:=omega) only [push_cast,↓iC9,simprocAttr,hA]
 refine dJ zLg ca (.cons (iE (yT _)) .nil) ?_;with_reducible refine aU ?_;simp (disch:=omega) only [push_cast,↓iC9,simprocAttr,hA,hB]
 refine dJ zLg cb (.cons (iE (yT _)) .nil) ?_;with_reducible refine aU ?_;simp (disch:=omega) only [push_cast,↓iC9,simprocAttr,hA,hB]
 refine hK _ ?_;clear hK K;refine aB ?_;refine aW rfl ?_;refine aN ?_;refine aA ?_
 have ha:Tree a:=(qT1 a).1 (of_decide_eq_true hA)
 have hb:Tree b:=(qT1 b).1 (of_decide_eq_true hB)
 clear hA hB ca cb has hbs;refine bC [0,1,2] [] (by simp only [zZ,zR,zP,zQ,zN,zS,zM,zX,zU,Nat.reduceEqDiff,reduceIte];exact rfl) ?_
 refine aC (fun K hK=>?_);simp (disch:=omega) only [push_cast,↓iC9,simprocAttr]
 refine hat 296 zUu (zMg b hbl) (.cons (iE (yT _)) .nil) ?_;rintro _ _ ⟨rfl,rfl⟩;with_reducible refine aU ?_;simp (disch:=omega) only [push_cast,↓iC9,simprocAttr]
 refine hK _ ?_;clear hK K;refine bC [0,1,2,7] [296] (by simp only [zZ,zR,zP,zQ,zN,zS,zM,zX,zU,Nat.reduceEqDiff,reduceIte];exact rfl) ?_
 obtain ⟨-,-,-,hub1,D1,sy1⟩:=zBf ha
 have clay:=zQi a ha false
 obtain ⟨d1,hd1⟩:∃ d1,wK scH [] a dL3=d1:=⟨_,rfl⟩;rw [hd1] at hub1 sy1 clay;clear hd1
 have hla:=ha.len
 have hlb:=hb.len
 obtain ⟨-,hub2,hp2,D2,sy2,hDD⟩:=hub1.lay ha hb sy1 (by decide) (by decide)
 have clL:=fun r1 r2=>zQh hub1 ha hb sy1 (by decide) (by decide) r1 r2
 obtain ⟨d2,hd2⟩:∃ d2,wK scH a b d1=d2:=⟨_,rfl⟩;rw [hd2] at hub2 hp2 sy2 clL
 have hrd:=zGi hub1 ha hb sy1 hub2 hp2
 have hub2:Hub d2 b 403 1003:=⟨hub2.calm,hub2.sz.mono (Nat.le_refl _) (by omega) (by omega),hub2.vol,hub2.out⟩
 have fine1:=hub1.fine (by decide) (by decide) sy1
 have fine2:=hub2.fine (by decide) (by decide) sy2
 obtain ⟨hok1,hok2,hok3⟩:=zF3 fine1 qY3;obtain ⟨cm3,sz3,vol3,⟨D3,sy3⟩,has3⟩:=hub2.loss hb sy2 loss
 have crs:=fun r1 r2=>zD1 d2 _ fine2.ok (by decide) (hub2.sz.lo (by decide)) fine2.len loss r1 r2
 obtain ⟨d3,hd3⟩:∃ d3,restart d2 loss=d3:=⟨_,rfl⟩;rw [hd3] at cm3 sz3 vol3 sy3 has3
 have fine3:Fine d3 D3:=⟨sz3.ok cm3 (by decide) (by decide) (by decide),sy3,Nat.le_trans sz3.len (by decide)⟩
 have E3:gP d3 scH=0:=by
  unfold gP;rw [zAt,cm3.down,mE.2 ⟨kB,vol3.top,rfl⟩];rfl
 have ref3:pX d3 scH=b:=vol3.ref hb cm3.rise qY3
 have use3:=zL2 vol3 hb cm3.rise
 have lst3:(eY d3 lyW).length=1:=zHk cm3.rise fun q hq=>by rw [has3 q,hub2.out q hq]
 refine aA ?_;refine aX ?_;refine aG 1 (fun K1 hK1=>?_);simp (disch:=omega) only [push_cast,↓iC9,simprocAttr];refine hK1 _ ?_;(try clear hK1 K1)
 refine bN 312 [] zUt (clay) rfl rfl rfl rfl (by simp only [push_cast,simprocAttr];exact rfl) (by decide) (by decide) (by decide) (by simp only [push_cast,simprocAttr];try rfl) (by simp only [push_cast,simprocAttr];try rfl) ?_
 rintro _ _ _ ⟨r1,r2,rfl,rfl,rfl⟩
 have cw1:=qG2 fine1 scH (by decide) r1 r2
 have cs1:=zF5 fine1 scH (by decide) hub1.E r1 r2
 have clL:=clL r1 r2
 have cs2:=zAi fine2 scH (by decide) (jE d1 scH) true hok1 (by omega) (fun s hs hk=>by
  obtain ⟨p,q⟩:=hok3 s hs hk;rw [hDD _ q];exact p) r1 r2
 have crs:=crs r1 r2
 rw [hd3] at crs
 have cw3:=qG2 fine3 scH (by decide) r1 r2
 have cu3:=zFp d3 _ fine3.ok (by decide) scH r1 r2
 have cl3:=qY6 d3 _ fine3.ok (by decide) lyW (by decide) (Nat.le_trans fine3.len (by decide)) r1 r2
 rw [hub1.E,hub1.ref ha] at cw1;rw [hub1.ref ha] at cs1;rw [hub2.E,hub2.ref hb,hrd] at cs2;rw [E3,ref3] at cw3;rw [use3] at cu3;simp only [if_true] at cw1 cs2 cw3;simp only [bM] at cw1 cs1 clL cs2 crs cw3 cu3 cl3;refine aG 1 (fun K1 hK1=>?_);simp (disch:=omega) only [push_cast,↓iC9,simprocAttr,aE,aD,bM];refine hK1 _ ?_;(try clear hK1 K1)
 refine aR ?_;refine aA ?_;refine aA ?_;refine aC (fun K hK=>?_);simp (disch:=omega) only [push_cast,↓iC9,simprocAttr];refine hK _ ?_;clear hK K
 refine aB ?_;refine aW rfl ?_;refine aN ?_;refine aA ?_;refine bC [0,1,2,7,8] [296,312] (by simp only [zZ,zR,zP,zQ,zN,zS,zM,zX,zU,Nat.reduceEqDiff,reduceIte];exact rfl) ?_
 refine aX ?_;refine aG 1 (fun K1 hK1=>?_);simp (disch:=omega) only [push_cast,↓iC9,simprocAttr];refine hK1 _ ?_;(try clear hK1 K1)
 refine bN 352 [312] cl9 (cw1) rfl rfl rfl rfl (by simp only [push_cast,simprocAttr];exact rfl) (by decide) (by decide) (by decide) (by simp only [push_cast,simprocAttr];try rfl) (by simp only [push_cast,simprocAttr];try rfl) ?_
 rintro _ _ _ ⟨rfl,rfl,rfl⟩;refine aG 5 (fun K1 hK1=>?_);simp (disch:=omega) only [push_cast,↓iC9,simprocAttr,aE,aD];refine hK1 _ ?_;(try clear hK1 K1)
 refine aR ?_;refine bC [0,1,2,7,8,9,10] [296,312,353] (by simp only [zZ,zR,zP,zQ,zN,zS,zM,zX,zU,Nat.reduceEqDiff,reduceIte];exact rfl) ?_
 refine aA ?_;refine aX ?_;refine aG 1 (fun K1 hK1=>?_);simp (disch:=omega) only [push_cast,↓iC9,simprocAttr];refine hK1 _ ?_;(try clear hK1 K1)
 refine bN 392 [312] zNn (cs1) rfl rfl rfl rfl (by simp only [push_cast,simprocAttr];exact rfl) (by decide) (by decide) (by decide) (by simp only [push_cast,simprocAttr];try rfl) (by simp only [push_cast,simprocAttr];try rfl) ?_
 rintro _ _ _ ⟨rfl,rfl,rfl⟩;refine aG 9 (fun K1 hK1=>?_);simp (disch:=omega) only [push_cast,↓iC9,simprocAttr,aE,aD];refine hK1 _ ?_;(try clear hK1 K1)
 refine aR ?_;refine bC [0,1,2,7,8,9,10,12,14] [296,312,353,394] (by simp only [zZ,zR,zP,zQ,zN,zS,zM,zX,zU,Nat.reduceEqDiff,reduceIte];exact rfl) ?_
 have hlr:a.length≤140737488355328:=by omega
 have hls:b.length≤140737488355328:=by omega
 have sm1:=qSy a a hlr
 rw [decide_eq_true (rfl:a=a)] at sm1
 have sm2:=qSy b b hls
 rw [decide_eq_true (rfl:b=b)] at sm2;refine aA ?_;refine aA ?_;refine aX ?_;refine aG 15 (fun K1 hK1=>?_);simp (disch:=omega) only [push_cast,↓iC9,simprocAttr]
 refine dJ zNm sm1 (.cons (zHn (yT _) rfl) (.cons (iE (yT _)) .nil)) ?_;with_reducible refine aU ?_;simp (disch:=omega) only [push_cast,↓iC9,simprocAttr]
 refine hK1 _ ?_;(try clear hK1 K1);refine zFe (args':=[.ptr 0 6 0 0,.v (.string scH),.lst false (bR b)]) 296 54 3 0 b.length 552 [312] zTh (clL) rfl rfl rfl rfl (by simp only [push_cast,simprocAttr];exact rfl) (by decide) (by decide) (by decide) (by simp only [push_cast,simprocAttr];try rfl) (by simp only [rlk];rfl) (by decide) (by rfl) ?_ ?_ ?_
 ·intro i x y
  match i,x with
 |0,_=>exact .inr (by show HV.ptr 0 6 0 0=HV.ren (pos [312]) (.ptr 312 6 0 0);simp [HV.ren,pos])
 |1,_=>exact .inr (by show HV.v (.string scH)=HV.ren (pos [312]) (.v (.string scH));rw [HV.ren])
 |2,_=>exact .inl ⟨rfl,by rw [qYt];rfl⟩
 ·rintro h' st g ⟨rfl,rfl,-⟩;refine ⟨⟨_,rfl⟩,fun i s hi=>?_⟩
  simp only [rlk] at hi;split at hi
  ·cases hi;exact ⟨false,64,[.map (some r1),.map (some r2),.int .i64 _,.int .i64 _,.int .i64 _,.bool _],rfl⟩
  ·cases hi
 rintro _ _ _ ⟨rfl,rfl,rfl⟩;refine aG 8 (fun K1 hK1=>?_);simp (disch:=omega) only [push_cast,↓iC9,simprocAttr,aE,aD]
 refine zM6 (t:=b) (id:=296) hbl (by exact rfl) (iE (yT _)) ?_
 with_reducible refine aU ?_;simp (disch:=omega) only [push_cast,↓iC9,simprocAttr]
 refine hK1 _ ?_;(try clear hK1 K1);refine aR ?_;refine aB ?_;refine aW rfl ?_;refine aN ?_;refine aA ?_;refine bC [0,1,2,8,12] [312,394] (by simp only [zZ,zR,zP,zQ,zN,zS,zM,zX,zU,Nat.reduceEqDiff,reduceIte];exact rfl) ?_
 refine zFd 394 rfl (by simp only [qCd,xJ,tK,vH,rM,qKv,wU,wV,sY,wT,wS,qC8,wW,wR,qB6,qB7,qB8,Nat.reduceEqDiff,reduceIte,List.map_cons,List.map_nil,List.map_append];exact rfl) ?_
 refine aX ?_;refine aG 2 (fun K1 hK1=>?_);simp (disch:=omega) only [push_cast,↓iC9,simprocAttr];refine hK1 _ ?_;(try clear hK1 K1)
 refine bN 648 [312] zNn (cs2) rfl rfl rfl rfl (by simp only [push_cast,simprocAttr];exact rfl) (by decide) (by decide) (by decide) (by simp only [push_cast,simprocAttr];try rfl) (by simp only [push_cast,simprocAttr];try rfl) ?_
 rintro _ _ _ ⟨rfl,rfl,rfl⟩;refine aG 9 (fun K1 hK1=>?_);simp (disch:=omega) only [push_cast,↓iC9,simprocAttr,aE,aD];refine hK1 _ ?_;(try clear hK1 K1)
 refine aR ?_;refine bC [0,1,2,8,15,17,18] [312,649] (by simp only [zZ,zR,zP,zQ,zN,zS,zM,zX,zU,Nat.reduceEqDiff,reduceIte];exact rfl) ?_
 refine aA ?_;refine aC (fun K hK=>?_);simp (disch:=omega) only [push_cast,↓iC9,simprocAttr];refine hK _ ?_;clear hK K
 refine aA ?_;refine aA ?_;refine aC (fun K hK=>?_);simp (disch:=omega) only [push_cast,↓iC9,simprocAttr];refine hK _ ?_;clear hK K
 refine aB ?_;refine bG ?_
 have hfl:=qRz a b
 refine mK (ι:=Nat) (fun i=>⟨[(0,.lst false (bR a)),(1,.lst false (bR b)),(2,.v (.int .i64 loss)),(8,.ptr 312 6 0 0),(15,.own 649),(17,.v (.int .i64 (pJ a b:Nat))),(18,.v (.int .i64 0)),(19,.v (.int .i64 (pJ a (b.take i):Nat))),(20,.v (.int .i64 (i:Nat)))],
   [(312,.bx true 64 [.v (.map (some r1)),.v (.map (some r2)),.v (.int .i64 d2.steps),.v (.int .i64 d2.stamps),.v (.int .i64 d2.armed),.v (.bool d2.down)]),(649,.sl true 54 3 (bR b))]⟩)
  (fun _=>d2.maps kS r1 r2) (fun i=>i≤b.length) (fun i=>b.length - i) [0,1,2,8,15,17,18,19,20] [312,649] 0 rfl rfl (Nat.zero_le _) ?_
 intro i hi
 by_cases hil:i < b.length
 ·have hft:=qXc a hil
  have hfi:=qRz a (b.take i)
  rw [List.length_take,Nat.min_eq_left hi] at hfi
  have hge:∀ x,(bR b).getD i x=[.v (.string b[i].1),.v (.int .i64 b[i].2.1),.v (.string b[i].2.2)]:=fun x=>yW hil
  obtain ⟨e,he⟩:∃ e,b[i]=e:=⟨_,rfl⟩;rw [he] at hft hge;obtain ⟨p,k,dt⟩:=e;dsimp only at hft hge
  have cg:=zF9 a p (by omega)
  obtain ⟨m,hm⟩:∃ m,bP a p=m:=⟨_,rfl⟩
  have hfb:qR1 a (p,k,dt)=(decide (k=2) && !decide (bP a p=(k,dt))):=rfl
  rw [hfb,hm] at hft;rw [hm] at cg;obtain ⟨km,dm⟩:=m;generalize pJ a (b.take i)=c at *
  refine aA ?_;refine aA ?_;refine aC (fun K hK=>?_);simp (disch:=omega) only [push_cast,↓iC9,simprocAttr,yV];refine hK _ ?_;clear hK K
  refine aB ?_;refine bX rfl ?_;refine aN ?_;refine aA ?_;refine bG ?_;refine aA ?_;refine mL ?_
  cases hk:decide (k=2) with
 |false =>
   rw [hk] at hft;refine pU 22 mixed (by kernel_rfl) (fun K hK K1 hK1=>?_);simp (disch:=omega) only [push_cast,↓iC9,simprocAttr,hk,yV,yU,hge]
   refine hK1 _ ?_;(try clear hK1 K1);with_reducible refine aU ?_;simp (disch:=omega) only [push_cast,↓iC9,simprocAttr,hk]
   refine hK _ ?_;clear hK K;refine aB ?_;refine aW rfl ?_;refine aN ?_;refine aZ ?_;refine aB ?_;refine aC (fun K hK=>?_);simp (disch:=omega) only [push_cast,↓iC9,simprocAttr];refine hK _ ?_;clear hK K
   refine aB ?_;exact ⟨i + 1,by simp only [zZ,zR,zP,zQ,zN,zS,zM,zX,zU,Nat.reduceEqDiff,reduceIte];rw [hft];rfl,rfl,hil,by omega⟩
 |true =>
   rw [hk] at hft
   cases hb2:decide (km=k∧dm=dt) with
  |true =>
    obtain ⟨q1,q2⟩:=of_decide_eq_true hb2;rw [decide_eq_true (show (km,dm)=(k,dt) by rw [q1,q2])] at hft
    refine pU 22 mixed (by kernel_rfl) (fun K hK K1 hK1=>?_);simp (disch:=omega) only [push_cast,↓iC9,simprocAttr,hk,yV,yU,hge]
    refine qRb zNl cg (.cons (iE (yT _)) (.cons (.v _) .nil)) ?_;with_reducible refine aU ?_;simp (disch:=omega) only [push_cast,↓iC9,simprocAttr,hk,hb2,yV,yU,hge]
    refine ⟨_,eqN _ _ _ _,?_⟩;with_reducible refine aU ?_;simp (disch:=omega) only [push_cast,↓iC9,simprocAttr,hb2]
    refine hK1 _ ?_;(try clear hK1 K1);with_reducible refine aU ?_;simp (disch:=omega) only [push_cast,↓iC9,simprocAttr,hk,hb2]
    refine hK _ ?_;clear hK K;refine aB ?_;refine aW rfl ?_;refine aN ?_;refine aZ ?_;refine aB ?_;refine aC (fun K hK=>?_);simp (disch:=omega) only [push_cast,↓iC9,simprocAttr];refine hK _ ?_;clear hK K
    refine aB ?_;exact ⟨i + 1,by simp only [zZ,zR,zP,zQ,zN,zS,zM,zX,zU,Nat.reduceEqDiff,reduceIte];rw [hft];rfl,rfl,hil,by omega⟩
  |false =>
    have hne:(km,dm)≠(k,dt):=fun hh=>of_decide_eq_false hb2 ⟨congrArg Prod.fst hh,congrArg Prod.snd hh⟩
    rw [decide_eq_false hne] at hft;refine pU 22 mixed (by kernel_rfl) (fun K hK K1 hK1=>?_);simp (disch:=omega) only [push_cast,↓iC9,simprocAttr,hk,yV,yU,hge]
    refine qRb zNl cg (.cons (iE (yT _)) (.cons (.v _) .nil)) ?_;with_reducible refine aU ?_;simp (disch:=omega) only [push_cast,↓iC9,simprocAttr,hk,hb2,yV,yU,hge]
    refine ⟨_,eqN _ _ _ _,?_⟩;with_reducible refine aU ?_;simp (disch:=omega) only [push_cast,↓iC9,simprocAttr,hb2]
    refine hK1 _ ?_;(try clear hK1 K1);with_reducible refine aU ?_;simp (disch:=omega) only [push_cast,↓iC9,simprocAttr,hk,hb2]
    refine hK _ ?_;clear hK K;refine aB ?_;refine bX rfl ?_;refine aC (fun K hK=>?_);simp (disch:=omega) only [push_cast,↓iC9,simprocAttr];refine hK _ ?_;clear hK K
    refine aZ ?_;refine aB ?_;refine aC (fun K hK=>?_);simp (disch:=omega) only [push_cast,↓iC9,simprocAttr];refine hK _ ?_;clear hK K
    refine aB ?_;exact ⟨i + 1,by simp only [zZ,zR,zP,zQ,zN,zS,zM,zX,zU,Nat.reduceEqDiff,reduceIte];rw [hft];rfl,rfl,hil,by omega⟩
 ·have hie:i=b.length:=by omega
  rw [hie,List.take_length];refine aA ?_;refine aA ?_;refine aC (fun K hK=>?_);simp (disch:=omega) only [push_cast,↓iC9,simprocAttr,yV];refine hK _ ?_;clear hK K
  refine aB ?_;refine aW rfl ?_;refine gA ?_;refine cY ?_;refine cY ?_;refine fW ?_;refine aA ?_;refine aA ?_;refine bC [0,1,2,8,15,17,18,19] [312,649] (by simp only [zZ,zR,zP,zQ,zN,zS,zM,zX,zU,Nat.reduceEqDiff,reduceIte];exact rfl) ?_
  have hUU:decide (((pJ a b:Nat):Int)=((pJ a b:Nat):Int))=true:=decide_eq_true rfl
  refine aX ?_;refine aG 16 (fun K1 hK1=>?_);simp (disch:=omega) only [push_cast,↓iC9,simprocAttr]
  refine dJ zNm sm2 (.cons (zHn (yT _) rfl) (.cons (iE (yT _)) .nil)) ?_;with_reducible refine aU ?_;simp (disch:=omega) only [push_cast,↓iC9,simprocAttr,hUU]
  refine hK1 _ ?_;(try clear hK1 K1);refine bN 1056 [312] zUr (crs) rfl rfl rfl rfl (by simp only [push_cast,simprocAttr];exact rfl) (by decide) (by decide) (by decide) (by simp only [push_cast,simprocAttr];try rfl) (by simp only [push_cast,simprocAttr];try rfl) ?_
  rintro _ _ _ ⟨rfl,rfl,rfl⟩;refine aG 2 (fun K1 hK1=>?_);simp (disch:=omega) only [push_cast,↓iC9,simprocAttr,aE,aD];refine hK1 _ ?_;(try clear hK1 K1)
  refine aR ?_;refine aB ?_;refine aW rfl ?_;refine aN ?_;refine aA ?_;refine bC [1,8] [312] (by simp only [zZ,zR,zP,zQ,zN,zS,zM,zX,zU,Nat.reduceEqDiff,reduceIte];exact rfl) ?_
  refine aX ?_;refine aG 1 (fun K1 hK1=>?_);simp (disch:=omega) only [push_cast,↓iC9,simprocAttr];refine hK1 _ ?_;(try clear hK1 K1)
  refine bN 1096 [312] cl9 (cw3) rfl rfl rfl rfl (by simp only [push_cast,simprocAttr];exact rfl) (by decide) (by decide) (by decide) (by simp only [push_cast,simprocAttr];try rfl) (by simp only [push_cast,simprocAttr];try rfl) ?_
  rintro _ _ _ ⟨rfl,rfl,rfl⟩;refine aG 5 (fun K1 hK1=>?_);simp (disch:=omega) only [push_cast,↓iC9,simprocAttr,aE,aD];refine hK1 _ ?_;(try clear hK1 K1)
  refine aR ?_;refine bC [1,8,21,22] [312,1097] (by simp only [zZ,zR,zP,zQ,zN,zS,zM,zX,zU,Nat.reduceEqDiff,reduceIte];exact rfl) ?_
  have hSS:decide (((kK b:Nat):Int)=((kK b:Nat):Int))=true:=decide_eq_true rfl
  have csz:=zMd b hbl (fun e he=>Nat.le_trans (qD8 hb e he) (by decide))
  refine aA ?_;refine aX ?_;refine aG 9 (fun K1 hK1=>?_);simp (disch:=omega) only [push_cast,↓iC9,simprocAttr]
  refine dJ zNm sm2 (.cons (zHn (yT _) rfl) (.cons (iE (yT _)) .nil)) ?_;with_reducible refine aU ?_;simp (disch:=omega) only [push_cast,↓iC9,simprocAttr]
  refine hK1 _ ?_;(try clear hK1 K1);refine bN 1192 [312] zTg (cu3) rfl rfl rfl rfl (by simp only [push_cast,simprocAttr];exact rfl) (by decide) (by decide) (by decide) (by simp only [push_cast,simprocAttr];try rfl) (by simp only [push_cast,simprocAttr];try rfl) ?_
  rintro _ _ _ ⟨rfl,rfl,rfl⟩;refine aG 6 (fun K1 hK1=>?_);simp (disch:=omega) only [push_cast,↓iC9,simprocAttr,aE,aD]
  refine dJ zUq csz (.cons (iE (yT _)) .nil) ?_;with_reducible refine aU ?_;simp (disch:=omega) only [push_cast,↓iC9,simprocAttr,hSS]
  refine hK1 _ ?_;(try clear hK1 K1);refine bN 1248 [312] zQ6 (cl3) rfl rfl rfl rfl (by simp only [push_cast,simprocAttr];exact rfl) (by decide) (by decide) (by decide) (by simp only [push_cast,simprocAttr];try rfl) (by simp only [push_cast,simprocAttr];try rfl) ?_
  rintro _ _ _ ⟨rfl,rfl,rfl⟩;refine aG 4 (fun K1 hK1=>?_);simp (disch:=omega) only [push_cast,↓iC9,simprocAttr,aE,aD,cX,lst3];refine hK1 _ ?_;(try clear hK1 K1)
  refine aR ?_;refine aB ?_;refine bB ?_;simp only [yA,yM,yH,yE,aL,aV,yK,yJ,zS,zM,Nat.reduceEqDiff,reduceIte,reduceCtorEq];exact bQ rfl
end Go.Proofs.YtlihpgmgiehjkaaGreatDoor
