/-
  The law ScanPlays, by what comes in.
-/
import Derived.Test.YtlihpgmgiehjkaaGreatDoorMr
import Derived.Test.YtlihpgmgiehjkaaGreatDoorApm
import Derived.Test.YtlihpgmgiehjkaaGreatDoorUps
import Derived.Test.YtlihpgmgiehjkaaGreatDoorAeH
set_option linter.unusedSimpArgs false
set_option linter.unusedVariables false
section
namespace Go.Eng
open Go Go.RowKit
theorem qYx {P:Program} {N:Nat} {x:Code} {Q:kF} {g:MS} {S S':HS} (a b:Nat) {ty sz:Nat} {nw:Bool} {els:List (List FV)} (hab:a≠b) (hb:rlk S.st b=none) (ha:rlk S.st a=some (.sl nw ty sz els)) (hs:S.name a b=S') (h:HWM P N x Q g S'):HWM P N x Q g S:=fun c l w I M=>h c l w (hs ▸ I.name hab hb ha) M
end Go.Eng
end
section
set_option maxRecDepth 20000
namespace Go.Sw
open Go Go.Tr Go.Eng Go.Dk Go.Proofs.YtlihpgmgiehjkaaGreatDoor
structure SnSt (d:Dk) (R:LN) (S i:Nat) (l:List Sn):Prop where
 bd:Bd d S i i
 rel:Rel d R i
 sy:∃ D,Sy d D∧∀ s ∈ l,s.2.2.1=2→D s.2.1=s.2.2.2∧s.2.1≤d.stamps
 sn:∀ s ∈ l,zF0 s
 len:l.length≤1000
theorem qPz {d:Dk} {D:Int→ByteArray} (hf:Fine d D) {v:ByteArray} (hv:v≠{ data:=#[] }) {s:Sn} (h:s ∈ gX d v):∃ q x,aS d.L q=some x∧s=(cV v q,x.stamp,lD x):=by
 rw [gX,List.mem_map] at h;obtain ⟨e,he,rfl⟩:=h;rw [mJ,List.mem_map] at he;obtain ⟨y,hy,rfl⟩:=he;obtain ⟨y1,y2⟩:=List.mem_filter.1 hy;obtain ⟨a1,a2⟩:=nB.1 y2
 have hx:=dX hf.ok.rise (show (y.1,y.2) ∈ d.L from y1)
 refine ⟨y.1,y.2,hx,?_⟩;unfold vT;dsimp only;rw [← qKy a1 a2 hv,cH,aP,hx];rfl
theorem zGs {d:Dk} {D:Int→ByteArray} (hf:Fine d D) {v:ByteArray} (hv:v≠{ data:=#[] }):(∀ s ∈ gX d v,zF0 s)∧(gX d v).length≤1000∧∀ s ∈ gX d v,s.2.2.1=2→D s.2.1=s.2.2.2∧s.2.1≤d.stamps:=by
 refine ⟨fun s hs=>?_,?_,fun s hs hk=>?_⟩
 ·obtain ⟨q,x,hx,rfl⟩:=qPz hf hv hs
  have h1:=hf.st _ (cP hx)
  refine ⟨Nat.le_trans (qKw _ _) (hf.ok.keys _ (cP hx)),?_⟩;simp only [Lit.wf,Bool.and_eq_true,decide_eq_true_eq];rw [show IntKind.i64.min=-9223372036854775808 from rfl,show IntKind.i64.max=9223372036854775807 from rfl]
  dsimp only at h1 ⊢;omega
 ·rw [qP0];exact Nat.le_trans (qC1 d v) hf.len
 ·obtain ⟨q,x,hx,rfl⟩:=qPz hf hv hs;refine ⟨?_,(hf.sy.st q x hx).2⟩
  have hd:x.dir=false:=by
   cases hd:x.dir with
  |false=>rfl
  |true=>simp only [lD,hd,if_true] at hk;cases hk
  rw [hf.sy.kn q x hx hd];simp [lD,hd]
end Go.Sw
namespace Go.Proofs.YtlihpgmgiehjkaaGreatDoor
open Go Go.Eng Go.RowKit Go.Maps Go.Tr Go.Dk Go.Sw
set_option maxHeartbeats 32000000 in
theorem qVk (l:List Stp) (hl:∀ x ∈ l,x.Ok) (hsum:tD l≤1048576) (v:ByteArray) (hv:v.size≤1048576):HFun Tryz.prog 3 [.lst false (vZ l),.v (.string v)] (fun h st=>h=.v (.bool true)):=by
 refine iD (N:=118) Tryz.func3 rfl Tryz.ntmps3 Tryz.results3 (by simp) ?_
 refine zMe ?_;refine aA ?_;refine aC (fun K hK=>?_);simp (disch:=omega) only [push_cast,↓iC9,simprocAttr];refine hK _ ?_;clear hK K
 refine aA ?_;refine bD ?_;refine bT 136 [] cl5 (zPk) rfl rfl rfl rfl (by simp only [push_cast,simprocAttr];exact rfl) (by decide) (by decide) (by decide) (by simp only [push_cast,simprocAttr];try rfl) (by simp only [push_cast,simprocAttr];try rfl) ?_
 rintro _ _ _ ⟨r1,r2,rfl,rfl,rfl⟩;refine aG 3 (fun K1 hK1=>?_);simp (disch:=omega) only [push_cast,↓iC9,simprocAttr,aE,aD,bM]
 refine gW 144 [] cl6 (zP7) rfl (by decide) (by decide) (by simp only [push_cast,simprocAttr];try rfl) (by simp only [push_cast,simprocAttr];try rfl) ?_
 rintro _ _ ⟨rfl,rfl⟩;refine aM ?_;simp (disch:=omega) only [push_cast,↓iC9,simprocAttr,iX];refine hK1 _ ?_;(try clear hK1 K1);refine aV ?_;refine aA ?_;refine aA ?_;refine aC (fun K hK=>?_);simp (disch:=omega) only [push_cast,↓iC9,simprocAttr]
 refine cK cl7 zGw .nil ?_;with_reducible refine aM ?_;simp (disch:=omega) only [push_cast,↓iC9,simprocAttr]
 refine hK _ ?_;clear hK K;refine aB ?_;refine bA rfl ?_;refine aT ?_;refine aA ?_;refine aX [0,1,5,6] [136,144,145] (by simp only [zZ,zR,zP,zQ,zN,zS,zM,zX,zU,Nat.reduceEqDiff,reduceIte];exact rfl) ?_
 refine aC (fun K hK=>?_);simp (disch:=omega) only [push_cast,↓iC9,simprocAttr];refine hK _ ?_;clear hK K
 refine aA ?_;refine aA ?_;refine aC (fun K hK=>?_);simp (disch:=omega) only [push_cast,↓iC9,simprocAttr];refine hK _ ?_;clear hK K
 refine qN7 7 9000 83 4 rfl (by simp only [lK,pH,pK,fC,dV,eV,dS,iS,eZ,fA,eY,eX,gC,fB,eW,dU,fW,fY,fX,iR,jB,gU,Nat.reduceBEq,Nat.reduceEqDiff,reduceIte,cond_true,cond_false,List.map_cons,List.map_nil];exact rfl) ?_
 refine qS1 9000 rfl (by simp only [oK,lX,jQ,lJ,jH,vF,lP,lQ,jN,lN,lM,oQ,lR,lL,oF,oG,oH,Nat.reduceEqDiff,reduceIte,List.map_cons,List.map_nil,List.map_append];exact rfl) ?_
 refine bL ?_;rw [show ([]:List (List FV))=dY [] from rfl]
 refine qF (ι:=Nat × (Dk × LN × Bool × Bool) × List Sn) (fun q=>⟨[(0,.lst false (vZ l)),(1,.v (.string v)),(5,.ptr 136 6 0 0),(6,.ptr 144 6 0 0),(7,.lst true (dY q.2.2)),(8,.v (.int .i64 (q.1:Int)))],
   [(136,.bx true 64 [.v (.map (some r1)),.v (.map (some r2)),.v (.int .i64 q.2.1.1.steps),.v (.int .i64 q.2.1.1.stamps),.v (.int .i64 q.2.1.1.armed),.v (.bool q.2.1.1.down)]),(144,.bx true 68 [.lst q.2.1.2.2.1 (fT q.2.1.1.L),.own 145,.v (.int .i64 q.2.1.1.steps),.v (.int .i64 q.2.1.1.stamps),.v (.int .i64 q.2.1.1.armed),.v (.bool q.2.1.1.down)]),(145,.sl q.2.1.2.2.2 126 2 (rms q.2.1.2.1))]⟩)
  (fun q=>q.2.1.1.maps kS r1 r2) (fun q=>q.1≤l.length∧q.1≤80∧SnSt q.2.1.1 q.2.1.2.1 (tD (l.take q.1)) q.1 q.2.2) (fun q=>l.length - q.1) [0,1,5,6,7,8] [136,144,145] (0,(Dk.new,[],true,true),[]) rfl rfl
  ⟨Nat.zero_le _,Nat.zero_le _,⟨Bd.new,⟨fun _=>rfl,List.nodup_nil,Nat.le_refl _⟩,⟨_,zGj,fun s hs=>by simp at hs⟩,fun s hs=>by simp at hs,Nat.zero_le _⟩⟩ ?_
 rintro ⟨i,⟨d0,R0,fr0,nw0⟩,sn⟩ ⟨hil,hi2,hD⟩;dsimp only at hil hi2 hD ⊢
 have hsq:=zAz l i
 by_cases hc:i < l.length∧i < 80
 ·obtain ⟨h1,h2⟩:=hc;obtain ⟨s1,s2,s3,s4⟩:=hl _ (List.getElem_mem h1)
  have hst:=zD3 h1
  have hsq2:=zAz l (i + 1)
  have hS:tD (l.take i)≤1048576:=by omega
  have hS2:tD (l.take (i + 1))≤1048576:=by omega
  have ok:=hD.bd.ok hS (by omega) (by omega)
  have lo:=hD.bd.lo hS
  have rok:=hD.bd.rok hS (by omega) (by omega) hD.rel (by omega)
  have hlen:d0.L.length≤1000:=by have:=hD.bd.len;omega
  have ct:=zNg d0 R0 fr0 nw0 1073741824 ok (Int.le_refl _) rok lo hlen l[i].k l[i].P l[i].Q l[i].N s1 s2 s3 s4 r1 r2
  have hB2:=hD.bd.call (by omega) (kT l[i].k) s1 s2 l[i].N s4
  rw [← hst] at hB2;obtain ⟨D0,sy0,hsn0⟩:=hD.sy;obtain ⟨D,sy,hDD,hss⟩:=qAe sy0 ok.stamps.1 l[i].k l[i].P l[i].Q l[i].N;obtain ⟨d,hd⟩:∃ d,vX d0 (kT l[i].k) l[i].P l[i].Q l[i].N=d:=⟨_,rfl⟩;rw [hd] at ct hB2 sy hss
  have ok2:=hB2.ok hS2 (by omega) (by omega)
  have hf:Fine d D:=⟨ok2,sy,by have:=hB2.len;omega⟩
  have hsn:∀ s ∈ sn,s.2.2.1=2→D s.2.1=s.2.2.2∧s.2.1≤d.stamps:=fun s hs hk=>by
   obtain ⟨a,b⟩:=hsn0 s hs hk;exact ⟨by rw [hDD _ b];exact a,by omega⟩
  simp only [bM,rcj] at ct;refine aA ?_;refine aA ?_;refine aC (fun K hK=>?_);simp (disch:=omega) only [push_cast,↓iC9,simprocAttr,qCh];refine hK _ ?_;clear hK K
  refine aB ?_;refine bW rfl ?_;refine aT ?_;refine aA ?_;refine bL ?_;refine aA ?_;refine aA ?_;refine bD ?_;refine aG 6 (fun K1 hK1=>?_);simp (disch:=omega) only [push_cast,↓iC9,simprocAttr,qCh,zGm,zGn h1];refine hK1 _ ?_;(try clear hK1 K1)
  refine bT 328 [136,144,145] cl8 (ct) rfl rfl rfl rfl (by simp only [push_cast,simprocAttr];exact rfl) (by decide) (by decide) (by decide) (by simp only [push_cast,simprocAttr];try rfl) (by simp only [push_cast,simprocAttr];try rfl) ?_
  rintro _ _ _ ⟨rfl,R,fr,nw,hR,rfl,rfl⟩;refine aG 1 (fun K1 hK1=>?_);simp (disch:=omega) only [push_cast,↓iC9,simprocAttr,aE,aD];refine hK1 _ ?_;(try clear hK1 K1)
  refine aV ?_;refine aB ?_;refine bA rfl ?_;refine aT ?_;refine aA ?_;refine aA ?_
  have hRel:Rel d R (i + 1):=⟨hR.look,hR.nod,by have:=hR.rl;have:=hD.rel.rl;omega⟩
  refine aX [0,1,5,6,7,8] [136,144,145] (by simp only [zZ,zR,zP,zQ,zN,zS,zM,zX,zU,Nat.reduceEqDiff,reduceIte];exact rfl) ?_
  have hNext:SnSt d R (tD (l.take (i + 1))) (i + 1) sn:=⟨hB2,hRel,⟨D,sy,hsn⟩,hD.sn,hD.len⟩
  obtain ⟨m3,hm3⟩:∃ m3:Nat,m3=i % 3:=⟨_,rfl⟩
  have e3:Int.tmod (i:Int) 3=(m3:Int):=by rw [Int.tmod_eq_emod_of_nonneg (by omega)];omega
  refine aC (fun K hK=>?_);simp (disch:=omega) only [push_cast,↓iC9,simprocAttr,e3];(repeat refine ⟨by first|omega|decide|((repeat' apply And.intro) <;> first|omega|decide),?_⟩);refine hK _ ?_;clear hK K
  refine aB ?_
  by_cases hm1:m3=1
  ·refine bC rfl (fun _=>?_) (fun h=>by simp [hm1] at h)
   refine fR ?_;refine cW ?_;refine fN ?_;refine aB ?_;refine aC (fun K hK=>?_);simp (disch:=omega) only [push_cast,↓iC9,simprocAttr];refine hK _ ?_;clear hK K
   refine aB ?_;exact ⟨(i + 1,(d,R,fr,nw),sn),rfl,rfl,⟨h1,h2,hNext⟩,by show l.length - (i + 1) < l.length - i;omega⟩
  refine bC rfl (fun h=>by simp at h;omega) (fun _=>?_)
  refine aT ?_;refine aA ?_;refine aX [0,1,5,6,7,8] [136,144,145] (by simp only [zZ,zR,zP,zQ,zN,zS,zM,zX,zU,Nat.reduceEqDiff,reduceIte];exact rfl) ?_
  have cw:=zAo hf v hv r1 r2
  have cs:=zMs hf v hv sn true hD.sn (by have:=hD.len;omega) (fun s hs hk=>(hsn s hs hk).1) r1 r2
  have crw:=zA3 d R v hv (by have:=hf.len;omega) ok2.keys
  have hlenR:=qC1 d v
  have hlen2:=hf.len
  simp only [bM,cS] at cw cs;simp only [cS]
  by_cases hE:gY d v=0
  ·obtain ⟨hp1,hdn⟩:=qJ9 hE
   have hv0:v≠{ data:=#[] }:=nZ hp1
   obtain ⟨hok1,hok2,hok3⟩:=zGs hf hv0;simp only [hE,if_true] at cw cs crw;refine bD ?_;refine aG 2 (fun K1 hK1=>?_);simp (disch:=omega) only [push_cast,↓iC9,simprocAttr];refine hK1 _ ?_;(try clear hK1 K1)
   refine bT 392 [136] cl9 (cw) rfl rfl rfl rfl (by simp only [push_cast,simprocAttr];exact rfl) (by decide) (by decide) (by decide) (by simp only [push_cast,simprocAttr];try rfl) (by simp only [push_cast,simprocAttr];try rfl) ?_
   rintro _ _ _ ⟨rfl,rfl,rfl⟩;refine aG 5 (fun K1 hK1=>?_);simp (disch:=omega) only [push_cast,↓iC9,simprocAttr,aE,aD];refine hK1 _ ?_;(try clear hK1 K1)
   refine aV ?_;refine aX [0,1,5,6,7,8,9,10] [136,144,145,393] (by simp only [zZ,zR,zP,zQ,zN,zS,zM,zX,zU,Nat.reduceEqDiff,reduceIte];exact rfl) ?_
   refine qYx 393 1000000 (by decide) rfl rfl (by simp only [zBy,zPj,qYf,qSn,qU7,qPq,qLr,wU,wT,qDw,qHy,wV,wS,qAq,qCs,qCu,qCt,Nat.reduceMul,Nat.reduceAdd,Nat.reduceEqDiff,reduceIte,List.map_cons,List.map_nil];exact rfl) ?_
   refine aA ?_;refine aC (fun K hK=>?_);simp (disch:=omega) only [push_cast,↓iC9,simprocAttr]
   refine hat 440 zQ1 crw (.cons (fG rfl rfl) (.cons (.v _) .nil)) ?_;rintro _ _ ⟨rfl,rfl⟩;with_reducible refine aM ?_;simp (disch:=omega) only [push_cast,↓iC9,simprocAttr]
   refine hK _ ?_;clear hK K;refine aX [0,1,5,6,7,8,9,10,11,12] [136,144,145,1000000,440] (by simp only [zZ,zR,zP,zQ,zN,zS,zM,zX,zU,Nat.reduceEqDiff,reduceIte];exact rfl) ?_
   refine aA ?_;refine bD ?_;refine aG 3 (fun K1 hK1=>?_);simp (disch:=omega) only [push_cast,↓iC9,simprocAttr];refine hK1 _ ?_;(try clear hK1 K1)
   refine bT 496 [136] zN1 (cs) rfl rfl rfl rfl (by simp only [push_cast,simprocAttr];exact rfl) (by decide) (by decide) (by decide) (by simp only [push_cast,simprocAttr];try rfl) (by simp only [push_cast,simprocAttr];try rfl) ?_
   rintro _ _ _ ⟨rfl,rfl,rfl⟩;refine aG 9 (fun K1 hK1=>?_);simp (disch:=omega) only [push_cast,↓iC9,simprocAttr,aE,aD];refine hK1 _ ?_;(try clear hK1 K1)
   refine aV ?_;refine aX [0,1,5,6,7,8,9,10,11,12,13,14,15,16] [136,144,145,1000000,440,497,498] (by simp only [zZ,zR,zP,zQ,zN,zS,zM,zX,zU,Nat.reduceEqDiff,reduceIte];exact rfl) ?_
   refine qYx 497 1000001 (by decide) rfl rfl (by simp only [zBy,zPj,qYf,qSn,qU7,qPq,qLr,wU,wT,qDw,qHy,wV,wS,qAq,qCs,qCu,qCt,Nat.reduceMul,Nat.reduceAdd,Nat.reduceEqDiff,reduceIte,List.map_cons,List.map_nil];exact rfl) ?_
   have hlr:(mJ d v).length≤140737488355328:=by omega
   have hsr:(gX d v).length≤140737488355328:=by omega
   have sm1:=zA5 (mJ d v) (mJ d v) hlr
   rw [decide_eq_true (rfl:mJ d v=mJ d v)] at sm1
   have srd:=zG2 d R v hv (by omega) ok2.keys hE false sn (by have:=hD.len;omega)
   have ssn:=zA4 d R v hv (by omega) ok2.keys hE
   have sms:=zG1 (gX d v) (gX d v) false false hsr
   rw [decide_eq_true (rfl:gX d v=gX d v)] at sms
   have hUU:decide (((qEw (gX d v) sn:Nat):Int)=((qEw (gX d v) sn:Nat):Int))=true:=decide_eq_true rfl
   refine aA ?_;refine aA ?_;refine aC (fun K hK=>?_);simp (disch:=omega) only [push_cast,↓iC9,simprocAttr]
   refine cK zN0 sm1 (.cons (qLi (yT _) rfl) (.cons (qLi (yT _) rfl) .nil)) ?_;with_reducible refine aM ?_;simp (disch:=omega) only [push_cast,↓iC9,simprocAttr]
   refine cK zN0 sm1 (.cons (qLi (yT _) rfl) (.cons (qLi (yT _) rfl) .nil)) ?_;with_reducible refine aM ?_;simp (disch:=omega) only [push_cast,↓iC9,simprocAttr]
   refine hK _ ?_;clear hK K;refine aB ?_;refine bA rfl ?_;refine aT ?_;refine aA ?_;refine aA ?_;refine aC (fun K hK=>?_);simp (disch:=omega) only [push_cast,↓iC9,simprocAttr];refine hK _ ?_;clear hK K
   refine aB ?_;refine bA rfl ?_;refine aT ?_;refine aA ?_;refine aA ?_;refine aX [0,1,5,6,7,8,9,13,14,15] [136,144,145,1000000,1000001,498] (by simp only [zZ,zR,zP,zQ,zN,zS,zM,zX,zU,Nat.reduceEqDiff,reduceIte];exact rfl) ?_
   refine aC (fun K hK=>?_);simp (disch:=omega) only [push_cast,↓iC9,simprocAttr]
   refine cK zU1 srd (.cons (fG rfl rfl) (.cons (.v _) (.cons (zPm (qE1 _)) .nil))) ?_;with_reducible refine aM ?_;simp (disch:=omega) only [push_cast,↓iC9,simprocAttr,hUU]
   refine hat 848 zTc ssn (.cons (fG rfl rfl) (.cons (.v _) .nil)) ?_;rintro _ _ ⟨rfl,rfl⟩;with_reducible refine aM ?_;simp (disch:=omega) only [push_cast,↓iC9,simprocAttr]
   refine cK zU0 sms (.cons (qLi (qE1 _) rfl) (.cons (qLi (qE1 _) rfl) .nil)) ?_;with_reducible refine aM ?_;simp (disch:=omega) only [push_cast,↓iC9,simprocAttr]
   refine gW 912 [904,1000000,1000001] zUz (zFz (mJ d v) (mJ d v) true true true (by omega) (by omega)) rfl (by decide) (by decide) (by simp only [push_cast,simprocAttr];try rfl) (by simp only [push_cast,simprocAttr];try rfl) ?_
   rintro _ _ ⟨rfl,rfl⟩;refine aM ?_;simp (disch:=omega) only [push_cast,↓iC9,simprocAttr];refine hK _ ?_;clear hK K;refine aB ?_;refine bA rfl ?_;refine aT ?_;refine aB ?_;refine aX [0,1,5,6,8,14] [136,144,145,498] (by simp only [zZ,zR,zP,zQ,zN,zS,zM,zX,zU,Nat.reduceEqDiff,reduceIte];exact rfl) ?_
   refine aC (fun K hK=>?_);simp (disch:=omega) only [push_cast,↓iC9,simprocAttr];refine hK _ ?_;clear hK K
   refine qS1 498 rfl (by simp only [oK,lX,jQ,lJ,jH,vF,lP,lQ,jN,lN,lM,oQ,lR,lL,oF,oG,oH,Nat.reduceEqDiff,reduceIte,List.map_cons,List.map_nil,List.map_append];exact rfl) ?_
   skip
   refine aC (fun K hK=>?_);simp (disch:=omega) only [push_cast,↓iC9,simprocAttr];refine hK _ ?_;clear hK K
   refine aB ?_;exact ⟨(i + 1,(d,R,fr,nw),gX d v),rfl,rfl,⟨h1,h2,⟨hB2,hRel,⟨D,sy,hok3⟩,hok1,hok2⟩⟩,by show l.length - (i + 1) < l.length - i;omega⟩
  ·simp only [hE,if_false] at cw cs crw;refine bD ?_;refine aG 2 (fun K1 hK1=>?_);simp (disch:=omega) only [push_cast,↓iC9,simprocAttr];refine hK1 _ ?_;(try clear hK1 K1)
   refine bT 392 [136] cl9 (cw) rfl rfl rfl rfl (by simp only [push_cast,simprocAttr];exact rfl) (by decide) (by decide) (by decide) (by simp only [push_cast,simprocAttr];try rfl) (by simp only [push_cast,simprocAttr];try rfl) ?_
   rintro _ _ _ ⟨rfl,rfl,rfl⟩;refine aG 5 (fun K1 hK1=>?_);simp (disch:=omega) only [push_cast,↓iC9,simprocAttr,aE,aD];refine hK1 _ ?_;(try clear hK1 K1)
   refine aV ?_;refine aX [0,1,5,6,7,8,9,10] [136,144,145] (by simp only [zZ,zR,zP,zQ,zN,zS,zM,zX,zU,Nat.reduceEqDiff,reduceIte];exact rfl) ?_
   refine aA ?_;refine aC (fun K hK=>?_);simp (disch:=omega) only [push_cast,↓iC9,simprocAttr]
   refine hat 440 zQ1 crw (.cons (fG rfl rfl) (.cons (.v _) .nil)) ?_;rintro _ _ ⟨rfl,rfl⟩;with_reducible refine aM ?_;simp (disch:=omega) only [push_cast,↓iC9,simprocAttr]
   refine hK _ ?_;clear hK K;refine aX [0,1,5,6,7,8,9,10,11,12] [136,144,145] (by simp only [zZ,zR,zP,zQ,zN,zS,zM,zX,zU,Nat.reduceEqDiff,reduceIte];exact rfl) ?_
   refine aA ?_;refine bD ?_;refine aG 3 (fun K1 hK1=>?_);simp (disch:=omega) only [push_cast,↓iC9,simprocAttr];refine hK1 _ ?_;(try clear hK1 K1)
   refine bT 496 [136] zN1 (cs) rfl rfl rfl rfl (by simp only [push_cast,simprocAttr];exact rfl) (by decide) (by decide) (by decide) (by simp only [push_cast,simprocAttr];try rfl) (by simp only [push_cast,simprocAttr];try rfl) ?_
   rintro _ _ _ ⟨rfl,rfl,rfl⟩;refine aG 9 (fun K1 hK1=>?_);simp (disch:=omega) only [push_cast,↓iC9,simprocAttr,aE,aD];refine hK1 _ ?_;(try clear hK1 K1)
   refine aV ?_;refine aX [0,1,5,6,7,8,9,10,11,12,13,14,15,16] [136,144,145] (by simp only [zZ,zR,zP,zQ,zN,zS,zM,zX,zU,Nat.reduceEqDiff,reduceIte];exact rfl) ?_
   have hEE:decide (gY d v=gY d v)=true:=decide_eq_true rfl
   have hE0:decide (gY d v=0)=false:=decide_eq_false hE
   have sm0:=zA5 [] [] (by decide)
   rw [zLo] at sm0;refine aA ?_;refine aA ?_;refine aC (fun K hK=>?_);simp (disch:=omega) only [push_cast,↓iC9,simprocAttr,hEE]
   refine cK zN0 sm0 (.cons .nil (.cons .nil .nil)) ?_;with_reducible refine aM ?_;simp (disch:=omega) only [push_cast,↓iC9,simprocAttr,hEE]
   refine cK zN0 sm0 (.cons .nil (.cons .nil .nil)) ?_;with_reducible refine aM ?_;simp (disch:=omega) only [push_cast,↓iC9,simprocAttr,hEE]
   refine hK _ ?_;clear hK K;refine aB ?_;refine bA rfl ?_;refine aT ?_;refine aA ?_;refine aA ?_;refine aC (fun K hK=>?_);simp (disch:=omega) only [push_cast,↓iC9,simprocAttr,hE0];refine hK _ ?_;clear hK K
   refine aB ?_;refine bW rfl ?_;refine aA ?_;refine aA ?_;refine aC (fun K hK=>?_);simp (disch:=omega) only [push_cast,↓iC9,simprocAttr];refine hK _ ?_;clear hK K
   refine aB ?_;refine bA rfl ?_;refine aT ?_;refine aB ?_;refine fR ?_;refine cW ?_;refine fN ?_;refine aB ?_;refine aC (fun K hK=>?_);simp (disch:=omega) only [push_cast,↓iC9,simprocAttr];refine hK _ ?_;clear hK K
   refine aB ?_;exact ⟨(i + 1,(d,R,fr,nw),sn),rfl,rfl,⟨h1,h2,hNext⟩,by show l.length - (i + 1) < l.length - i;omega⟩
 ·by_cases h1:i < l.length
  ·have h2:¬ i < 80:=fun h=>hc ⟨h1,h⟩
   refine aA ?_;refine aA ?_;refine aC (fun K hK=>?_);simp (disch:=omega) only [push_cast,↓iC9,simprocAttr,qCh];refine hK _ ?_;clear hK K
   refine aB ?_;refine bA rfl ?_;refine fR ?_;refine cW ?_;refine cW ?_;refine fN ?_;refine aA ?_;refine aC (fun K hK=>?_);simp (disch:=omega) only [push_cast,↓iC9,simprocAttr];refine hK _ ?_;clear hK K
   refine aB ?_;refine bB ?_;simp only [yA,yM,yH,yE,aL,aU,yK,yJ,zS,zM,Nat.reduceEqDiff,reduceIte,reduceCtorEq];exact bK rfl
  ·refine aA ?_;refine aA ?_;refine aC (fun K hK=>?_);simp (disch:=omega) only [push_cast,↓iC9,simprocAttr,qCh];refine hK _ ?_;clear hK K
   refine aB ?_;refine bA rfl ?_;refine fR ?_;refine cW ?_;refine cW ?_;refine fN ?_;refine aA ?_;refine aC (fun K hK=>?_);simp (disch:=omega) only [push_cast,↓iC9,simprocAttr];refine hK _ ?_;clear hK K
   refine aB ?_;refine bB ?_;simp only [yA,yM,yH,yE,aL,aU,yK,yJ,zS,zM,Nat.reduceEqDiff,reduceIte,reduceCtorEq];exact bK rfl
end Go.Proofs.YtlihpgmgiehjkaaGreatDoor
end
section
set_option maxRecDepth 20000
namespace Go.Proofs.YtlihpgmgiehjkaaGreatDoor
open Go Go.Eng Go.RowKit Go.Tr Go.Dk Go.Sw
theorem qVj (l:List Stp) (v:ByteArray) (hl:∀ x ∈ l,NR x.N) (hu:fw (.lst false (vZ l)) + (fw (.v (.string v)) + 0)≤1048576):HFun Tryz.prog 3 [.lst false (vZ l),.v (.string v)] (fun h st=>h=.v (.bool true)):=by
 obtain ⟨h1,h2⟩:=zNp l
 have h3:=zJ7 v
 refine qVk l (fun x hx=>?_) (by omega) v (by omega)
 have:=h2 x hx
 exact ⟨by omega,by omega,hl x hx⟩
end Go.Proofs.YtlihpgmgiehjkaaGreatDoor
end
