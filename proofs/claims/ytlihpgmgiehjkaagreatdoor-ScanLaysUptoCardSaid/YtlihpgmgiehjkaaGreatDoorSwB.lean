/-
  Scan: a folder is lD through.
-/
import Derived.Test.YtlihpgmgiehjkaaGreatDoorSwA
import Derived.Test.YtlihpgmgiehjkaaGreatDoorSwP
import Derived.Test.YtlihpgmgiehjkaaGreatDoorPln
set_option linter.unusedSimpArgs false
set_option linter.unusedVariables false
set_option maxRecDepth 20000
namespace Go.Proofs.YtlihpgmgiehjkaaGreatDoor
open Go Go.Eng Go.RowKit Go.Maps Go.Tr Go.Dk Go.Sw
inductive St5|a|b|c|d|e
def d5:St5→Nat→Bool
|.a=>fun _=>false
|.b=>fun q=>q == 10
|.c=>fun q=>q == 16
|.d=>fun q=>q == 10 || q == 16
|.e=>fun q=>q == 17 || (q == 10 || q == 16)
def e5:St5→bL
|.a=>[]
|.b=>[]
|.c=>[(9,.ptr 72 2 0 0)]
|.d=>[(9,.ptr 72 2 0 0)]
|.e=>[(9,.ptr 72 2 0 0)]
def s5 (n:Nd) (st:aF):St5→aF
|.a=>st
|.b=>st
|.c=>(72,.bx true 52 [.v (.int .i64 0),.v (.string ByteArray.empty)]) :: st
|.d=>(72,.bx true 52 [.v (.int .i64 0),.v (.string ByteArray.empty)]) :: st
|.e=>(72,.bx true 52 [.v (.int .i64 n.1),.v (.string n.2)]) :: st
inductive St7|a|b|m (e:Value)|x (e:Value)|z (e:Value)
def d7:St7→Nat→Bool
|.a=>fun _=>false
|.b=>fun q=>q == 16
|.m _=>fun q=>q == 17 || q == 16
|.x _=>fun q=>q == 18 || (q == 17 || q == 16)
|.z _=>fun q=>q == 19 || (q == 18 || (q == 17 || q == 16))
def e7:St7→bL
|.a=>[]
|.b=>[]
|.m e=>[(107,.tup [.junk,.v e])]
|.x e=>[(108,.v e),(107,.tup [.junk,.v e])]
|.z e=>[(108,.v e),(107,.tup [.junk,.v e])]
def g7 (r:Nat) (n:Nat) (M:MTab) (s:List UInt8) (v:Value) (a b:MS):St7→MS
|.a=>a ++ (.map r kS n M :: b)
|.b=>a ++ (.map r kS n M :: b)
|.m e=>a ++ (.opn r 79 kS n M s e :: b)
|.x e=>a ++ (.opn r 79 kS n M s e :: b)
|.z _=>a ++ (.map r kS (n + 1) (M.put s v) :: b)
set_option maxHeartbeats 4000000 in
theorem qW6 (d:Dk) (B:Int) (hd:d.Ok B) (hB:B≤1099511627776) (hl:d.L.length≤4194304) (hst:∀ e ∈ d.L,0≤e.2.stamp∧e.2.stamp≤1099511627776) (hdn:d.down=false) (v:ByteArray) (kn:gL) (M3:MTab) (hkn:KnOk M3 kn) (n3 r1 r2 r3 r4 r5:Nat):∀ (k:Nat) (p:ByteArray) (w:Wk),
  1048577 - p.size≤k→p.size≤1048576→v.size≤p.size→p≠{ data:=#[] }→w.nf + (vis d k p).length≤1099511627776→w.nt + (vis d k p).length≤1099511627776→0≤w.reads→w.reads + (vis d k p).length≤1099511627776 →
  HFunM Tryz.prog 46 [.ptr 0 6 0 0,.v (.string p)] [(0,.bx false 81 (w.row v r3 r4 r5)),(1,.bx false 64 (d.cells r1 r2))] (d.maps kS r1 r2 ++ w.maps r3 r4 r5 n3 M3)
   (fun h st g=>h=.v (.int .i64 0)∧st=[(0,.bx false 81 ((dP d v kn w (vis d k p)).row v r3 r4 r5)),(1,.bx false 64 (d.cells r1 r2))]∧g=d.maps kS r1 r2 ++ (dP d v kn w (vis d k p)).maps r3 r4 r5 n3 M3)
|0,p,w,hk,hp,_,_,_,_,_,_=>by omega
|k + 1,p,w,hk,hp,hvp,hp0,hnf,hnt,hr0,hr1=>by
  have ih:=qW6 d B hd hB hl hst hdn v kn M3 hkn n3 r1 r2 r3 r4 r5 k
  refine kC (N:=112) Tryz.func46 rfl Tryz.ntmps46 Tryz.results46 (by simp) ?_
  have hlist:=qY6 d B hd hB p hp hl r1 r2
  simp only [bM] at hlist;simp only [bM,qBp,qBq,cJ] at hlist ⊢;refine aA ?_;refine aC (fun K hK=>?_);simp (disch:=omega) only [push_cast,↓iC9,simprocAttr];refine hK _ ?_;clear hK K
  refine aA ?_;refine aA ?_;refine aX ?_;refine aG 5 (fun K1 hK1=>?_);simp (disch:=omega) only [push_cast,↓iC9,simprocAttr];refine hK1 _ ?_;(try clear hK1 K1)
  refine nE ([]) ([.map r1 kS d.n (tab Itm.val d.L),.map r2 kS d.m (tab gM d.R)]) ([.map r3 85 n3 M3,.map r4 kS w.nf (tab mC w.F),.map r5 kS w.nt (tab gM w.T)]) rfl 144 [1] zQ6 (hlist) rfl rfl rfl rfl (by simp only [push_cast,simprocAttr];exact rfl) (by decide) (by decide) (by decide) (by simp only [push_cast,simprocAttr];try rfl) (by simp only [push_cast,simprocAttr];try rfl) ?_
  rintro _ _ _ ⟨rfl,rfl,rfl⟩;refine aG 2 (fun K1 hK1=>?_);simp (disch:=omega) only [push_cast,↓iC9,simprocAttr,aE,aD];refine hK1 _ ?_;(try clear hK1 K1)
  refine aR ?_;refine aB ?_;refine bG ?_
  have hli:∀ q ∈ eY d p,(aH d.L q).isSome=true∧par q=p∧q.size≤1048576∧p.size < q.size:=fun q hq=>by
   simp only [eY,List.mem_map,List.mem_filter,decide_eq_true_eq] at hq;obtain ⟨e,⟨he,hpe⟩,rfl⟩:=hq;refine ⟨by rw [cN hd.rise he];rfl,hpe,hd.keys e he,?_⟩
   have:=qJ2 (p:=e.1) (by rw [hpe];exact hp0)
   rw [hpe] at this;exact this
  rw [rL] at hnf hnt hr1 ⊢;obtain ⟨qs,hqs⟩:∃ qs,eY d p=qs:=⟨_,rfl⟩;rw [hqs] at hnf hnt hr1 hli ⊢
  have hsl:=cX qs
  have hqn:qs.length≤4194304:=by
   rw [← hqs,eY,List.length_map];exact Nat.le_trans (List.length_filter_le ..) hl
  refine mK (ι:=Nat) (fun i=>⟨[(0,.ptr 0 6 0 0),(1,.v (.string p)),(4,.v (.int .i64 0)),(18,.own 145),(19,.v (.int .i64 qs.length)),(20,.v (.int .i64 i))],
    [(0,.bx false 81 ((dP d v kn w ((qs.take i).flatMap (jH d k))).row v r3 r4 r5)),(1,.bx false 64 (d.cells r1 r2)),(145,.sl true 9 1 (dG qs))]⟩)
   (fun i=>d.maps kS r1 r2 ++ (dP d v kn w ((qs.take i).flatMap (jH d k))).maps r3 r4 r5 n3 M3) (fun i=>i≤qs.length) (fun i=>qs.length - i) [0,1,4,18,19,20] [0,1,145] 0 ?_ rfl (Nat.zero_le _) ?_
  ·simp only [List.take_zero,List.flatMap_nil,qD4,qBp,bM,hsl];rfl
  ·intro i hi;obtain ⟨W,hW⟩:∃ W,dP d v kn w ((qs.take i).flatMap (jH d k))=W:=⟨_,rfl⟩
   have hnu:=qD3 d v kn ((qs.take i).flatMap (jH d k)) w
   rw [hW] at hnu;simp only [hW,qBp,bM,cJ,qBq];refine aA ?_;refine aC (fun K hK=>?_);simp (disch:=omega) only [push_cast,↓iC9,simprocAttr];refine hK _ ?_;clear hK K
   refine aA ?_
   have hmx:(1099511627776:Nat) < maxLen:=by decide
   by_cases hiq:i < qs.length
   ·refine bA rfl (fun _=>?_) (fun h=>by simp at h;omega)
    have hln:=qDn (jH d k) qs (i + 1)
    rw [tH _ _ hiq,List.length_append] at hln;obtain ⟨q,hq⟩:∃ q,qs[i]=q:=⟨_,rfl⟩;obtain ⟨hqs1,hqp,hqz,hqp2⟩:=hli q (hq ▸ List.getElem_mem hiq);rw [hq] at hln;refine aN ?_;refine aA ?_;refine bG ?_;refine aA ?_;refine aC (fun K hK=>?_);simp (disch:=omega) only [push_cast,↓iC9,simprocAttr,qHr hiq,hq];refine hK _ ?_;clear hK K
    have hvq:v.size + 1≤q.size:=by omega
    refine aA ?_;refine aC (fun K hK=>?_);simp (disch:=omega) only [push_cast,↓iC9,simprocAttr];(repeat refine ⟨by first|omega|decide|((repeat' apply And.intro) <;> first|omega|decide),?_⟩);refine hK _ ?_;clear hK K
    have hkind:=zHs d q r1 r2 hqz
    have hstamp:=zL5 d q r1 r2 hqz
    have hread:=zQb d q r1 r2 hqz
    simp only [bM,cJ] at hkind hstamp hread;refine aA ?_;refine aA ?_;refine aX ?_;refine aG 5 (fun K1 hK1=>?_);simp (disch:=omega) only [push_cast,↓iC9,simprocAttr];refine hK1 _ ?_;(try clear hK1 K1)
    refine nE ([]) ([.map r1 kS d.n (tab Itm.val d.L),.map r2 kS d.m (tab gM d.R)]) ([.map r3 85 n3 M3,.map r4 kS W.nf (tab mC W.F),.map r5 kS W.nt (tab gM W.T)]) rfl 296 [1] zTf (hkind) rfl rfl rfl rfl (by simp only [push_cast,simprocAttr];exact rfl) (by decide) (by decide) (by decide) (by simp only [push_cast,simprocAttr];try rfl) (by simp only [push_cast,simprocAttr];try rfl) ?_
    rintro _ _ _ ⟨rfl,rfl,rfl⟩;refine aG 1 (fun K1 hK1=>?_);simp (disch:=omega) only [push_cast,↓iC9,simprocAttr,aE,aD];refine hK1 _ ?_;(try clear hK1 K1)
    refine aR ?_;refine aB ?_
    have hob:(cC v q).size≤maxLen:=by
     have:(cC v q).size≤q.size:=by unfold cC;rw [ByteArray.size_extract];omega
     have:(1048576:Nat)≤maxLen:=by decide
     omega
    have hown:q.extract (v.size + 1) q.size=cC v q:=rfl
    rw [hown]
    by_cases hkq:iF d q=1
    ·refine bA rfl (fun _=>?_) (fun h=>by simp [hkq] at h)
     refine aA ?_;refine aX ?_;refine aG 6 (fun K1 hK1=>?_);simp (disch:=omega) only [push_cast,↓iC9,simprocAttr];refine hK1 _ ?_;(try clear hK1 K1)
     refine qHf (i:=3) (r:=r4) (n:=W.nf) (M:=tab mC W.F) (v:=mC (1,ByteArray.empty)) mtF rfl rfl rfl rfl (by omega) rfl rfl hob rfl rfl ?_
     rw [qBw];refine aR ?_;refine aA ?_;refine aA ?_
     have hn1:(jH d k q).length=(vis d k q).length + 1:=by simp [jH,hkq]
     have hih:=ih q (W.dirW (cC v q)) (by omega) hqz (by omega) (fun e=>by subst e;have:(({ data:=#[] }:ByteArray)).size=0:=rfl;omega) (by show W.nf + 1 + _≤_;omega) (by show W.nt + _≤_;omega) (by show 0≤W.reads;omega) (by show W.reads + _≤_;omega)
     simp only [bM,qBp,qBq,cJ] at hih;refine aX ?_;refine aG 2 (fun K1 hK1=>?_);simp (disch:=omega) only [push_cast,↓iC9,simprocAttr];refine hK1 _ ?_;(try clear hK1 K1)
     refine bN 376 [0,1] zTe (hih) rfl rfl rfl rfl (by simp only [push_cast,simprocAttr];exact rfl) (by decide) (by decide) (by decide) (by simp only [push_cast,simprocAttr];try rfl) (by simp only [push_cast,simprocAttr];try rfl) ?_
     rintro _ _ _ ⟨rfl,rfl,rfl⟩;refine aG 1 (fun K1 hK1=>?_);simp (disch:=omega) only [push_cast,↓iC9,simprocAttr,aE,aD];refine hK1 _ ?_;(try clear hK1 K1)
     refine aR ?_;refine aA ?_;refine aC (fun K hK=>?_);simp (disch:=omega) only [push_cast,↓iC9,simprocAttr];refine hK _ ?_;clear hK K
     refine aB ?_;refine aW rfl ?_;refine aN ?_;refine aB ?_;refine gA ?_;refine cY ?_;refine fW ?_;refine aB ?_;refine aC (fun K hK=>?_);simp (disch:=omega) only [push_cast,↓iC9,simprocAttr];refine hK _ ?_;clear hK K
     refine aB ?_
     have hnext:dP d v kn w ((qs.take (i + 1)).flatMap (jH d k))=dP d v kn (W.dirW (cC v q)) (vis d k q):=by
      rw [tH _ _ hiq,qNz,hW,hq,jH,if_pos hkq,fD,fQ,if_pos hkq]
     refine ⟨i + 1,?_,?_,by omega,by omega⟩
     ·rw [hnext];rfl
     ·rw [hnext]
    ·refine bA rfl (fun h=>by simp [hkq] at h) (fun _=>?_)
     refine aN ?_;refine aA ?_;refine bC [0,1,4,6,7,18,19,20] [0,1,145] (by simp only [zZ,zR,zP,zQ,zN,zS,zM,zX,zU,Nat.reduceEqDiff,reduceIte];exact rfl) ?_
     have hsq:0≤bS d q∧bS d q≤1099511627776:=by
      unfold bS aT
      cases hx:aH d.L q with
     |none=>rw [hx] at hqs1;cases hqs1
     |some x=>exact hst _ (cB hx)
     have hwf:(Lit.int .i64 (bS d q)).wf=true:=by
      simp only [Lit.wf,Bool.and_eq_true,decide_eq_true_eq];rw [show IntKind.i64.min=-9223372036854775808 from rfl,show IntKind.i64.max=9223372036854775807 from rfl]
      omega
     obtain ⟨nn,b,hlook,hb1,hb2⟩:∃ (nn:Nd) (b:Bool),qJ (M3 (qSv (cC v q) (bS d q))) (mC (0,ByteArray.empty)) true=.tup [.agg [.v (.int .i64 nn.1),.v (.string nn.2)],.v (.bool b)]∧(b=true→kn (cC v q) (bS d q)=some nn)∧(b=false→kn (cC v q) (bS d q)=none):=by
      rw [hkn.is _ _ hob hwf]
      cases kn (cC v q) (bS d q) with
     |none=>exact ⟨(0,ByteArray.empty),false,rfl,fun h=>(by cases h),fun _=>rfl⟩
     |some n=>exact ⟨n,true,rfl,fun _=>rfl,fun h=>(by cases h)⟩
     skip
     refine qX7 (ι:=St5) 18 [(10,.int .i64 (bS d q)),(16,.bool false),(17,.bool false)] [9]
      [(9,.v (.bool false)),(66,.v (.bool b)),(65,.agg [.v (.int .i64 nn.1),.v (.string nn.2)]),(51,.tup [.agg [.v (.int .i64 nn.1),.v (.string nn.2)],.v (.bool b)]),(64,.tup [.agg [.v (.int .i64 nn.1),.v (.string nn.2)],.v (.bool b)]),(63,.agg [.v (.string (cC v q)),.v (.int .i64 (bS d q))]),(62,.v (.int .i64 (bS d q))),(61,.v (.string q)),(60,.ptr 1 6 0 0),(59,.ptr 0 6 0 0),(58,.ptr 0 6 0 0),(57,.ptr 0 6 0 0),(56,.v (.string (cC v q))),(55,.v (.map (some r3))),(54,.ptr 0 6 0 2),(53,.ptr 0 6 0 0),(52,.ptr 0 6 0 0)]
      [(66,.v (.bool b)),(65,.agg [.v (.int .i64 nn.1),.v (.string nn.2)]),(51,.tup [.agg [.v (.int .i64 nn.1),.v (.string nn.2)],.v (.bool b)]),(64,.tup [.agg [.v (.int .i64 nn.1),.v (.string nn.2)],.v (.bool b)]),(63,.agg [.v (.string (cC v q)),.v (.int .i64 (bS d q))]),(62,.v (.int .i64 (bS d q))),(61,.v (.string q)),(60,.ptr 1 6 0 0),(59,.ptr 0 6 0 0),(58,.ptr 0 6 0 0),(57,.ptr 0 6 0 0),(56,.v (.string (cC v q))),(55,.v (.map (some r3))),(54,.ptr 0 6 0 2),(53,.ptr 0 6 0 0),(52,.ptr 0 6 0 0)]
      (s5 nn _) (fun _=>[.map r1 kS d.n (tab Itm.val d.L),.map r2 kS d.m (tab gM d.R),.map r3 85 n3 M3,.map r4 kS W.nf (tab mC W.F),.map r5 kS W.nt (tab gM W.T)]) e5 d5 .a mixed (by kernel_rfl) (by kernel_rfl) rfl rfl rfl (fun _ _=>rfl) (by kernel_rfl) rfl (fun s=>by cases s <;> rfl) ?_ ?_ ?_
     ·intro s K1 hK1
      cases s
      all_goals
       simp only [qR2,qNd,qPr,qJy,qXh,cond_true,cond_false,Nat.reduceBEq,Nat.reduceAdd,s5];refine qD0 12 (Nat.le_of_ble_eq_true rfl) (fun K2 hK2=>?_)
       simp (disch:=omega) only [push_cast,↓iC9,simprocAttr];refine hK2 _ ?_;refine zFf (q:=2) rfl mtK rfl rfl rfl rfl rfl rfl rfl (qC0 hob hwf) ?_;rw [hlook];refine qD0 5 (Nat.le_of_ble_eq_true rfl) (fun K3 hK3=>?_)
       simp (disch:=omega) only [push_cast,↓iC9,simprocAttr];refine hK3 _ ?_;refine qTs ?_;exact hK1 _ rfl
     ·intro s q' o hx ho hD hdep
      have hq':q'=10∨q'=16∨q'=17:=by
       simp only [vB,List.any_cons,List.any_nil,Bool.or_false,Bool.or_eq_true,beq_iff_eq] at hx;omega
      rcases hq' with rfl|rfl|rfl
      ·cases s
       case a =>
        cases ho
        simp only [s5,e5,List.nil_append,List.cons_append];refine qE6 ([]) ([.map r1 kS d.n (tab Itm.val d.L),.map r2 kS d.m (tab gM d.R)]) ([.map r3 85 n3 M3,.map r4 kS W.nf (tab mC W.F),.map r5 kS W.nt (tab gM W.T)]) rfl 496 [1] zQ2 (hstamp) rfl rfl (by simp only [push_cast,simprocAttr];exact rfl) (by decide) (by decide) (by decide) (by simp only [push_cast,simprocAttr];try rfl) (by simp only [push_cast,simprocAttr];try rfl) ?_
        rintro _ _ _ ⟨rfl,rfl,rfl⟩;refine ⟨.b,fun j=>by cases j <;> simp [d5,Bool.or_comm],?_,?_,rfl⟩
        ·(simp (disch:=omega) only [push_cast,↓iC9,simprocAttr,aE,aD,List.nil_append,List.cons_append,dL,cR,dK,cQ,e5,s5];repeat' first|exact trivial|refine And.intro rfl ?_)
        ·(simp (disch:=omega) only [push_cast,↓iC9,simprocAttr,aE,aD,List.nil_append,List.cons_append,dL,cR,dK,cQ,e5,s5];repeat' first|exact trivial|refine And.intro rfl ?_)
       case c =>
        cases ho
        simp only [s5,e5,List.nil_append,List.cons_append];refine qE6 ([]) ([.map r1 kS d.n (tab Itm.val d.L),.map r2 kS d.m (tab gM d.R)]) ([.map r3 85 n3 M3,.map r4 kS W.nf (tab mC W.F),.map r5 kS W.nt (tab gM W.T)]) rfl 496 [1] zQ2 (hstamp) rfl rfl (by simp only [push_cast,simprocAttr];exact rfl) (by decide) (by decide) (by decide) (by simp only [push_cast,simprocAttr];try rfl) (by simp only [push_cast,simprocAttr];try rfl) ?_
        rintro _ _ _ ⟨rfl,rfl,rfl⟩;refine ⟨.d,fun j=>by cases j <;> simp [d5,Bool.or_comm],?_,?_,rfl⟩
        ·(simp (disch:=omega) only [push_cast,↓iC9,simprocAttr,aE,aD,List.nil_append,List.cons_append,dL,cR,dK,cQ,e5,s5];repeat' first|exact trivial|refine And.intro rfl ?_)
        ·(simp (disch:=omega) only [push_cast,↓iC9,simprocAttr,aE,aD,List.nil_append,List.cons_append,dL,cR,dK,cQ,e5,s5];repeat' first|exact trivial|refine And.intro rfl ?_)
       all_goals exact absurd hD (by decide)
      ·cases s
       case a =>
        cases ho
        simp only [s5,e5,List.nil_append,List.cons_append];refine qHg (N:=112) (ds:=[]) rfl (fun K1 hK1=>?_)
        simp (disch:=omega) only [push_cast,↓iC9,simprocAttr];refine hK1 _ ?_;refine ⟨.c,fun j=>by cases j <;> simp [d5,Bool.or_comm],?_,?_,rfl⟩
        ·(simp (disch:=omega) only [push_cast,↓iC9,simprocAttr,aE,aD,List.nil_append,List.cons_append,dL,cR,dK,cQ,e5,s5];repeat' first|exact trivial|refine And.intro rfl ?_)
        ·(simp (disch:=omega) only [push_cast,↓iC9,simprocAttr,aE,aD,List.nil_append,List.cons_append,dL,cR,dK,cQ,e5,s5];repeat' first|exact trivial|refine And.intro rfl ?_)
       case b =>
        cases ho
        simp only [s5,e5,List.nil_append,List.cons_append];refine qHg (N:=112) (ds:=[]) rfl (fun K1 hK1=>?_)
        simp (disch:=omega) only [push_cast,↓iC9,simprocAttr];refine hK1 _ ?_;refine ⟨.d,fun j=>by cases j <;> simp [d5,Bool.or_comm],?_,?_,rfl⟩
        ·(simp (disch:=omega) only [push_cast,↓iC9,simprocAttr,aE,aD,List.nil_append,List.cons_append,dL,cR,dK,cQ,e5,s5];repeat' first|exact trivial|refine And.intro rfl ?_)
        ·(simp (disch:=omega) only [push_cast,↓iC9,simprocAttr,aE,aD,List.nil_append,List.cons_append,dL,cR,dK,cQ,e5,s5];repeat' first|exact trivial|refine And.intro rfl ?_)
       all_goals exact absurd hD (by decide)
      ·cases s
       case d =>
        cases ho
        simp only [s5,e5,List.nil_append,List.cons_append];refine qHg (N:=112) (ds:=[]) rfl (fun K1 hK1=>?_)
        simp (disch:=omega) only [push_cast,↓iC9,simprocAttr];refine hK1 _ ?_;refine ⟨.e,fun j=>by cases j <;> simp [d5,Bool.or_comm],?_,?_,rfl⟩
        ·(simp (disch:=omega) only [push_cast,↓iC9,simprocAttr,aE,aD,List.nil_append,List.cons_append,dL,cR,dK,cQ,e5,s5];repeat' first|exact trivial|refine And.intro rfl ?_)
        ·(simp (disch:=omega) only [push_cast,↓iC9,simprocAttr,aE,aD,List.nil_append,List.cons_append,dL,cR,dK,cQ,e5,s5];repeat' first|exact trivial|refine And.intro rfl ?_)
       case e=>exact absurd hD (by decide)
       all_goals first|exact absurd (hdep 10 (by kernel_rfl) rfl) (by decide)|exact absurd (hdep 16 (by kernel_rfl) rfl) (by decide)
     ·intro s hs
      cases s
      case e =>
       simp only [s5,e5,List.nil_append,List.cons_append];refine aG 1 (fun K1 hK1=>?_);simp (disch:=omega) only [push_cast,↓iC9,simprocAttr,aE,aD];refine hK1 _ ?_;(try clear hK1 K1)
       refine aR ?_;refine bC [0,1,4,6,7,9,10,18,19,20] [0,1,72,145] (by simp only [zZ,zR,zP,zQ,zN,zS,zM,zX,zU,Nat.reduceEqDiff,reduceIte];exact rfl) ?_
       refine aA ?_;refine aA ?_;refine aC (fun K hK=>?_);simp (disch:=omega) only [push_cast,↓iC9,simprocAttr];refine hK _ ?_;clear hK K
       refine aB ?_;refine qX6 (ι:=Nd × Int) (fun j=>⟨[(0,.ptr 0 6 0 0),(1,.v (.string p)),(4,.v (.int .i64 0)),(6,.v (.string q)),(7,.v (.string (cC v q))),(9,.ptr 72 2 0 0),(18,.own 145),(19,.v (.int .i64 qs.length)),(20,.v (.int .i64 i))],
         [(0,.bx false 81 [.ptr 1 6 0 0,.v (.string v),.v (.map (some r3)),.v (.map (some r4)),.v (.map (some r5)),.v (.int .i64 (W.reads + j.2))]),(1,.bx false 64 [.v (.map (some r1)),.v (.map (some r2)),.v (.int .i64 d.steps),.v (.int .i64 d.stamps),.v (.int .i64 d.armed),.v (.bool d.down)]),(72,.bx true 52 [.v (.int .i64 j.1.1),.v (.string j.1.2)]),(145,.sl true 9 1 (dG qs))]⟩)
        (fun _=>[.map r1 kS d.n (tab Itm.val d.L),.map r2 kS d.m (tab gM d.R),.map r3 85 n3 M3,.map r4 kS W.nf (tab mC W.F),.map r5 kS W.nt (tab gM W.T)])
        (fun j=>fQ d v kn W q=W.fileW (cC v q) j.1 (bS d q) j.2) [0,1,4,6,7,9,18,19,20] [0,1,72,145] ?_ ?_
       ·cases b with
       |true =>
         refine aW rfl ?_;refine aN ?_;refine aB ?_;refine ⟨(nn,0),?_,rfl,?_⟩
         ·simp only [Int.add_zero];rfl
         ·rw [fQ,if_neg hkq,hb1 rfl]
       |false =>
         refine bX rfl ?_
         have hrd:(lP d q).2=0:=by
          unfold iF at hkq
          have hh:has d q=true:=hqs1
          rw [hh] at hkq;unfold lP;rw [hdn,hh];simp at hkq;simp [hkq]
         rw [hrd] at hread;refine aA ?_;refine aX ?_;refine aG 5 (fun K1 hK1=>?_);simp (disch:=omega) only [push_cast,↓iC9,simprocAttr];refine hK1 _ ?_;(try clear hK1 K1)
         refine nE ([]) ([.map r1 kS d.n (tab Itm.val d.L),.map r2 kS d.m (tab gM d.R)]) ([.map r3 85 n3 M3,.map r4 kS W.nf (tab mC W.F),.map r5 kS W.nt (tab gM W.T)]) rfl 600 [1] zUb (hread) rfl rfl rfl rfl (by simp only [push_cast,simprocAttr];exact rfl) (by decide) (by decide) (by decide) (by simp only [push_cast,simprocAttr];try rfl) (by simp only [push_cast,simprocAttr];try rfl) ?_
         rintro _ _ _ ⟨rfl,rfl,rfl⟩;refine aG 5 (fun K1 hK1=>?_);simp (disch:=omega) only [push_cast,↓iC9,simprocAttr,aE,aD];refine hK1 _ ?_;(try clear hK1 K1)
         refine aR ?_;refine aA ?_;refine aA ?_;refine aC (fun K hK=>?_);simp (disch:=omega) only [push_cast,↓iC9,simprocAttr];refine hK _ ?_;clear hK K
         refine aB ?_;refine aW rfl ?_;refine aN ?_;refine aA ?_;refine aC (fun K hK=>?_);simp (disch:=omega) only [push_cast,↓iC9,simprocAttr];refine hK _ ?_;clear hK K
         refine aB ?_;refine aC (fun K hK=>?_);simp (disch:=omega) only [push_cast,↓iC9,simprocAttr];refine hK _ ?_;clear hK K
         refine aB ?_;refine ⟨((2,(lP d q).1),1),?_,rfl,?_⟩
         ·rfl
         ·rw [fQ,if_neg hkq,hb2 rfl]
       ·rintro ⟨n,r⟩ hj;dsimp only at hj ⊢
        skip
        refine qX7 (ι:=St7) 20 [(16,.int .i64 (bS d q)),(17,.bool false),(18,.bool false),(19,.bool false)] [107,108]
         [(108,.v (.bool false)),(107,.v (.bool false)),(106,.v (.int .i64 (bS d q))),(105,.v (.string q)),(104,.ptr 1 6 0 0),(103,.ptr 0 6 0 0),(102,.ptr 0 6 0 0),(101,.ptr 0 6 0 0),(100,.agg [.v (.int .i64 n.1),.v (.string n.2)]),(99,.v (.string (cC v q))),(98,.v (.map (some r5))),(97,.ptr 0 6 0 4),(96,.ptr 0 6 0 0),(95,.ptr 0 6 0 0),(94,.v (.string (cC v q))),(93,.v (.map (some r4))),(92,.ptr 0 6 0 3),(91,.ptr 0 6 0 0),(90,.ptr 0 6 0 0)]
         [(106,.v (.int .i64 (bS d q))),(105,.v (.string q)),(104,.ptr 1 6 0 0),(103,.ptr 0 6 0 0),(102,.ptr 0 6 0 0),(101,.ptr 0 6 0 0),(100,.agg [.v (.int .i64 n.1),.v (.string n.2)]),(99,.v (.string (cC v q))),(98,.v (.map (some r5))),(97,.ptr 0 6 0 4),(96,.ptr 0 6 0 0),(95,.ptr 0 6 0 0),(94,.v (.string (cC v q))),(93,.v (.map (some r4))),(92,.ptr 0 6 0 3),(91,.ptr 0 6 0 0),(90,.ptr 0 6 0 0)]
         (fun _=>_) (g7 r4 W.nf (tab mC W.F) (cC v q).data.toList (mC n) [.map r1 kS d.n (tab Itm.val d.L),.map r2 kS d.m (tab gM d.R),.map r3 85 n3 M3] [.map r5 kS W.nt (tab gM W.T)]) e7 d7 .a mixed (by kernel_rfl) (by kernel_rfl) rfl rfl rfl (fun _ _=>rfl) (by kernel_rfl) rfl (fun s=>by cases s <;> rfl) ?_ ?_ ?_
        ·intro s K1 hK1;simp only [qR2,qNd,qPr,qJy,qXh,cond_true,cond_false,Nat.reduceBEq,Nat.reduceAdd];refine qD0 20 (Nat.le_of_ble_eq_true rfl) (fun K2 hK2=>?_)
         simp (disch:=omega) only [push_cast,↓iC9,simprocAttr];refine hK2 _ ?_;refine qTs ?_;exact hK1 _ rfl
        ·intro s q' o hx ho hD hdep
         have hq':q'=16∨q'=17∨q'=18∨q'=19:=by
          simp only [vB,List.any_cons,List.any_nil,Bool.or_false,Bool.or_eq_true,beq_iff_eq] at hx;omega
         rcases hq' with rfl|rfl|rfl|rfl
         ·cases s
          case a =>
           cases ho
           simp only [e7,g7,List.nil_append,List.cons_append];refine qE6 ([]) ([.map r1 kS d.n (tab Itm.val d.L),.map r2 kS d.m (tab gM d.R)]) ([.map r3 85 n3 M3,.map r4 kS W.nf (tab mC W.F),.map r5 kS W.nt (tab gM W.T)]) rfl 848 [1] zQ2 (hstamp) rfl rfl (by simp only [push_cast,simprocAttr];exact rfl) (by decide) (by decide) (by decide) (by simp only [push_cast,simprocAttr];try rfl) (by simp only [push_cast,simprocAttr];try rfl) ?_
           rintro _ _ _ ⟨rfl,rfl,rfl⟩;refine ⟨.b,fun j=>by simp [d7,Bool.or_comm],?_,?_,rfl⟩
           ·(simp (disch:=omega) only [push_cast,↓iC9,simprocAttr,aE,aD,List.nil_append,List.cons_append,dL,cR,dK,cQ,e7];repeat' first|exact trivial|refine And.intro rfl ?_)
           ·(simp (disch:=omega) only [push_cast,↓iC9,simprocAttr,aE,aD,List.nil_append,List.cons_append,dL,cR,dK,cQ,e7];repeat' first|exact trivial|refine And.intro rfl ?_)
          all_goals exact absurd hD (by simp [d7])
         ·cases s
          case b =>
           cases ho
           simp only [e7,g7,List.nil_append,List.cons_append];refine qSg (i:=3) (r:=r4) (n:=W.nf) (M:=tab mC W.F) mtF rfl rfl (by omega) rfl rfl hob (fun e=>?_)
           refine ⟨.m e,fun j=>by simp [d7,Bool.or_comm],?_,?_,rfl⟩
           ·(simp (disch:=omega) only [push_cast,↓iC9,simprocAttr,aE,aD,List.nil_append,List.cons_append,dL,cR,dK,cQ,e7];repeat' first|exact trivial|refine And.intro rfl ?_)
           ·(simp (disch:=omega) only [push_cast,↓iC9,simprocAttr,aE,aD,List.nil_append,List.cons_append,dL,cR,dK,cQ,e7];repeat' first|exact trivial|refine And.intro rfl ?_)
          case a=>exact absurd (hdep 16 (by kernel_rfl) rfl) (by simp [d7])
          all_goals exact absurd hD (by simp [d7])
         ·cases s
          case m e =>
           cases ho
           simp only [e7,g7,List.nil_append,List.cons_append];refine qHg (N:=112) (ds:=[]) rfl (fun K1 hK1=>?_)
           simp (disch:=omega) only [push_cast,↓iC9,simprocAttr];refine hK1 _ ?_;refine ⟨.x e,fun j=>by simp [d7,Bool.or_comm],?_,?_,rfl⟩
           ·(simp (disch:=omega) only [push_cast,↓iC9,simprocAttr,aE,aD,List.nil_append,List.cons_append,dL,cR,dK,cQ,e7];repeat' first|exact trivial|refine And.intro rfl ?_)
           ·(simp (disch:=omega) only [push_cast,↓iC9,simprocAttr,aE,aD,List.nil_append,List.cons_append,dL,cR,dK,cQ,e7];repeat' first|exact trivial|refine And.intro rfl ?_)
          case a=>exact absurd (hdep 17 (by kernel_rfl) rfl) (by simp [d7])
          case b=>exact absurd (hdep 17 (by kernel_rfl) rfl) (by simp [d7])
          all_goals exact absurd hD (by simp [d7])
         ·cases s
          case x e =>
           cases ho
           simp only [e7,g7,List.nil_append,List.cons_append];refine qNq (i:=3) (r:=r4) (n:=W.nf) (M:=tab mC W.F) (s:=(cC v q).data.toList) (st:=e) (v:=mC n) rfl rfl rfl rfl rfl rfl ?_;refine ⟨.z e,fun j=>by simp [d7,Bool.or_comm],?_,?_,rfl⟩
           ·(simp (disch:=omega) only [push_cast,↓iC9,simprocAttr,aE,aD,List.nil_append,List.cons_append,dL,cR,dK,cQ,e7];repeat' first|exact trivial|refine And.intro rfl ?_)
           ·(simp (disch:=omega) only [push_cast,↓iC9,simprocAttr,aE,aD,List.nil_append,List.cons_append,dL,cR,dK,cQ,e7];repeat' first|exact trivial|refine And.intro rfl ?_)
          case z=>exact absurd hD (by simp [d7])
          all_goals exact absurd (hdep 18 (by kernel_rfl) rfl) (by simp [d7])
        ·intro s hs
         cases s
         case z e =>
          simp only [e7,g7,List.nil_append,List.cons_append];refine qTr rfl rfl (qSg (i:=4) (r:=r5) (n:=W.nt) (M:=tab gM W.T) mtT rfl rfl (by omega) rfl rfl hob (fun e2=>?_))
          refine aG 1 (fun K1 hK1=>?_);simp (disch:=omega) only [push_cast,↓iC9,simprocAttr,aE,aD];refine hK1 _ ?_;(try clear hK1 K1)
          refine qTr rfl rfl (qNq (i:=4) (r:=r5) (n:=W.nt) (M:=tab gM W.T) (s:=(cC v q).data.toList) (st:=e2) (v:=gM (bS d q)) rfl rfl rfl rfl rfl rfl ?_);rw [qBw,qBw];refine aR ?_;refine aZ ?_;refine aB ?_;refine aC (fun K hK=>?_);simp (disch:=omega) only [push_cast,↓iC9,simprocAttr];refine hK _ ?_;clear hK K
          refine aB ?_
          have hnext:dP d v kn w ((qs.take (i + 1)).flatMap (jH d k))=W.fileW (cC v q) n (bS d q) r:=by
           rw [tH _ _ hiq,qNz,hW,hq,jH,if_neg hkq,fD,qD4,hj]
          refine ⟨i + 1,?_,?_,by omega,by omega⟩
          ·rw [hnext];rfl
          ·rw [hnext];rfl
         all_goals exact absurd (hs 19 rfl) (by simp [d7])
      all_goals exact absurd (hs 17 rfl) (by decide)
   ·have hie:i=qs.length:=by omega
    refine bA rfl (fun h=>by simp at h;omega) (fun _=>?_)
    refine gA ?_;refine cY ?_;refine cY ?_;refine fW ?_;refine aA ?_;refine aC (fun K hK=>?_);simp (disch:=omega) only [push_cast,↓iC9,simprocAttr];refine hK _ ?_;clear hK K
    refine aB ?_;refine bB ?_;simp only [aJ,aP,yH,yE,yK,yJ,aS,zS,zM,Nat.reduceEqDiff,reduceIte,reduceCtorEq];refine cE [0,1] [] (by first|rfl|simp [bsL,MO.bs]) (by decide) (by decide) (by simp only [push_cast,simprocAttr]) (by simp only [push_cast,simprocAttr]) (by simp only [push_cast,simprocAttr];rfl) (by simp only [push_cast,simprocAttr];rfl) ?_
    have hfin:dP d v kn w (qs.flatMap (jH d k))=W:=by rw [← hW,hie,List.take_length]
    rw [hfin];exact ⟨rfl,rfl,rfl⟩
end Go.Proofs.YtlihpgmgiehjkaaGreatDoor
