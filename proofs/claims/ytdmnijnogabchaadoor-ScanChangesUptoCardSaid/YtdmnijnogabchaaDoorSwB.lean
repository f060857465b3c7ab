/-
  Scan: a folder is kH through.
-/
import Derived.Test.YtdmnijnogabchaaDoorSwP
import Derived.Test.YtdmnijnogabchaaDoorPln
set_option linter.unusedSimpArgs false
set_option linter.unusedVariables false
set_option maxRecDepth 20000
namespace Go.Proofs.YtdmnijnogabchaaDoor
open Go Go.Eng Go.RowKit Go.Maps Go.Tr Go.Dk Go.Sw
inductive St5|a|b|c|d|e
def d5:St5→Nat→Bool
|.a=>fun _=>false
|.b=>fun q=>q == 10
|.c=>fun q=>q == 16
|.d=>fun q=>q == 10 || q == 16
|.e=>fun q=>q == 17 || (q == 10 || q == 16)
def e5:St5→aR
|.a=>[]
|.b=>[]
|.c=>[(9,.ptr 72 2 0 0)]
|.d=>[(9,.ptr 72 2 0 0)]
|.e=>[(9,.ptr 72 2 0 0)]
def s5 (n:Nd) (st:aC):St5→aC
|.a=>st
|.b=>st
|.c=>(72,.bx true 29 [.v (.int .i64 0),.v (.string ByteArray.empty)]) :: st
|.d=>(72,.bx true 29 [.v (.int .i64 0),.v (.string ByteArray.empty)]) :: st
|.e=>(72,.bx true 29 [.v (.int .i64 n.1),.v (.string n.2)]) :: st
inductive St7|a|b|m (e:Value)|x (e:Value)|z (e:Value)
def d7:St7→Nat→Bool
|.a=>fun _=>false
|.b=>fun q=>q == 16
|.m _=>fun q=>q == 17 || q == 16
|.x _=>fun q=>q == 18 || (q == 17 || q == 16)
|.z _=>fun q=>q == 19 || (q == 18 || (q == 17 || q == 16))
def e7:St7→aR
|.a=>[]
|.b=>[]
|.m e=>[(107,.tup [.junk,.v e])]
|.x e=>[(108,.v e),(107,.tup [.junk,.v e])]
|.z e=>[(108,.v e),(107,.tup [.junk,.v e])]
def g7 (r:Nat) (n:Nat) (M:MTab) (s:List UInt8) (v:Value) (a b:MS):St7→MS
|.a=>a ++ (.map r kS n M :: b)
|.b=>a ++ (.map r kS n M :: b)
|.m e=>a ++ (.opn r 64 kS n M s e :: b)
|.x e=>a ++ (.opn r 64 kS n M s e :: b)
|.z _=>a ++ (.map r kS (n + 1) (M.put s v) :: b)
set_option maxHeartbeats 4000000 in
theorem qUu (d:Dk) (B:Int) (hd:d.Ok B) (hB:B≤1099511627776) (hl:d.L.length≤4194304) (hst:∀ e ∈ d.L,0≤e.2.stamp∧e.2.stamp≤1099511627776) (hdn:d.down=false) (v:ByteArray) (kn:kZ) (M3:MTab) (hkn:KnOk M3 kn) (n3 r1 r2 r3 r4 r5:Nat):∀ (k:Nat) (p:ByteArray) (w:Wk),
  1048577 - p.size≤k→p.size≤1048576→v.size≤p.size→p≠{ data:=#[] }→w.nf + (vis d k p).length≤1099511627776→w.nt + (vis d k p).length≤1099511627776→0≤w.reads→w.reads + (vis d k p).length≤1099511627776 →
  HFunM Tryd.prog 34 [.ptr 0 6 0 0,.v (.string p)] [(0,.bx false 66 (w.row v r3 r4 r5)),(1,.bx false 50 (d.cells r1 r2))] (d.maps kS r1 r2 ++ w.maps r3 r4 r5 n3 M3)
   (fun h st g=>h=.v (.int .i64 0)∧st=[(0,.bx false 66 ((eF d v kn w (vis d k p)).row v r3 r4 r5)),(1,.bx false 50 (d.cells r1 r2))]∧g=d.maps kS r1 r2 ++ (eF d v kn w (vis d k p)).maps r3 r4 r5 n3 M3)
|0,p,w,hk,hp,_,_,_,_,_,_=>by omega
|k + 1,p,w,hk,hp,hvp,hp0,hnf,hnt,hr0,hr1=>by
  have ih:=qUu d B hd hB hl hst hdn v kn M3 hkn n3 r1 r2 r3 r4 r5 k
  refine nH (N:=112) Tryd.func34 rfl Tryd.ntmps34 Tryd.results34 (by simp) ?_
  have hlist:=zH7 d B hd hB p hp hl r1 r2
  simp only [bW] at hlist;simp only [bW,wL,wM,eE] at hlist ⊢;refine aA ?_;refine aD (fun K hK=>?_);simp (disch:=omega) only [push_cast,↓iC9,simprocAttr];refine hK _ ?_;clear hK K
  refine aA ?_;refine aA ?_;refine bK ?_;refine aQ 5 (fun K1 hK1=>?_);simp (disch:=omega) only [push_cast,↓iC9,simprocAttr];refine hK1 _ ?_;(try clear hK1 K1)
  refine qB8 ([]) ([.map r1 kS d.n (tab Itm.val d.L),.map r2 kS d.m (tab gN d.R)]) ([.map r3 70 n3 M3,.map r4 kS w.nf (tab kB w.F),.map r5 kS w.nt (tab gN w.T)]) rfl 144 [1] zMf (hlist) rfl rfl rfl rfl (by simp only [push_cast,simprocAttr];exact rfl) (by decide) (by decide) (by decide) (by simp only [push_cast,simprocAttr];try rfl) (by simp only [push_cast,simprocAttr];try rfl) ?_
  rintro _ _ _ ⟨rfl,rfl,rfl⟩;refine aQ 2 (fun K1 hK1=>?_);simp (disch:=omega) only [push_cast,↓iC9,simprocAttr,aF,aE];refine hK1 _ ?_;(try clear hK1 K1)
  refine bA ?_;refine aB ?_;refine bR ?_
  have hli:∀ q ∈ xT d p,(bM d.L q).isSome=true∧par q=p∧q.size≤1048576∧p.size < q.size:=fun q hq=>by
   simp only [xT,List.mem_map,List.mem_filter,decide_eq_true_eq] at hq;obtain ⟨e,⟨he,hpe⟩,rfl⟩:=hq;refine ⟨by rw [jE hd.rise he];rfl,hpe,hd.keys e he,?_⟩
   have:=zC6 (p:=e.1) (by rw [hpe];exact hp0)
   rw [hpe] at this;exact this
  rw [qRt] at hnf hnt hr1 ⊢;obtain ⟨qs,hqs⟩:∃ qs,xT d p=qs:=⟨_,rfl⟩;rw [hqs] at hnf hnt hr1 hli ⊢
  have hsl:=aM qs
  have hqn:qs.length≤4194304:=by
   rw [← hqs,xT,List.length_map];exact Nat.le_trans (List.length_filter_le ..) hl
  refine sN (ι:=Nat) (fun i=>⟨[(0,.ptr 0 6 0 0),(1,.v (.string p)),(4,.v (.int .i64 0)),(18,.own 145),(19,.v (.int .i64 qs.length)),(20,.v (.int .i64 i))],
    [(0,.bx false 66 ((eF d v kn w ((qs.take i).flatMap (nD d k))).row v r3 r4 r5)),(1,.bx false 50 (d.cells r1 r2)),(145,.sl true 9 1 (bZ qs))]⟩)
   (fun i=>d.maps kS r1 r2 ++ (eF d v kn w ((qs.take i).flatMap (nD d k))).maps r3 r4 r5 n3 M3) (fun i=>i≤qs.length) (fun i=>qs.length - i) [0,1,4,18,19,20] [0,1,145] 0 ?_ rfl (Nat.zero_le _) ?_
  ·simp only [List.take_zero,List.flatMap_nil,qK8,wL,bW,hsl];rfl
  ·intro i hi;obtain ⟨W,hW⟩:∃ W,eF d v kn w ((qs.take i).flatMap (nD d k))=W:=⟨_,rfl⟩
   have hnu:=qAt d v kn ((qs.take i).flatMap (nD d k)) w
   rw [hW] at hnu;simp only [hW,wL,bW,eE,wM];refine aA ?_;refine aD (fun K hK=>?_);simp (disch:=omega) only [push_cast,↓iC9,simprocAttr];refine hK _ ?_;clear hK K
   refine aA ?_
   have hmx:(1099511627776:Nat) < maxLen:=by decide
   by_cases hiq:i < qs.length
   ·refine bS rfl (fun _=>?_) (fun h=>by simp at h;omega)
    have hln:=qAi (nD d k) qs (i + 1)
    rw [oY _ _ hiq,List.length_append] at hln;obtain ⟨q,hq⟩:∃ q,qs[i]=q:=⟨_,rfl⟩;obtain ⟨hqs1,hqp,hqz,hqp2⟩:=hli q (hq ▸ List.getElem_mem hiq);rw [hq] at hln;refine aY ?_;refine aA ?_;refine bR ?_;refine aA ?_;refine aD (fun K hK=>?_);simp (disch:=omega) only [push_cast,↓iC9,simprocAttr,jY hiq,hq];refine hK _ ?_;clear hK K
    have hvq:v.size + 1≤q.size:=by omega
    refine aA ?_;refine aD (fun K hK=>?_);simp (disch:=omega) only [push_cast,↓iC9,simprocAttr];(repeat refine ⟨by first|omega|decide|((repeat' apply And.intro) <;> first|omega|decide),?_⟩);refine hK _ ?_;clear hK K
    have hkind:=zDg d q r1 r2 hqz
    have hstamp:=zFy d q r1 r2 hqz
    have hread:=zH2 d q r1 r2 hqz
    simp only [bW,eE] at hkind hstamp hread;refine aA ?_;refine aA ?_;refine bK ?_;refine aQ 5 (fun K1 hK1=>?_);simp (disch:=omega) only [push_cast,↓iC9,simprocAttr];refine hK1 _ ?_;(try clear hK1 K1)
    refine qB8 ([]) ([.map r1 kS d.n (tab Itm.val d.L),.map r2 kS d.m (tab gN d.R)]) ([.map r3 70 n3 M3,.map r4 kS W.nf (tab kB W.F),.map r5 kS W.nt (tab gN W.T)]) rfl 296 [1] zLj (hkind) rfl rfl rfl rfl (by simp only [push_cast,simprocAttr];exact rfl) (by decide) (by decide) (by decide) (by simp only [push_cast,simprocAttr];try rfl) (by simp only [push_cast,simprocAttr];try rfl) ?_
    rintro _ _ _ ⟨rfl,rfl,rfl⟩;refine aQ 1 (fun K1 hK1=>?_);simp (disch:=omega) only [push_cast,↓iC9,simprocAttr,aF,aE];refine hK1 _ ?_;(try clear hK1 K1)
    refine bA ?_;refine aB ?_
    have hob:(gM v q).size≤maxLen:=by
     have:(gM v q).size≤q.size:=by unfold gM;rw [ByteArray.size_extract];omega
     have:(1048576:Nat)≤maxLen:=by decide
     omega
    have hown:q.extract (v.size + 1) q.size=gM v q:=rfl
    rw [hown]
    by_cases hkq:tN d q=1
    ·refine bS rfl (fun _=>?_) (fun h=>by simp [hkq] at h)
     refine aA ?_;refine bK ?_;refine aQ 6 (fun K1 hK1=>?_);simp (disch:=omega) only [push_cast,↓iC9,simprocAttr];refine hK1 _ ?_;(try clear hK1 K1)
     refine qRn (i:=3) (r:=r4) (n:=W.nf) (M:=tab kB W.F) (v:=kB (1,ByteArray.empty)) mtF rfl rfl rfl rfl (by omega) rfl rfl hob rfl rfl ?_
     rw [wS];refine bA ?_;refine aA ?_;refine aA ?_
     have hn1:(nD d k q).length=(vis d k q).length + 1:=by simp [nD,hkq]
     have hih:=ih q (W.dirW (gM v q)) (by omega) hqz (by omega) (fun e=>by subst e;have:(({ data:=#[] }:ByteArray)).size=0:=rfl;omega) (by show W.nf + 1 + _≤_;omega) (by show W.nt + _≤_;omega) (by show 0≤W.reads;omega) (by show W.reads + _≤_;omega)
     simp only [bW,wL,wM,eE] at hih;refine bK ?_;refine aQ 2 (fun K1 hK1=>?_);simp (disch:=omega) only [push_cast,↓iC9,simprocAttr];refine hK1 _ ?_;(try clear hK1 K1)
     refine dF 376 [0,1] zLi (hih) rfl rfl rfl rfl (by simp only [push_cast,simprocAttr];exact rfl) (by decide) (by decide) (by decide) (by simp only [push_cast,simprocAttr];try rfl) (by simp only [push_cast,simprocAttr];try rfl) ?_
     rintro _ _ _ ⟨rfl,rfl,rfl⟩;refine aQ 1 (fun K1 hK1=>?_);simp (disch:=omega) only [push_cast,↓iC9,simprocAttr,aF,aE];refine hK1 _ ?_;(try clear hK1 K1)
     refine bA ?_;refine aA ?_;refine aD (fun K hK=>?_);simp (disch:=omega) only [push_cast,↓iC9,simprocAttr];refine hK _ ?_;clear hK K
     refine aB ?_;refine bT rfl ?_;refine aY ?_;refine aB ?_;refine kL ?_;refine eJ ?_;refine kC ?_;refine aB ?_;refine aD (fun K hK=>?_);simp (disch:=omega) only [push_cast,↓iC9,simprocAttr];refine hK _ ?_;clear hK K
     refine aB ?_
     have hnext:eF d v kn w ((qs.take (i + 1)).flatMap (nD d k))=eF d v kn (W.dirW (gM v q)) (vis d k q):=by
      rw [oY _ _ hiq,qK9,hW,hq,nD,if_pos hkq,iU,iT,if_pos hkq]
     refine ⟨i + 1,?_,?_,by omega,by omega⟩
     ·rw [hnext];rfl
     ·rw [hnext]
    ·refine bS rfl (fun h=>by simp [hkq] at h) (fun _=>?_)
     refine aY ?_;refine aA ?_;refine cP [0,1,4,6,7,18,19,20] [0,1,145] (by simp only [zZ,zR,zP,zQ,zN,zS,zM,zX,zU,Nat.reduceEqDiff,reduceIte];exact rfl) ?_
     have hsq:0≤dL d q∧dL d q≤1099511627776:=by
      unfold dL fM
      cases hx:bM d.L q with
     |none=>rw [hx] at hqs1;cases hqs1
     |some x=>exact hst _ (fX hx)
     have hwf:(Lit.int .i64 (dL d q)).wf=true:=by
      simp only [Lit.wf,Bool.and_eq_true,decide_eq_true_eq];rw [show IntKind.i64.min=-9223372036854775808 from rfl,show IntKind.i64.max=9223372036854775807 from rfl]
      omega
     obtain ⟨nn,b,hlook,hb1,hb2⟩:∃ (nn:Nd) (b:Bool),nF (M3 (qQh (gM v q) (dL d q))) (kB (0,ByteArray.empty)) true=.tup [.agg [.v (.int .i64 nn.1),.v (.string nn.2)],.v (.bool b)]∧(b=true→kn (gM v q) (dL d q)=some nn)∧(b=false→kn (gM v q) (dL d q)=none):=by
      rw [hkn.is _ _ hob hwf]
      cases kn (gM v q) (dL d q) with
     |none=>exact ⟨(0,ByteArray.empty),false,rfl,fun h=>(by cases h),fun _=>rfl⟩
     |some n=>exact ⟨n,true,rfl,fun _=>rfl,fun h=>(by cases h)⟩
     skip
     refine qVl (ι:=St5) 18 [(10,.int .i64 (dL d q)),(16,.bool false),(17,.bool false)] [9]
      [(9,.v (.bool false)),(66,.v (.bool b)),(65,.agg [.v (.int .i64 nn.1),.v (.string nn.2)]),(51,.tup [.agg [.v (.int .i64 nn.1),.v (.string nn.2)],.v (.bool b)]),(64,.tup [.agg [.v (.int .i64 nn.1),.v (.string nn.2)],.v (.bool b)]),(63,.agg [.v (.string (gM v q)),.v (.int .i64 (dL d q))]),(62,.v (.int .i64 (dL d q))),(61,.v (.string q)),(60,.ptr 1 6 0 0),(59,.ptr 0 6 0 0),(58,.ptr 0 6 0 0),(57,.ptr 0 6 0 0),(56,.v (.string (gM v q))),(55,.v (.map (some r3))),(54,.ptr 0 6 0 2),(53,.ptr 0 6 0 0),(52,.ptr 0 6 0 0)]
      [(66,.v (.bool b)),(65,.agg [.v (.int .i64 nn.1),.v (.string nn.2)]),(51,.tup [.agg [.v (.int .i64 nn.1),.v (.string nn.2)],.v (.bool b)]),(64,.tup [.agg [.v (.int .i64 nn.1),.v (.string nn.2)],.v (.bool b)]),(63,.agg [.v (.string (gM v q)),.v (.int .i64 (dL d q))]),(62,.v (.int .i64 (dL d q))),(61,.v (.string q)),(60,.ptr 1 6 0 0),(59,.ptr 0 6 0 0),(58,.ptr 0 6 0 0),(57,.ptr 0 6 0 0),(56,.v (.string (gM v q))),(55,.v (.map (some r3))),(54,.ptr 0 6 0 2),(53,.ptr 0 6 0 0),(52,.ptr 0 6 0 0)]
      (s5 nn _) (fun _=>[.map r1 kS d.n (tab Itm.val d.L),.map r2 kS d.m (tab gN d.R),.map r3 70 n3 M3,.map r4 kS W.nf (tab kB W.F),.map r5 kS W.nt (tab gN W.T)]) e5 d5 .a mixed (by kernel_rfl) (by kernel_rfl) rfl rfl rfl (fun _ _=>rfl) (by kernel_rfl) rfl (fun s=>by cases s <;> rfl) ?_ ?_ ?_
     ·intro s K1 hK1
      cases s
      all_goals
       simp only [qPk,qKh,qL4,qF1,qU6,cond_true,cond_false,Nat.reduceBEq,Nat.reduceAdd,s5];refine qAr 12 (Nat.le_of_ble_eq_true rfl) (fun K2 hK2=>?_)
       simp (disch:=omega) only [push_cast,↓iC9,simprocAttr];refine hK2 _ ?_;refine zBu (q:=2) rfl mtK rfl rfl rfl rfl rfl rfl rfl (xV hob hwf) ?_;rw [hlook];refine qAr 5 (Nat.le_of_ble_eq_true rfl) (fun K3 hK3=>?_)
       simp (disch:=omega) only [push_cast,↓iC9,simprocAttr];refine hK3 _ ?_;refine qRp ?_;exact hK1 _ rfl
     ·intro s q' o hx ho hD hdep
      have hq':q'=10∨q'=16∨q'=17:=by
       simp only [qS,List.any_cons,List.any_nil,Bool.or_false,Bool.or_eq_true,beq_iff_eq] at hx;omega
      rcases hq' with rfl|rfl|rfl
      ·cases s
       case a =>
        cases ho
        simp only [s5,e5,List.nil_append,List.cons_append];refine qB9 ([]) ([.map r1 kS d.n (tab Itm.val d.L),.map r2 kS d.m (tab gN d.R)]) ([.map r3 70 n3 M3,.map r4 kS W.nf (tab kB W.F),.map r5 kS W.nt (tab gN W.T)]) rfl 496 [1] zJk (hstamp) rfl rfl (by simp only [push_cast,simprocAttr];exact rfl) (by decide) (by decide) (by decide) (by simp only [push_cast,simprocAttr];try rfl) (by simp only [push_cast,simprocAttr];try rfl) ?_
        rintro _ _ _ ⟨rfl,rfl,rfl⟩;refine ⟨.b,fun j=>by cases j <;> simp [d5,Bool.or_comm],?_,?_,rfl⟩
        ·(simp (disch:=omega) only [push_cast,↓iC9,simprocAttr,aF,aE,List.nil_append,List.cons_append,cT,cC,cS,cB,e5,s5];repeat' first|exact trivial|refine And.intro rfl ?_)
        ·(simp (disch:=omega) only [push_cast,↓iC9,simprocAttr,aF,aE,List.nil_append,List.cons_append,cT,cC,cS,cB,e5,s5];repeat' first|exact trivial|refine And.intro rfl ?_)
       case c =>
        cases ho
        simp only [s5,e5,List.nil_append,List.cons_append];refine qB9 ([]) ([.map r1 kS d.n (tab Itm.val d.L),.map r2 kS d.m (tab gN d.R)]) ([.map r3 70 n3 M3,.map r4 kS W.nf (tab kB W.F),.map r5 kS W.nt (tab gN W.T)]) rfl 496 [1] zJk (hstamp) rfl rfl (by simp only [push_cast,simprocAttr];exact rfl) (by decide) (by decide) (by decide) (by simp only [push_cast,simprocAttr];try rfl) (by simp only [push_cast,simprocAttr];try rfl) ?_
        rintro _ _ _ ⟨rfl,rfl,rfl⟩;refine ⟨.d,fun j=>by cases j <;> simp [d5,Bool.or_comm],?_,?_,rfl⟩
        ·(simp (disch:=omega) only [push_cast,↓iC9,simprocAttr,aF,aE,List.nil_append,List.cons_append,cT,cC,cS,cB,e5,s5];repeat' first|exact trivial|refine And.intro rfl ?_)
        ·(simp (disch:=omega) only [push_cast,↓iC9,simprocAttr,aF,aE,List.nil_append,List.cons_append,cT,cC,cS,cB,e5,s5];repeat' first|exact trivial|refine And.intro rfl ?_)
       all_goals exact absurd hD (by decide)
      ·cases s
       case a =>
        cases ho
        simp only [s5,e5,List.nil_append,List.cons_append];refine qD8 (N:=112) (ds:=[]) rfl (fun K1 hK1=>?_)
        simp (disch:=omega) only [push_cast,↓iC9,simprocAttr];refine hK1 _ ?_;refine ⟨.c,fun j=>by cases j <;> simp [d5,Bool.or_comm],?_,?_,rfl⟩
        ·(simp (disch:=omega) only [push_cast,↓iC9,simprocAttr,aF,aE,List.nil_append,List.cons_append,cT,cC,cS,cB,e5,s5];repeat' first|exact trivial|refine And.intro rfl ?_)
        ·(simp (disch:=omega) only [push_cast,↓iC9,simprocAttr,aF,aE,List.nil_append,List.cons_append,cT,cC,cS,cB,e5,s5];repeat' first|exact trivial|refine And.intro rfl ?_)
       case b =>
        cases ho
        simp only [s5,e5,List.nil_append,List.cons_append];refine qD8 (N:=112) (ds:=[]) rfl (fun K1 hK1=>?_)
        simp (disch:=omega) only [push_cast,↓iC9,simprocAttr];refine hK1 _ ?_;refine ⟨.d,fun j=>by cases j <;> simp [d5,Bool.or_comm],?_,?_,rfl⟩
        ·(simp (disch:=omega) only [push_cast,↓iC9,simprocAttr,aF,aE,List.nil_append,List.cons_append,cT,cC,cS,cB,e5,s5];repeat' first|exact trivial|refine And.intro rfl ?_)
        ·(simp (disch:=omega) only [push_cast,↓iC9,simprocAttr,aF,aE,List.nil_append,List.cons_append,cT,cC,cS,cB,e5,s5];repeat' first|exact trivial|refine And.intro rfl ?_)
       all_goals exact absurd hD (by decide)
      ·cases s
       case d =>
        cases ho
        simp only [s5,e5,List.nil_append,List.cons_append];refine qD8 (N:=112) (ds:=[]) rfl (fun K1 hK1=>?_)
        simp (disch:=omega) only [push_cast,↓iC9,simprocAttr];refine hK1 _ ?_;refine ⟨.e,fun j=>by cases j <;> simp [d5,Bool.or_comm],?_,?_,rfl⟩
        ·(simp (disch:=omega) only [push_cast,↓iC9,simprocAttr,aF,aE,List.nil_append,List.cons_append,cT,cC,cS,cB,e5,s5];repeat' first|exact trivial|refine And.intro rfl ?_)
        ·(simp (disch:=omega) only [push_cast,↓iC9,simprocAttr,aF,aE,List.nil_append,List.cons_append,cT,cC,cS,cB,e5,s5];repeat' first|exact trivial|refine And.intro rfl ?_)
       case e=>exact absurd hD (by decide)
       all_goals first|exact absurd (hdep 10 (by kernel_rfl) rfl) (by decide)|exact absurd (hdep 16 (by kernel_rfl) rfl) (by decide)
     ·intro s hs
      cases s
      case e =>
       simp only [s5,e5,List.nil_append,List.cons_append];refine aQ 1 (fun K1 hK1=>?_);simp (disch:=omega) only [push_cast,↓iC9,simprocAttr,aF,aE];refine hK1 _ ?_;(try clear hK1 K1)
       refine bA ?_;refine cP [0,1,4,6,7,9,10,18,19,20] [0,1,72,145] (by simp only [zZ,zR,zP,zQ,zN,zS,zM,zX,zU,Nat.reduceEqDiff,reduceIte];exact rfl) ?_
       refine aA ?_;refine aA ?_;refine aD (fun K hK=>?_);simp (disch:=omega) only [push_cast,↓iC9,simprocAttr];refine hK _ ?_;clear hK K
       refine aB ?_;refine zFp (ι:=Nd × Int) (fun j=>⟨[(0,.ptr 0 6 0 0),(1,.v (.string p)),(4,.v (.int .i64 0)),(6,.v (.string q)),(7,.v (.string (gM v q))),(9,.ptr 72 2 0 0),(18,.own 145),(19,.v (.int .i64 qs.length)),(20,.v (.int .i64 i))],
         [(0,.bx false 66 [.ptr 1 6 0 0,.v (.string v),.v (.map (some r3)),.v (.map (some r4)),.v (.map (some r5)),.v (.int .i64 (W.reads + j.2))]),(1,.bx false 50 [.v (.map (some r1)),.v (.map (some r2)),.v (.int .i64 d.steps),.v (.int .i64 d.stamps),.v (.int .i64 d.armed),.v (.bool d.down)]),(72,.bx true 29 [.v (.int .i64 j.1.1),.v (.string j.1.2)]),(145,.sl true 9 1 (bZ qs))]⟩)
        (fun _=>[.map r1 kS d.n (tab Itm.val d.L),.map r2 kS d.m (tab gN d.R),.map r3 70 n3 M3,.map r4 kS W.nf (tab kB W.F),.map r5 kS W.nt (tab gN W.T)])
        (fun j=>iT d v kn W q=W.fileW (gM v q) j.1 (dL d q) j.2) [0,1,4,6,7,9,18,19,20] [0,1,72,145] ?_ ?_
       ·cases b with
       |true =>
         refine bT rfl ?_;refine aY ?_;refine aB ?_;refine ⟨(nn,0),?_,rfl,?_⟩
         ·simp only [Int.add_zero];rfl
         ·rw [iT,if_neg hkq,hb1 rfl]
       |false =>
         refine dP rfl ?_
         have hrd:(nB d q).2=0:=by
          unfold tN at hkq
          have hh:has d q=true:=hqs1
          rw [hh] at hkq;unfold nB;rw [hdn,hh];simp at hkq;simp [hkq]
         rw [hrd] at hread;refine aA ?_;refine bK ?_;refine aQ 5 (fun K1 hK1=>?_);simp (disch:=omega) only [push_cast,↓iC9,simprocAttr];refine hK1 _ ?_;(try clear hK1 K1)
         refine qB8 ([]) ([.map r1 kS d.n (tab Itm.val d.L),.map r2 kS d.m (tab gN d.R)]) ([.map r3 70 n3 M3,.map r4 kS W.nf (tab kB W.F),.map r5 kS W.nt (tab gN W.T)]) rfl 600 [1] zMe (hread) rfl rfl rfl rfl (by simp only [push_cast,simprocAttr];exact rfl) (by decide) (by decide) (by decide) (by simp only [push_cast,simprocAttr];try rfl) (by simp only [push_cast,simprocAttr];try rfl) ?_
         rintro _ _ _ ⟨rfl,rfl,rfl⟩;refine aQ 5 (fun K1 hK1=>?_);simp (disch:=omega) only [push_cast,↓iC9,simprocAttr,aF,aE];refine hK1 _ ?_;(try clear hK1 K1)
         refine bA ?_;refine aA ?_;refine aA ?_;refine aD (fun K hK=>?_);simp (disch:=omega) only [push_cast,↓iC9,simprocAttr];refine hK _ ?_;clear hK K
         refine aB ?_;refine bT rfl ?_;refine aY ?_;refine aA ?_;refine aD (fun K hK=>?_);simp (disch:=omega) only [push_cast,↓iC9,simprocAttr];refine hK _ ?_;clear hK K
         refine aB ?_;refine aD (fun K hK=>?_);simp (disch:=omega) only [push_cast,↓iC9,simprocAttr];refine hK _ ?_;clear hK K
         refine aB ?_;refine ⟨((2,(nB d q).1),1),?_,rfl,?_⟩
         ·rfl
         ·rw [iT,if_neg hkq,hb2 rfl]
       ·rintro ⟨n,r⟩ hj;dsimp only at hj ⊢
        skip
        refine qVl (ι:=St7) 20 [(16,.int .i64 (dL d q)),(17,.bool false),(18,.bool false),(19,.bool false)] [107,108]
         [(108,.v (.bool false)),(107,.v (.bool false)),(106,.v (.int .i64 (dL d q))),(105,.v (.string q)),(104,.ptr 1 6 0 0),(103,.ptr 0 6 0 0),(102,.ptr 0 6 0 0),(101,.ptr 0 6 0 0),(100,.agg [.v (.int .i64 n.1),.v (.string n.2)]),(99,.v (.string (gM v q))),(98,.v (.map (some r5))),(97,.ptr 0 6 0 4),(96,.ptr 0 6 0 0),(95,.ptr 0 6 0 0),(94,.v (.string (gM v q))),(93,.v (.map (some r4))),(92,.ptr 0 6 0 3),(91,.ptr 0 6 0 0),(90,.ptr 0 6 0 0)]
         [(106,.v (.int .i64 (dL d q))),(105,.v (.string q)),(104,.ptr 1 6 0 0),(103,.ptr 0 6 0 0),(102,.ptr 0 6 0 0),(101,.ptr 0 6 0 0),(100,.agg [.v (.int .i64 n.1),.v (.string n.2)]),(99,.v (.string (gM v q))),(98,.v (.map (some r5))),(97,.ptr 0 6 0 4),(96,.ptr 0 6 0 0),(95,.ptr 0 6 0 0),(94,.v (.string (gM v q))),(93,.v (.map (some r4))),(92,.ptr 0 6 0 3),(91,.ptr 0 6 0 0),(90,.ptr 0 6 0 0)]
         (fun _=>_) (g7 r4 W.nf (tab kB W.F) (gM v q).data.toList (kB n) [.map r1 kS d.n (tab Itm.val d.L),.map r2 kS d.m (tab gN d.R),.map r3 70 n3 M3] [.map r5 kS W.nt (tab gN W.T)]) e7 d7 .a mixed (by kernel_rfl) (by kernel_rfl) rfl rfl rfl (fun _ _=>rfl) (by kernel_rfl) rfl (fun s=>by cases s <;> rfl) ?_ ?_ ?_
        ·intro s K1 hK1;simp only [qPk,qKh,qL4,qF1,qU6,cond_true,cond_false,Nat.reduceBEq,Nat.reduceAdd];refine qAr 20 (Nat.le_of_ble_eq_true rfl) (fun K2 hK2=>?_)
         simp (disch:=omega) only [push_cast,↓iC9,simprocAttr];refine hK2 _ ?_;refine qRp ?_;exact hK1 _ rfl
        ·intro s q' o hx ho hD hdep
         have hq':q'=16∨q'=17∨q'=18∨q'=19:=by
          simp only [qS,List.any_cons,List.any_nil,Bool.or_false,Bool.or_eq_true,beq_iff_eq] at hx;omega
         rcases hq' with rfl|rfl|rfl|rfl
         ·cases s
          case a =>
           cases ho
           simp only [e7,g7,List.nil_append,List.cons_append];refine qB9 ([]) ([.map r1 kS d.n (tab Itm.val d.L),.map r2 kS d.m (tab gN d.R)]) ([.map r3 70 n3 M3,.map r4 kS W.nf (tab kB W.F),.map r5 kS W.nt (tab gN W.T)]) rfl 848 [1] zJk (hstamp) rfl rfl (by simp only [push_cast,simprocAttr];exact rfl) (by decide) (by decide) (by decide) (by simp only [push_cast,simprocAttr];try rfl) (by simp only [push_cast,simprocAttr];try rfl) ?_
           rintro _ _ _ ⟨rfl,rfl,rfl⟩;refine ⟨.b,fun j=>by simp [d7,Bool.or_comm],?_,?_,rfl⟩
           ·(simp (disch:=omega) only [push_cast,↓iC9,simprocAttr,aF,aE,List.nil_append,List.cons_append,cT,cC,cS,cB,e7];repeat' first|exact trivial|refine And.intro rfl ?_)
           ·(simp (disch:=omega) only [push_cast,↓iC9,simprocAttr,aF,aE,List.nil_append,List.cons_append,cT,cC,cS,cB,e7];repeat' first|exact trivial|refine And.intro rfl ?_)
          all_goals exact absurd hD (by simp [d7])
         ·cases s
          case b =>
           cases ho
           simp only [e7,g7,List.nil_append,List.cons_append];refine qP0 (i:=3) (r:=r4) (n:=W.nf) (M:=tab kB W.F) mtF rfl rfl (by omega) rfl rfl hob (fun e=>?_)
           refine ⟨.m e,fun j=>by simp [d7,Bool.or_comm],?_,?_,rfl⟩
           ·(simp (disch:=omega) only [push_cast,↓iC9,simprocAttr,aF,aE,List.nil_append,List.cons_append,cT,cC,cS,cB,e7];repeat' first|exact trivial|refine And.intro rfl ?_)
           ·(simp (disch:=omega) only [push_cast,↓iC9,simprocAttr,aF,aE,List.nil_append,List.cons_append,cT,cC,cS,cB,e7];repeat' first|exact trivial|refine And.intro rfl ?_)
          case a=>exact absurd (hdep 16 (by kernel_rfl) rfl) (by simp [d7])
          all_goals exact absurd hD (by simp [d7])
         ·cases s
          case m e =>
           cases ho
           simp only [e7,g7,List.nil_append,List.cons_append];refine qD8 (N:=112) (ds:=[]) rfl (fun K1 hK1=>?_)
           simp (disch:=omega) only [push_cast,↓iC9,simprocAttr];refine hK1 _ ?_;refine ⟨.x e,fun j=>by simp [d7,Bool.or_comm],?_,?_,rfl⟩
           ·(simp (disch:=omega) only [push_cast,↓iC9,simprocAttr,aF,aE,List.nil_append,List.cons_append,cT,cC,cS,cB,e7];repeat' first|exact trivial|refine And.intro rfl ?_)
           ·(simp (disch:=omega) only [push_cast,↓iC9,simprocAttr,aF,aE,List.nil_append,List.cons_append,cT,cC,cS,cB,e7];repeat' first|exact trivial|refine And.intro rfl ?_)
          case a=>exact absurd (hdep 17 (by kernel_rfl) rfl) (by simp [d7])
          case b=>exact absurd (hdep 17 (by kernel_rfl) rfl) (by simp [d7])
          all_goals exact absurd hD (by simp [d7])
         ·cases s
          case x e =>
           cases ho
           simp only [e7,g7,List.nil_append,List.cons_append];refine qKt (i:=3) (r:=r4) (n:=W.nf) (M:=tab kB W.F) (s:=(gM v q).data.toList) (st:=e) (v:=kB n) rfl rfl rfl rfl rfl rfl ?_;refine ⟨.z e,fun j=>by simp [d7,Bool.or_comm],?_,?_,rfl⟩
           ·(simp (disch:=omega) only [push_cast,↓iC9,simprocAttr,aF,aE,List.nil_append,List.cons_append,cT,cC,cS,cB,e7];repeat' first|exact trivial|refine And.intro rfl ?_)
           ·(simp (disch:=omega) only [push_cast,↓iC9,simprocAttr,aF,aE,List.nil_append,List.cons_append,cT,cC,cS,cB,e7];repeat' first|exact trivial|refine And.intro rfl ?_)
          case z=>exact absurd hD (by simp [d7])
          all_goals exact absurd (hdep 18 (by kernel_rfl) rfl) (by simp [d7])
        ·intro s hs
         cases s
         case z e =>
          simp only [e7,g7,List.nil_append,List.cons_append];refine qRo rfl rfl (qP0 (i:=4) (r:=r5) (n:=W.nt) (M:=tab gN W.T) mtT rfl rfl (by omega) rfl rfl hob (fun e2=>?_))
          refine aQ 1 (fun K1 hK1=>?_);simp (disch:=omega) only [push_cast,↓iC9,simprocAttr,aF,aE];refine hK1 _ ?_;(try clear hK1 K1)
          refine qRo rfl rfl (qKt (i:=4) (r:=r5) (n:=W.nt) (M:=tab gN W.T) (s:=(gM v q).data.toList) (st:=e2) (v:=gN (dL d q)) rfl rfl rfl rfl rfl rfl ?_);rw [wS,wS];refine bA ?_;refine bP ?_;refine aB ?_;refine aD (fun K hK=>?_);simp (disch:=omega) only [push_cast,↓iC9,simprocAttr];refine hK _ ?_;clear hK K
          refine aB ?_
          have hnext:eF d v kn w ((qs.take (i + 1)).flatMap (nD d k))=W.fileW (gM v q) n (dL d q) r:=by
           rw [oY _ _ hiq,qK9,hW,hq,nD,if_neg hkq,iU,qK8,hj]
          refine ⟨i + 1,?_,?_,by omega,by omega⟩
          ·rw [hnext];rfl
          ·rw [hnext];rfl
         all_goals exact absurd (hs 19 rfl) (by simp [d7])
      all_goals exact absurd (hs 17 rfl) (by decide)
   ·have hie:i=qs.length:=by omega
    refine bS rfl (fun h=>by simp at h;omega) (fun _=>?_)
    refine kL ?_;refine eJ ?_;refine eJ ?_;refine kC ?_;refine aA ?_;refine aD (fun K hK=>?_);simp (disch:=omega) only [push_cast,↓iC9,simprocAttr];refine hK _ ?_;clear hK K
    refine aB ?_;refine bN ?_;simp only [aN,aU,yH,yE,yK,yJ,aW,zS,zM,Nat.reduceEqDiff,reduceIte,reduceCtorEq];refine dA [0,1] [] (by first|rfl|simp [bsL,MO.bs]) (by decide) (by decide) (by simp only [push_cast,simprocAttr]) (by simp only [push_cast,simprocAttr]) (by simp only [push_cast,simprocAttr];rfl) (by simp only [push_cast,simprocAttr];rfl) ?_
    have hfin:eF d v kn w (qs.flatMap (nD d k))=W:=by rw [← hW,hie,List.take_length]
    rw [hfin];exact ⟨rfl,rfl,rfl⟩
end Go.Proofs.YtdmnijnogabchaaDoor
