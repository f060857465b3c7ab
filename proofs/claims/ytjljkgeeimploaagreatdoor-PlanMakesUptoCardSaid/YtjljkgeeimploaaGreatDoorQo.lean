/- What the walk of the law stands on. -/
import Derived.Test.YtjljkgeeimploaaGreatDoorQn
import Derived.RangeFuncKeeps
import Derived.RangeFuncLeaves
import Derived.RangeFuncNested
import Derived.RangeFuncBox
import Derived.Shelf.Abstract
set_option linter.defProp false
set_option maxRecDepth 20000
set_option maxHeartbeats 16000000
namespace Go.Eng
open Go Go.RowKit
variable {P:Program} {N:Nat}
def MD (P:Program) (N:Nat) (fn:Func) (R:Value→World→Prop) (ds:List Deferred) (c:Code) (l:Env) (w:World):Prop :=
 cC N l=true→∀ F:Fr N,F.ds=(ds,none)→c.wpIn (FW none) 0 P (bodyPostM Fence.wide 0 P fn (Ret R)) (mk F l) w
theorem qWu {f:FuncId} {fn:Func} {c:Code} {args:List Value} {w:World} {R:Value→World→Prop}
  (hf:P.funcs[f]?=some fn) (hb:fn.body=some c) (hN:fn.ntmps=N) (hle:args.length≤N)
  (h:MD P N fn R [] c (nE 0 args) w):Calls P f args.toArray w (Ret R):=by
 subst hN;refine (bDl (n:=0)).1 (callsIn_of_wp_marks (F:=Fence.wide) hf hb trivial ?_)
 let F:Fr fn.ntmps:=⟨args.toArray ++ Array.replicate (fn.ntmps - args.toArray.size) undef,by simp;omega,([],none)⟩
 have e:mk F (nE 0 args)={ tmps:=args.toArray ++ Array.replicate (fn.ntmps - args.toArray.size) undef,defers:=[] }:=by
  show Act.mk _ _=Act.mk _ _
  rw [qFu];intro p hp;obtain ⟨_,h2⟩:=qGy args 0 p hp;simp only [t8] at h2
  have hlt:p.1 < args.length:=by
   rcases s4 p.1 args.length with h|h
   ·exact h
   ·rw [bA1 h] at h2;cases h2
  show (args.toArray ++ Array.replicate (fn.ntmps - args.toArray.size) undef)[p.1]?=some p.2
  rw [bB2 (by simpa using hlt)]
  simpa using h2
 rw [← e];exact h (qDz 0 args (by simpa using hle)) F rfl
theorem yEd {fn:Func} {R:Value→World→Prop} {ds:List Deferred} {x y:Code} {l:Env} {w:World}
  (h:W P N x (fun e l' w'=>e=.normal∧MD P N fn R ds y l' w') l w):MD P N fn R ds (.seq x y) l w:=fun hk F hF=>by
 have h1:=h hk F
 rw [hF] at h1;refine wpIn_seq (bB9 ?_ h1);rintro e a w' ⟨F',l',hf,rfl,hk',he,hQ⟩;subst he;exact hQ hk' F' hf
theorem yEe {fn:Func} {R:Value→World→Prop} {D:Nat} {c:Code} {l:Env} {w:World}
  (h:W P N c (fun e l' w'=>(e=.normal∨e=.ret)∧w'.heap[D]?=some (.deferred (some []))∧jE P l' (w'.putObj D (.deferred none)) fn.results.toList fun vs=>R (tup vs) (w'.putObj D (.deferred none))) l w) :
  MD P N fn R [{ target:=.collected D,args:=#[] }] c l w:=fun hk F hF=>by
 have h1:=h hk F
 rw [hF] at h1;refine bB9 ?_ h1;rintro e a w' ⟨F',l',hf,rfl,hk',he,hD,hr⟩;obtain ⟨v,r1,r2⟩:=qDd F' hk' hr
 have hl:LeavesInM Fence.wide 0 P fn (mk F' l').tmps (Ret R) (mk F' l').defers .returning w':=by
  have:(mk F' l').defers=[{ target:=.collected D,args:=#[] }]:=congrArg Prod.fst hf
  rw [this];exact ⟨by simp,.inl ⟨D,_,rfl,run_takeDeferred hD,v,r1,r2⟩⟩
 rcases he with rfl|rfl
 ·exact hl
 ·exact hl
end Go.Eng
namespace Go.Eng
open Go Go.RowKit
section
variable {c:Ctx} {S S':HS} {look:Nat→Option Value} {w w':World} {ρ:Nat→Value} {xs:Nat→List Value}
theorem qRi {b o:Nat} {u:Value} {x:Obj} (h:w.heap[b]?=some x) (hx:x.isCells=false) (hu:w.cell? ⟨b,o,none⟩=some u):False:=by
 cases x with
|cells=>cases hx
|_=>simp only [World.cell?,h] at hu;cases hu
theorem qZk (G:Good c S look w ρ xs) {b:Nat} {x:Obj} (h:w.heap[b]?=some x) (hx:x.isCells=false):¬ fR ρ S.st b:=by
 rintro ⟨i,s,hi,hb⟩
 rcases (G.rows i s hi).own.2 with ⟨h2,_⟩|⟨g',cap,cur,h2,_,h3,_⟩
 ·rw [h2] at hb;cases hb
 ·rw [h2] at hb;simp only [Value.ownBlock,a6] at hb;subst hb;rw [h] at h3
  cases h3
  cases hx
theorem Good.grown (G:Good c S look w ρ xs) {row:Option Nat} (hg:w.grownBy w' row) (hr:∀ r,row=some r→c.w0.heap.size≤r∧∃ o:Obj,w.heap[r]?=some o∧o.isCells=false):Good c S look w' ρ xs:=by
 refine G.upm hg.size (fun a o u hu=>?_) (fun a ha=>hg.block a ?_ fun e=>?_) ?_
 ·rw [gU (hg.block a (bDo w ⟨a,o,none⟩ hu) fun e=>?_)]
  ·exact hu
  ·obtain ⟨_,x,h1,h2⟩:=hr a e.symm;exact qRi h1 h2 hu
 ·obtain ⟨i,s,h5,h6⟩:=ha;exact G.lt h5 h6
 ·obtain ⟨_,x,h1,h2⟩:=hr a e.symm;exact qZk G h1 h2 ha
 ·exact G.kept.trans (T':=fun a=>some a=row) ⟨hg.os,hg.tape,hg.output,hg.size,fun a ha hne=>hg.block a ha fun e=>hne e⟩ fun a ha e=>by
   have:=(hr a e.symm).1
   omega
end
section
variable {P:Program} {N:Nat} {fn:Func} {Q:HV→aC→Prop} {S S':HS}
def yHw (Q:HV→aC→Prop) (w0:World) (v:Value) (w':World):Prop :=
 Below w0.heap.size w0 w'∧∃ h st',(∀ i r,rlk st' i=some r→i < 8)∧Q h st'∧InvV (cx w0 (fun _=>False) (fun b=>b < w0.heap.size)) ⟨[],st'⟩ h v (fun _=>none) w'
def HMD (P:Program) (N:Nat) (fn:Func) (Q:HV→aC→Prop) (x:Code) (S:HS):Prop :=
 ∀ (w0:World) (l:Env) (w:World),Inv (cx w0 (fun _=>False) (fun _=>False)) S (lk l) w→MD P N fn (yHw Q w0) [] x l w
theorem zFo {x y:Code} (h:HW P N x (fun e S'=>e=.normal∧HMD P N fn Q y S') S):HMD P N fn Q (.seq x y) S:=fun w0 l w I =>
 yEd ((h _ l w I).mono fun e l' w' ⟨S',I',he,h'⟩=>⟨he,h' w0 l' w' I'⟩)
theorem zT3 {x:Code} (ks ids:List Nat) {S':HS} (he:S.keep ks ids=S') (h:HMD P N fn Q x S'):HMD P N fn Q x S:=fun w0 l w I=>h w0 l w (by rw [← he];exact I.keep ks ids)
theorem yGk {f:FuncId} {x:Code} {args:List HV} (hf:P.funcs[f]?=some fn) (hb:fn.body=some x) (hN:fn.ntmps=N) (hle:args.length≤N) (h:HMD P N fn Q x ⟨nD 0 args,[]⟩):HFun P f args Q:=fun w vs R=>by
 refine qWu hf hb hN (by rw [R.1];exact hle) (h w _ _ ?_)
 refine ⟨fun _=>undef,fun _=>[],fun id r hr=>by simp [rlk] at hr,fun i j r s b hne hi=>by simp [rlk] at hi,fun k h hk=>?_,Kept.refl _ _,fun b hb=>hb.elim⟩
 obtain ⟨-,h2⟩:=oT args 0 k h hk;rw [t8] at h2;obtain ⟨hlt,rfl⟩:=i5.1 h2
 have hlt':k < vs.length:=by rw [R.1];exact hlt
 refine ⟨vs[k],sQ vs 0 k _ (g7 _) (by simp [hlt']),(R.2 k hlt' hlt).up (a7 _) (fun _ _ _=>rfl) (fun b _ hA=>?_) (a7 _)⟩
 rcases hA with h0|⟨i,r,hi,-⟩
 ·exact h0
 ·simp [rlk] at hi
theorem zP8 {l:Env} {a k:Nat} {v:Value} (h:a≠k):lk ((a,v) :: l) k=lk l k:=by simp only [lk];rw [b7 h]
theorem zDs {reg assign body rest:Code} {tg t13 ti tx b0 t1:Nat} {tsl:TypeId} {gf:FuncId} {env:aT} {st:aC} {fr:Bool} (h1:hlk env t1=some (.lst fr []))
  (hfr:∀ k x,hlk env k=some x→tg≠k∧t13≠k)
  (hreg:∀ (l:Env) (w:World) (a:Option Addr) (n cap:Nat),lk l t1=some (.slice a n cap)→W P N reg (fun e l' w'=>e=.normal∧l'=(tg,.func (.func gf) #[] #[.pointer (some ⟨w.heap.size,0,none⟩)]) :: (t13,.slice a n cap) :: l∧w'=w.alloc (.cells #[.slice a n cap] tsl)) l w)
  (eg:∀ args w,(callFunc gf args).run P w=.ok (.enter gf args) w)
  (hseq:∀ (l Bs:Nat) (a:Option Addr) (cap:Nat) (J:World→Prop) (W:World),W.cell? ⟨Bs,0,none⟩=some (.slice a 0 cap)→J W→CallsIn Fence.wide 1 P gf #[.func (.yield l) #[] #[],.pointer (some ⟨Bs,0,none⟩)] W fun e W'=>(∃ v,e=.returned v)∧J W')
  (hrest:∀ D,HWM P N rest (fun e g S=>(e=.normal∨e=.ret)∧g=[.dfr D]∧mB P S fn.results.toList fun hs=>qBf S (qF hs) Q) [.dfr D] ⟨env,st⟩) :
  HMD P N fn Q (.seq (.seq reg (.block b0 (.rangeFunc (.tmp tg) #[ti,tx] assign body))) rest) ⟨env,st⟩:=fun w0 l w I hk F hF=>by
 obtain ⟨c,hc⟩:∃ c,cx w0 (fun _=>False) (fun _=>False)=c:=⟨_,rfl⟩
 obtain ⟨ρ,ys,G⟩:=I;rw [hc] at G;obtain ⟨v1,hv1,hr1⟩:=G.env t1 _ h1
 cases hr1 with
|lst hr1 =>
 cases hr1 with
|@lst a n cap _ _ sz vals hn hcap hm hnil hsz ha hone vX =>
 obtain rfl:n=0:=hn.symm
 have h13:=hreg l w a 0 cap hv1 hk F
 rw [hF] at h13;refine wpIn_seq (wpIn_seq (bB9 ?_ h13));rintro e A1 w1 ⟨F1,l1,hf1,rfl,hk1,rfl,rfl,rfl⟩;show (Code.block b0 _).wpIn Fence.wide 0 P _ _ _
 refine wpIn_block ?_;refine wpIn_wide.2 (wpIn_wide (n:=2).1 ?_);obtain ⟨w1,hw1⟩:∃ w1,w.alloc (.cells #[.slice a 0 cap] tsl)=w1:=⟨_,rfl⟩
 have hsz1:w1.heap.size=w.heap.size + 1:=by rw [← hw1];exact World.size_alloc _ _
 have hb1:Below w.heap.size w w1:=by rw [← hw1];exact (Below.refl _ w).alloc (a7 _) _
 have hBs:w1.cell? ⟨w.heap.size,0,none⟩=some (.slice a 0 cap):=by
  rw [← hw1];unfold World.cell?;rw [World.alloc_heap_new];rfl
 obtain ⟨lg,hlg⟩:∃ lg,((tg,Value.func (.func gf) #[] #[.pointer (some ⟨w.heap.size,0,none⟩)]) :: (t13,Value.slice a 0 cap) :: l:Env)=lg:=⟨_,rfl⟩
 have G1:Good c ⟨env,st⟩ (lk lg) w1 ρ ys:=by
  have:=G.below hb1
  exact ⟨this.rows,this.apart,fun k x hx=>by
   obtain ⟨q1,q2⟩:=hfr k x hx;rw [← hlg,zP8 q1,zP8 q2];exact this.env k x hx,this.kept,this.a0⟩
 have hlk1:cC N lg=true:=by rw [← hlg];exact hk1
 have hgv:lk lg tg=some (.func (.func gf) #[] #[.pointer (some ⟨w.heap.size,0,none⟩)]):=by rw [← hlg];simp [lk]
 rw [hw1,hlg]
 have hF1:F1.ds=([],none):=by rw [hf1]
 refine wpIn_rangeFunc_ownH (α:=Empty) (F:=Fence.wide) (Kp:=fun _ _=>True) (w0:=w1) (encs:=fun x=>x.elim) (S:=fun ys=>ys=[]) (Sp:=fun _=>True) (N:=0) rfl (by decide) (gf:=gf) (lb:=#[.pointer (some ⟨w.heap.size,0,none⟩)]) (qL F1 hlk1 (x:=.tmp tg) hgv) trivial eg
  (fun l J Jx W hW _ _ _ h0=>(hseq l _ a cap (J []) W ((hW.cell (p:=⟨w.heap.size,0,none⟩) (by show w.heap.size < w1.heap.size;omega)).trans hBs) h0).mono fun e W' ⟨he,hj⟩=>⟨he,.inl ⟨_,rfl,hj⟩⟩)
  (fun _ _=>trivial) (fun _ _ _ _ _ _ _ _=>trivial) (Below.refl _ _) (fun x=>x.elim)
  (fun _ W=>∃ ρ' xs',Good c ⟨env,st⟩ (lk lg) W ρ' xs') (fun _ _ _=>False) (fun pre W W' row ⟨ρ',xs',g⟩ hg hr=>⟨ρ',xs',g.grown hg fun r e=>⟨l5 G1.kept.size (hr r e).1,(hr r e).2⟩⟩)
  (fun _ _ _ _ _ h=>h.elim) ⟨ρ,ys,G1⟩ (fun x=>x.elim) (fun x=>x.elim) (fun _ _ x=>x.elim) (fun _ _ x=>x.elim) ?_ ?_
 ·rintro D zs W hD rfl ⟨ρ',xs',g2⟩ hdf
  have hDc:c.w0.heap.size≤D:=l5 G1.kept.size hD
  have M:MsOk P c W [.dfr D]:=⟨fun i m hi=>by
   cases i with
  |zero=>simp only [q8,a6] at hi;subst hi;exact hdf
  |succ i=>simp at hi,fun i j m m' b hne hi hj=>by
   cases i with
  |zero =>
    cases j with
   |zero=>exact absurd rfl hne
   |succ j=>simp at hj
  |succ i=>simp at hi,fun i m b hi hb=>by
   cases i with
  |zero=>simp only [q8,a6] at hi;subst hi;simp only [MO.bs,q6] at hb;subst hb;exact .inl hDc
  |succ i=>simp at hi⟩
  have hr:=hrest D c lg W ⟨ρ',xs',g2⟩ M
  have hend:MD P N fn (yHw Q w0) [{ target:=.collected D,args:=#[] }] rest lg W:=yEe (hr.mono fun e l' W' ⟨S',g',I',M',he,hg',hres⟩=>by
   subst hg'
   have hdW:W'.heap[D]?=some (.deferred (some [])):=M'.ok 0 _ rfl
   refine ⟨he,hdW,?_⟩;obtain ⟨ρ3,xs3,g3⟩:=I'
   have g4:Good c S' (lk l') (W'.putObj D (.deferred none)) ρ3 xs3:=g3.grown (grownBy_putObj' W' D _) fun r e=>by cases e;exact ⟨hDc,_,hdW,rfl⟩
   subst hc;exact resH_resE.resE_mono (resH_resE g4 _ _ hres) fun vs ⟨hs,hR,hv⟩=>qTv g4 (vV hv) hR)
  show rest.wpIn (FW none) 0 P _ _ _
  have:=hend hlk1 ⟨F1.base,F1.hN,([{ target:=.collected D,args:=#[] }],none)⟩ rfl
  have ea:({ mk F1 lg with defers:={ target:=.collected D,args:=#[] } :: (mk F1 lg).defers }:Act)=mk (N:=N) ⟨F1.base,F1.hN,([{ target:=.collected D,args:=#[] }],none)⟩ lg:=by
   show Act.mk _ _=Act.mk _ _
   have:(mk F1 lg).defers=[]:=by show F1.ds.1=[];rw [hF1]
   rw [this];rfl
  rw [ea];exact this
 ·rintro D cd pre W _ _ h _;exact h.elim
end
end Go.Eng
namespace Go.Proofs.Y
open Go Go.RowKit Go.Shelf
attribute [local go_sem] Oper.semAt_some
set_option maxRecDepth 100000 in
theorem zDj (F:Fence) (n:Nat) (h71:F.fn 40) (hro:F.round=none) (l Bs:Nat) (a:Option Addr) (cap:Nat) (J:World→Prop) (W:World) (hBs:W.cell? ⟨Bs,0,none⟩=some (.slice a 0 cap)) (h0:J W) :
  CallsIn F n Tryz.prog 40 #[.func (.yield l) #[] #[],.pointer (some ⟨Bs,0,none⟩)] W fun e W'=>(∃ v,e=.returned v)∧J W':=by
 refine callsIn_of_wp Tryz.func40 rfl h71 ?_ hro;simp only [Tryz.ntmps40,bAq,i6,bAj,Nat.reduceAdd,Nat.reduceSub,Array.replicate_succ,Array.replicate_zero,List.push_toArray,List.append_toArray,u4,u5]
 gi_wp2
 gi_loopw [3] (fun i wr=>i=.int .i64 (-1)∧J wr) (fun _ _=>0)
 case atStart=>exact ⟨rfl,h0⟩
 case round =>
  obtain ⟨rfl,hJs⟩:=hrel
  gi_wp2
  go_end0
  exact ⟨⟨_,rfl⟩,hJs⟩
def yHk (F:Fence) (n:Nat) (h47:F.fn 24) (hro:F.round=none) (a:Option Addr) (len cap:Nat) (w:World) :
  CallsIn F n Tryz.prog 24 #[.slice a len cap] w fun e w'=>e=.returned (.func (.func 40) #[] #[.pointer (some ⟨w.heap.size,0,none⟩)])∧w'=w.alloc (.cells #[.slice a len cap] 22):=by
 refine callsIn_of_wp Tryz.func24 rfl h47 ?_ hro;simp only [Tryz.ntmps24,bAq,i6,bAj,Nat.reduceAdd,Nat.reduceSub,Array.replicate_succ,Array.replicate_zero,List.push_toArray,List.append_toArray,u4,u5]
 gi_wp2
 go_ret
 exact ⟨rfl,rfl⟩
end Go.Proofs.Y
namespace Go.Tr
open Go Go.Eng Go.RowKit Go.Rc
def hi2:Ba:={ data:=#[104,105] }
abbrev actR:List (List FV):=[[.v (.int .i64 3),.v (.string rcA),.v (.int .i64 2),.v (.string hi2)]]
def qBu:dL [] rcA rcT=0∧gR [] rcA rcT=rcT:=by decide +kernel
def qYu:cR rcA (rcT.filter fun e=>bN e.1 rcA) [1,2] (rcT,[],[])=((rcT,rcT,rcT),0):=by
 have h:(rcT.filter fun e=>bN e.1 rcA)=rcT:=by decide +kernel
 rw [h,vH (show dL (t3 (rcT,[],[]) 1) rcA rcT=0 from qBu.1)]
 have h1:kQ (rcT,[],[]) (gR (t3 (rcT,[],[]) 1) rcA rcT) 1=(rcT,rcT,[]):=by show (rcT,gR [] rcA rcT,([]:List Ent))=_;rw [qBu.2]
 rw [h1,vH (show dL (t3 (rcT,rcT,[]) 2) rcA rcT=0 from qBu.1)]
 have h2:kQ (rcT,rcT,[]) (gR (t3 (rcT,rcT,[]) 2) rcA rcT) 2=(rcT,rcT,rcT):=by show (rcT,rcT,gR [] rcA rcT)=_;rw [qBu.2]
 rw [h2];rfl
end Go.Tr
namespace Go.Proofs.Y
open Go Go.Eng Go.RowKit Go.Tr Go.Rc Go.Dk Go.DiffM
def qZu:kU [] rcT [] [(rcA,2)] (rcT,[],[]) []=(((rcT,rcT,rcT),[]),0):=by
 have h:cR rcA (uW [] rcT [] rcA 2) (ksW 2) (rcT,[],[])=((rcT,rcT,rcT),0):=qYu
 rw [kU,g8 (by decide),h,g8 rfl];rfl
def zDn:HFun Tryz.prog 13 [.v (.int .i64 3),.lst false (aG []),.lst false (aG rcT)] (fun h st=>h=.own 0∧st=[(0,.sl true 48 4 actR)]):=by
 refine yGk (N:=57) Tryz.func13 rfl Tryz.ntmps13 (by simp) ?_
 refine zFo ?_
 (repeat first|refine zE ?_|refine zA ?_|refine zC ?_|refine zB ?_|refine zD ?_);refine zJ (fun K hK=>?_);push_cast;refine hK _ ?_;clear hK K
 refine ⟨rfl,?_⟩;refine zFo ?_
 (repeat first|refine zE ?_|refine zA ?_|refine zC ?_|refine zB ?_|refine zD ?_);refine zJ (fun K hK=>?_);push_cast;refine hK _ ?_;clear hK K
 refine ⟨rfl,?_⟩;refine zT3 [1,3,5,7] [24,40,56,96] (by push_cast <;> rfl) ?_
 refine zDs (P:=Tryz.prog) (N:=57) (tg:=14) (t13:=13) (ti:=15) (tx:=16) (t1:=1) (tsl:=22) (gf:=40) (fr:=false) rfl ?hfr ?hreg ?eg ?hseq ?hrest
 case hfr =>
  intro k x h;simp only [hlk] at h
  (repeat' split at h) <;> first|omega|cases h
 case hreg =>
  intro l w a n cap h;refine bF (fun K hK=>?_)
  push_cast[qB4,qGb,h];refine ⟨yK8,((bDl (n:=0)).1 (yHk Fence.wide 0 trivial rfl a n cap w)).mono ?_⟩;rintro e w' ⟨rfl,rfl⟩;refine kX ?_;exact hK _ _ ⟨rfl,rfl,rfl⟩
 case eg=>exact fun _ _=>rfl
 case hseq=>exact fun l Bs a cap J W hc h0=>zDj Fence.wide 1 trivial rfl l Bs a cap J W hc h0
 case hrest =>
  intro D;refine qW5 ?_;change HW _ _ _ (kb _ 0) _;refine goA 3 ?_;push_cast[yV];refine goL (fun i:Nat=>⟨[(1,.lst false (aG [])),(3,.ptr 24 1 0 0),(7,.ptr 56 1 0 0),(33,.lst false (aG rcT)),(34,.v (.int .i64 rcT.length)),(35,.v (.int .i64 i))],[(24,.bx true 3 [.v (.int .i64 3)]),(56,.bx true 45 [.own 96]),(96,.sl true 48 4 (if i=0 then [] else actR))]⟩) (fun i=>i≤1) (fun i=>1 - i) [1,3,7,33,34,35] [24,56,96] 0 (by push_cast <;> rfl) (g7 _) ?_
  intro i hi
  have hl:rcT.length=1:=rfl
  by_cases hlt:i < 1
  ·obtain rfl:i=0:=by omega
   have hg:∀ d,(aG rcT).getD 0 d=[.v (.string rcA),.v (.int .i64 2),.v (.string hi2)]:=fun d=>rfl
   have c25:=mU [] rcA List.Pairwise.nil (by decide)
   rw [show aV [] rcA=((0:Int),({ data:=#[] }:Ba)) by decide +kernel] at c25
   have hb:decide ((0:Int)=2∧({ data:=#[] }:Ba)=hi2)=false:=by decide +kernel
   refine goA 5 ?_;push_cast[hl,yV,yU,hg];refine qBb 7 mixed (by kernel_rfl) (fun K hK K1 hK1=>?_);push_cast[hb]
   refine zE1 uV c25 (.cons (aD (yT _)) (.cons (.v _) .nil)) ?_;with_reducible refine aS ?_;push_cast[hb]
   refine ⟨_,eqN _ _ _ _,?_⟩;with_reducible refine aS ?_;push_cast[hb]
   refine hK1 _ ?_;(try clear hK1 K1);with_reducible refine aS ?_;push_cast[hb]
   refine hK _ ?_;clear hK K;refine goK 5 ?_;push_cast(disch:=omega);(repeat ((with_reducible refine bJa ?_ ?_);focus first|omega|decide))
   exact ⟨1,by push_cast <;> rfl,a7 _,by decide⟩
  ·obtain rfl:i=1:=by omega
   refine goA 5 ?_;push_cast[hl];refine ⟨.inr trivial,?_⟩;change mB Tryz.prog _ [ResultVar.tmp 6] _;simp only [yA,yM,yH,yE,oE,xF,yK,yJ,zS,zM,Nat.reduceEqDiff,reduceIte,reduceCtorEq];exact iQ rfl (by intro x hx f hf;simp at hx;subst hx;simp at hf;rcases hf with rfl|rfl|rfl|rfl <;> exact .v _) ⟨rfl,rfl⟩
def yJr:Tryz.prog.stoodInHeld 48=false:=by kernel_rfl
def yGs (r r':Int) (p p':Ba) (k k':Int) (d d':Ba):EqR Tryz.prog 48 [.int .i64 r,.string p,.int .i64 k,.string d].toArray [.int .i64 r',.string p',.int .i64 k',.string d'].toArray (decide ((r,p,k,d)=(r',p',k',d'))):=by
 refine ⟨by kernel_rfl,fun w=>?_⟩
 unfold Op.equal Op.maxDepth Op.equalIn;simp [o9 Tryz.underlying48,yJr,i3,i9,i24,part,cT kt3,cT kt9,jA yB7,zSq,zE5,zC5,s8]
 by_cases h0:r=r' <;> by_cases h1:p=p' <;> by_cases h2:k=k' <;> by_cases h3:d=d' <;> simp [h0,h1,h2,h3]
def pawake0:HFun Tryz.prog 4 [] (fun h st=>h=.v (.bool true)∧st=[]):=by
 refine yAi (N:=45) Tryz.func4 rfl Tryz.ntmps4 Tryz.results4 (by simp) ?_
 have cF:=zP6 zNa yAv zNa (by intro e he;simp at he;subst he;decide)
 rw [qRu,qZu] at cF
 (repeat first|refine bE ?_|refine aE ?_|refine aY ?_|refine aH ?_|refine aW ?_);refine bY ?_
 refine goA 3 ?_;push_cast
 (repeat first|refine bE ?_|refine aE ?_|refine aY ?_|refine aH ?_|refine aW ?_);refine bY ?_
 refine goA 3 ?_;push_cast;(repeat ((with_reducible refine bJa ?_ ?_);focus first|omega|decide))
 have he:[[FV.v (.string { data:=#[97] }),.v (.int .i64 2),.v (.string { data:=#[104,105] })]]=aG rcT:=rfl
 rw [he]
 (repeat first|refine bE ?_|refine aE ?_|refine aY ?_|refine aH ?_|refine aW ?_);refine qFn (fun K hK=>?_);refine qBd 1 ?_;refine pA ?_;push_cast
 refine qP9 80 cl7 cF rfl rfl rfl rfl rfl (.cons .nil (.cons (eH (yT _) rfl) (.cons .nil .nil))) ?_;rintro _ _ _ ⟨x,T,U,e,hm,rfl,rfl,rfl,hU,hT⟩;simp only [n5] at hm;obtain ⟨⟨rfl,h0⟩,rfl⟩:=hm;obtain rfl:T=[]:=List.map_eq_nil_iff.1 h0.symm;rw [hU rfl];refine pA ?_;push_cast[bX,aN];refine hK _ _ ?_;clear hK K;refine aE ?_;refine kC [0,1,2,3] [16,56,80,81,82,83] (by simp only [zZ,zR,zP,zQ,zN,zS,zM,zX,zU,Nat.reduceEqDiff,reduceIte];exact rfl) ?_
 (repeat first|refine bE ?_|refine aE ?_|refine aY ?_|refine aH ?_|refine aW ?_);refine bY ?_
 refine goA 3 ?_;push_cast;refine cUt 112 yLc zDn (.cons (.v _) (.cons .nil (.cons (eH (yT _) rfl) .nil))) ?_;push_cast;refine aE ?_;refine kC [0,1,2,3,4] [16,56,80,81,82,83,112] (by simp only [zZ,zR,zP,zQ,zN,zS,zM,zX,zU,Nat.reduceEqDiff,reduceIte];exact rfl) ?_
 have cS:=lR rcT rcT (by decide)
 rw [i7 rfl] at cS
 have gA:∀ d,actR.getD 0 d=[.v (.int .i64 3),.v (.string rcA),.v (.int .i64 2),.v (.string hi2)]:=fun d=>rfl
 have gE:∀ d,(aG rcT).getD 0 d=[.v (.string rcA),.v (.int .i64 2),.v (.string hi2)]:=fun d=>rfl
 have lE:(aG rcT).length=1:=rfl
 (repeat first|refine bE ?_|refine aE ?_|refine aY ?_|refine aH ?_|refine aW ?_);refine bY ?_
 refine goA 1 ?_;push_cast;refine mA 30 mixed (by kernel_rfl) (fun K hK K1 hK1=>?_);push_cast[gA,gE,lE,yU]
 refine qGo cl9 cS (.cons (eH (yT _) rfl) (.cons (eH (yT _) rfl) .nil)) ?_;with_reducible refine aS ?_;push_cast[gA,gE,lE,yU]
 refine qGo cl9 cS (.cons (eH (yT _) rfl) (.cons (eH (yT _) rfl) .nil)) ?_;with_reducible refine aS ?_;push_cast[gA,gE,lE,yU]
 refine ⟨_,yGs _ _ _ _ _ _ _ _,?_⟩;with_reducible refine aS ?_;push_cast[gA,gE,lE,yU]
 refine hK1 _ ?_;(try clear hK1 K1);with_reducible refine aS ?_;push_cast
 refine hK _ ?_;clear hK K
 (repeat first|refine mV ?_|refine iR ?_|refine iS ?_|refine mX rfl ?_|refine mW ?_|refine aH ?_|refine bE ?_|refine aE ?_|refine aY ?_|refine wY ?_|refine qCr ?_)
 simp only [qGr,yH,yE,yK,zS,zM,Nat.reduceEqDiff,reduceIte,reduceCtorEq]
def qKw:HFun Tryz.prog 4 [] (fun h st=>h=.v (.bool true)):=pawake0.mono fun _ _ h=>h.1
def zN0 (a b c:List Ent) (ha:a.length≤1048576) (hb:b.length≤1048576) (hc:c.length≤1048576) (sa:∀ e ∈ a,e.1.size≤1048576) (sb:∀ e ∈ b,e.1.size≤1048576) (sc:∀ e ∈ c,e.1.size≤1048576) :
  HFun Tryz.prog 5 [.lst false (aG a),.lst false (aG b),.lst false (aG c)] (fun h st=>h=.v (.bool (decide (cZ a=0) && (decide (cZ b=0) && decide (cZ c=0))))):=by
 refine bP (N:=20) Tryz.func5 rfl Tryz.ntmps5 Tryz.results5 (by simp) ?_
 have ca:=qEc a (by omega) sa
 have cb:=qEc b (by omega) sb
 have cc:=qEc c (by omega) sc
 refine goA 3 ?_;push_cast
 cases d1:decide (cZ a=0) with
|false =>
  refine goA 3 ?_;push_cast;refine cVt qSf ca (.cons (aD (yT _)) .nil) ?_;push_cast[d1];exact aQ rfl
|true =>
 cases d2:decide (cZ b=0) with
|false =>
  refine goA 3 ?_;push_cast;refine cVt qSf ca (.cons (aD (yT _)) .nil) ?_;push_cast[d1];refine cVt qSf cb (.cons (aD (yT _)) .nil) ?_;push_cast[d1,d2];exact aQ rfl
|true =>
  refine goA 3 ?_;push_cast;refine cVt qSf ca (.cons (aD (yT _)) .nil) ?_;push_cast[d1];refine cVt qSf cb (.cons (aD (yT _)) .nil) ?_;push_cast[d1,d2];refine cVt qSf cc (.cons (aD (yT _)) .nil) ?_;push_cast[d1,d2];exact aQ rfl
def qSy:Nat→Code→Code
|0,c=>c
|n + 1,.seq _ b=>qSy n b
|_,c=>c
def yAx (na nb nc:Nat):List (List HV):=[[.own 1000000],[.own 1000001],[.own 1000002],[.vw 216 3 0 na],[.vw 232 3 0 nb],[.vw 248 3 0 nc]]
def qLc (na nb nc:Nat) (T:List CfV):List (List HV):=yAx na nb nc ++ apQ T
def zQa (na nb nc:Nat) (T:List CfV):(qLc na nb nc T).length=6 + 2 * T.length:=by
 simp only [qLc,yAx,i8,i6,bAj,qJv]
def zH7 (na nb nc id:Nat) (T:List CfV) (h0:1000000≠id) (h1:1000001≠id) (h2:1000002≠id) (h3:216≠id) (h4:232≠id) (h5:248≠id):(qLc na nb nc T).map (List.map (HV.kill (only id)))=qLc na nb nc T:=by
 unfold qLc;rw [d6,zTk];simp [yAx,HV.kill,iP h0,iP h1,iP h2,iP h3,iP h4,iP h5]
def zH6 (na nb nc:Nat) (T:List CfV) (c:CfV):qLc na nb nc T ++ [[.v (hd c.2.1 c.1.h.length)],[.v (hd c.2.2 c.1.s.length)]]=qLc na nb nc (T ++ [c]):=by
 unfold qLc;rw [u6,zTj]
def yCu {E:aT} {k0:Nat} {u:Value} (h:hlk E k0=some (.v u)) (k:Nat) (x:HV) (hk:hlk [(k0,.v u)] k=some x):hlk E k=some x∧∃ u,x=.v u:=by
 simp only [hlk] at hk
 by_cases e:k0=k
 ·rw [g8 e] at hk;cases hk;subst e;exact ⟨h,_,rfl⟩
 ·rw [b7 e] at hk;cases hk
def qNd (x y z:HV) (T:List CfV):List (List HV):=[[.own 1000000],[.own 1000001],[.own 1000002],[x],[y],[z]] ++ apQ T
theorem yB5 (na nb nc:Nat) (T:List CfV):qLc na nb nc T=qNd (.vw 216 3 0 na) (.vw 232 3 0 nb) (.vw 248 3 0 nc) T:=rfl
def qU1 (x y z:HV) (T:List CfV):(qNd x y z T).length=6 + 2 * T.length:=by
 simp only [qNd,i8,i6,bAj,qJv]
def qU {x y z:HV} {id n:Nat} {T:List CfV} (h0:1000000≠id) (h1:1000001≠id) (h2:1000002≠id):(qNd x y z T).map (List.map (HV.trim id n))=qNd (x.trim id n) (y.trim id n) (z.trim id n) T:=by
 unfold qNd;rw [d6,zFh _ _ (fun x=>qJn id n x)]
 simp [vW,h0,h1,h2]
def rQ (j:Nat):Nat:=[1000000,1000001,1000002,216,232,248].getD j 0
def yA8 (i j:Nat) (hi:i < 6) (hj:j < 6) (h:rQ i=rQ j):i=j :=
 congrArg Fin.val ((by decide:∀ i j:Fin 6,rQ i=rQ j→i=j) ⟨i,hi⟩ ⟨j,hj⟩ h)
def zUc (j:Nat):qQa rQ j≠.inl 720:=fun h=>by
 unfold qQa at h;split at h
 ·rename_i hj;exact (by decide:∀ i:Fin 6,rQ i≠720) ⟨j,hj⟩ (Sum.inl.inj h)
 ·cases h
def zWs {T U:List CfV} {st:aC} {n:Nat} {X0 X1 X2 A B C:List (List FV)} (h0:rlk st 1000000=some (.sl true 44 3 X0)) (h1:rlk st 1000001=some (.sl true 44 3 X1)) (h2:rlk st 1000002=some (.sl true 44 3 X2))
  (h3:rlk st 216=some (.sl true 44 3 A)) (h4:rlk st 232=some (.sl true 44 3 B)) (h5:rlk st 248=some (.sl true 44 3 C)) (hs:X0.length≤1000000000∧X1.length≤1000000000∧X2.length≤1000000000∧A.length≤1000000000∧B.length≤1000000000∧C.length≤1000000000)
  (hn:n≤T.length) (hU:U=T∨T=[]) (hT:∀ t ∈ T,t.1.h.length≤1000000000∧t.1.s.length≤1000000000):∀ j (hj:j < (qNd (.own 216) (.own 232) (.own 248) (T.take n)).length),
  ∃ x m,(qNd (.own 216) (.own 232) (.own 248) (T.take n))[j]=[x]∧ApAt (cfL U) st 44 3 (qQa rQ j) x m∧m≤1000000000
|0,_=>⟨_,_,rfl,.row h0,hs.1⟩
|1,_=>⟨_,_,rfl,.row h1,hs.2.1⟩
|2,_=>⟨_,_,rfl,.row h2,hs.2.2.1⟩
|3,_=>⟨_,_,rfl,.row h3,hs.2.2.2.1⟩
|4,_=>⟨_,_,rfl,.row h4,hs.2.2.2.2.1⟩
|5,_=>⟨_,_,rfl,.row h5,hs.2.2.2.2.2⟩
|j + 6,hj=>by
  have hj':j < (apQ (T.take n)).length:=by rw [qU1] at hj;rw [qJv];omega
  obtain ⟨x,m,e,q,hm⟩:=yEa (st:=st) hn hT j hj'
  have hw:qQa rQ (j + 6)=.inr j:=by unfold qQa;rw [b7 (by omega)];rfl
  refine ⟨x,m,e,?_,hm⟩;rw [hw]
  rcases hU with rfl|rfl
  ·exact q
  ·simp [apQ] at hj'
def qRf (a b c x0 x1 x2:List Ent) (ha:a.length≤1048576) (hb:b.length≤1048576) (hc:c.length≤1048576) (b0:x0.length≤1048576) (b1:x1.length≤1048576) (b2:x2.length≤1048576) (T U:List CfV)
  (hcs:∀ q ∈ T.map Prod.fst,q.h.length≤1048576∧q.s.length≤1048576) (hTl:T.length≤3000) (hTU:U=T∨T=[]) :
  HWF Tryz.prog 134 (qSy 6 (Tryz.f3.body.getD .skip)) (qGr Tryz.prog [.tmp 6] (.bool true)) (cfL U) ⟨[(0,.lst false (aG a)),(1,.lst false (aG b)),(2,.lst false (aG c)),(7,.vw 216 3 0 a.length),(8,.vw 232 3 0 b.length),(9,.vw 248 3 0 c.length),(10,.ptr 80 4 0 0)],[(80,.bx true 28 [.own 1000000,.own 1000001,.own 1000002,.own 291]),(216,Tr.rowE (a ++ [spare])),(232,Tr.rowE (b ++ [spare])),(248,Tr.rowE (c ++ [spare])),(1000000,Tr.rowE x0),(1000001,Tr.rowE x1),(1000002,Tr.rowE x2),(291,.hl true 39 7 (cfT T))]⟩:=by
 unfold Tryz.f3;dsimp only [Option.getD_some,qSy]
 (repeat first|refine bE ?_|refine aE ?_|refine aY ?_|refine aH ?_|refine aW ?_);refine bY ?_
 refine goA 3 ?_;push_cast[aN,uD]
 (repeat first|refine bE ?_|refine aE ?_|refine aY ?_|refine aH ?_|refine aW ?_);refine bY ?_
 refine goA 3 ?_;push_cast[aN]
 (repeat first|refine bE ?_|refine aE ?_|refine aY ?_|refine aH ?_|refine aW ?_)
 refine kC [0,1,2,7,8,9,10,14,15] [80,216,232,248,1000000,1000001,1000002,291,720] (by simp only [zZ,zR,zP,zQ,zN,zS,zM,zX,zU,Nat.reduceEqDiff,reduceIte];exact rfl) ?_
 refine qW7 (fun i:Nat=>⟨[(0,.lst false (aG a)),(1,.lst false (aG b)),(2,.lst false (aG c)),(7,.vw 216 3 0 a.length),(8,.vw 232 3 0 b.length),(9,.vw 248 3 0 c.length),(10,.ptr 80 4 0 0),(14,.own 720),(15,.v (.int .i64 i))],[(80,.bx true 28 [.own 1000000,.own 1000001,.own 1000002,.own 291]),(216,Tr.rowE (a ++ [spare])),(232,Tr.rowE (b ++ [spare])),(248,Tr.rowE (c ++ [spare])),(1000000,Tr.rowE x0),(1000001,Tr.rowE x1),(1000002,Tr.rowE x2),(291,.hl true 39 7 (cfT T)),(720,.hl true 22 1 (qLc a.length b.length c.length (T.take i)))]⟩) (fun _=>cfL U) (fun i=>i≤T.length∧i≤6) (fun i=>T.length - i) [0,1,2,7,8,9,10,14,15] [80,216,232,248,1000000,1000001,1000002,291,720] 0 (by push_cast <;> rfl) rfl ⟨g7 _,g7 _⟩ ?_
 rintro i ⟨hi,hi6⟩
 by_cases hc6:i < T.length∧i < 6
 ·obtain ⟨h1,h2⟩:=hc6;obtain ⟨t,ht⟩:∃ t,T[i]=t:=⟨_,rfl⟩
  have g1:∀ d,(cfT T).getD i d=[.v (.string t.1.p),.v (.slice t.2.1.1 t.1.h.length t.2.1.2),.v (.slice t.2.2.1 t.1.s.length t.2.2.2),.v (.string t.1.t),.v (.bool t.1.f),.v (.int .i64 0),.v (.string ByteArray.empty)]:=fun d=>by rw [zZd h1,ht];rfl
  have hzl:(T.take i).length=i:=by rw [l7];omega
  (repeat first|refine bE ?_|refine aE ?_|refine aY ?_|refine aH ?_|refine aW ?_);refine bY ?_
  refine goA 3 ?_;push_cast(disch:=omega)[qCn]
  (repeat first|refine bE ?_|refine aE ?_|refine aY ?_|refine aH ?_|refine aW ?_);refine bY ?_
  refine goA 1 ?_;push_cast
  (repeat first|refine bE ?_|refine aE ?_|refine aY ?_|refine aH ?_|refine aW ?_);refine bY ?_
  refine goA 1 ?_;push_cast;refine qBb 14 mixed (by kernel_rfl) (fun K hK K1 hK1=>?_);push_cast(disch:=omega)[qCn,g1]
  refine hK1 _ ?_;(try clear hK1 K1);with_reducible refine aS ?_;push_cast(disch:=omega)[zQa,hzl,zH7,aN,d6]
  refine ⟨by intro x hx;simp at hx;rcases hx with rfl|rfl <;> rfl,?_⟩
  refine hK _ ?_;clear hK K
  (repeat first|refine bE ?_|refine aE ?_|refine aY ?_|refine aH ?_|refine aW ?_);refine bY ?_
  refine goA 3 ?_;push_cast(disch:=omega)
  (repeat first|refine mV ?_|refine iR ?_|refine iS ?_|refine mX rfl ?_|refine mW ?_|refine aH ?_|refine bE ?_|refine aE ?_|refine aY ?_|refine wY ?_|refine qCr ?_)
  refine ⟨i + 1,?_,rfl,⟨h1,h2⟩,by omega⟩
  rw [d7 h1,ht,← zH6];push_cast
  try rfl
 ·have go:HWF Tryz.prog 134 (qSy 8 (Tryz.f3.body.getD .skip)) (qGr Tryz.prog [.tmp 6] (.bool true)) (cfL U) ⟨[(0,.lst false (aG a)),(1,.lst false (aG b)),(2,.lst false (aG c)),(7,.vw 216 3 0 a.length),(8,.vw 232 3 0 b.length),(9,.vw 248 3 0 c.length),(14,.own 720)],[(216,Tr.rowE (a ++ [spare])),(232,Tr.rowE (b ++ [spare])),(248,Tr.rowE (c ++ [spare])),(1000000,Tr.rowE x0),(1000001,Tr.rowE x1),(1000002,Tr.rowE x2),(720,.hl true 22 1 (qLc a.length b.length c.length (T.take i)))]⟩:=by
   unfold Tryz.f3;dsimp only [Option.getD_some,qSy]
   have hT9:∀ t ∈ T,t.1.h.length≤1000000000∧t.1.s.length≤1000000000:=fun t ht=>by
    have:=hcs t.1 (List.mem_map_of_mem ht)
    omega
   have hzl:(T.take i).length=i:=by rw [l7];omega
   have ka:a.length < (aG (a ++ [spare])).length:=by simp [aG]
   have kb:b.length < (aG (b ++ [spare])).length:=by simp [aG]
   have kc:c.length < (aG (c ++ [spare])).length:=by simp [aG]
   rw [yB5]
   (repeat first|refine bE ?_|refine aE ?_|refine aY ?_|refine aH ?_|refine aW ?_);refine qFn (fun K hK=>?_);refine qBd 15 ?_;refine pA ?_;push_cast
   refine qR0 ha rfl (aD (yT _)) ?_;with_reducible refine aS ?_;push_cast
   refine qR0 hb rfl (aD (yT _)) ?_;with_reducible refine aS ?_;push_cast
   refine qR0 hc rfl (aD (yT _)) ?_;with_reducible refine aS ?_;push_cast
   refine qG2 216 (a.length) rfl (by exact ka) (by simp only [qQe,qGs,qDo,qFs,qC9,qJn,qGj,vW,qGi,qEr,qGk,qGh,qDj,qKn,qKp,qKo,t8,bD8,eq_self,and_self,Nat.reduceMul,Nat.reduceAdd,Nat.reduceEqDiff,reduceIte,d8,m4,qU];exact rfl) ?_
   refine qG2 232 (b.length) rfl (by exact kb) (by simp only [qQe,qGs,qDo,qFs,qC9,qJn,qGj,vW,qGi,qEr,qGk,qGh,qDj,qKn,qKp,qKo,t8,bD8,eq_self,and_self,Nat.reduceMul,Nat.reduceAdd,Nat.reduceEqDiff,reduceIte,d8,m4,qU];exact rfl) ?_
   refine qG2 248 (c.length) rfl (by exact kc) (by simp only [qQe,qGs,qDo,qFs,qC9,qJn,qGj,vW,qGi,qEr,qGk,qGh,qDj,qKn,qKp,qKo,t8,bD8,eq_self,and_self,Nat.reduceMul,Nat.reduceAdd,Nat.reduceEqDiff,reduceIte,d8,m4,qU];exact rfl) ?_
   have el:List.map (List.map (HV.trim 248 c.length)) (List.map (List.map (HV.trim 232 b.length)) (List.map (List.map (HV.trim 216 a.length)) (qNd (.vw 216 3 0 a.length) (.vw 232 3 0 b.length) (.vw 248 3 0 c.length) (T.take i))))=qNd (.own 216) (.own 232) (.own 248) (T.take i):=by
    rw [qU (by decide) (by decide) (by decide),qU (by decide) (by decide) (by decide),qU (by decide) (by decide) (by decide)]
    simp [qEr,vW]
   rw [el];refine qW9 (te:=44) (sz:=3) (lid:=720) (tO:=22) qSm rfl (qQa rQ) (zWs rfl rfl rfl rfl rfl rfl ⟨by rw [yV];omega,by rw [yV];omega,by rw [yV];omega,by rw [l7];omega,by rw [l7];omega,by rw [l7];omega⟩ hi hTU hT9) (fun j _=>zUc j) (fun p q _ _ h=>zMw yA8 p q h) (by rw [qU1,hzl];omega) [(130,.v (.bool true))] (yCu rfl) yLd rfl rfl rfl rfl rfl ?_
   refine pA ?_;push_cast;refine hK _ _ ?_;clear hK K
   (repeat first|refine mV ?_|refine iR ?_|refine iS ?_|refine mX rfl ?_|refine mW ?_|refine aH ?_|refine bE ?_|refine aE ?_|refine aY ?_|refine wY ?_|refine qCr ?_)
   simp only [qGr,yH,yE,yK,zS,zM,Nat.reduceEqDiff,reduceIte,reduceCtorEq]
  by_cases h1:i < T.length
  ·have h2:¬ i < 6:=fun h=>hc6 ⟨h1,h⟩
   (repeat first|refine bE ?_|refine aE ?_|refine aY ?_|refine aH ?_|refine aW ?_);refine bY ?_
   refine goA 3 ?_;push_cast(disch:=omega)[qCn]
   (repeat first|refine bE ?_|refine aE ?_|refine aY ?_|refine aH ?_|refine aW ?_);refine bY ?_
   refine goA 1 ?_;push_cast
   (repeat refine iR ?_);refine iS ?_;refine aE ?_
   refine kC [0,1,2,7,8,9,14] [216,232,248,1000000,1000001,1000002,720] (by simp only [zZ,zR,zP,zQ,zN,zS,zM,zX,zU,Nat.reduceEqDiff,reduceIte];exact rfl) ?_
   exact go
  ·(repeat first|refine bE ?_|refine aE ?_|refine aY ?_|refine aH ?_|refine aW ?_);refine bY ?_
   refine goA 3 ?_;push_cast(disch:=omega)[qCn]
   (repeat first|refine bE ?_|refine aE ?_|refine aY ?_|refine aH ?_|refine aW ?_);refine bY ?_
   refine goA 1 ?_;push_cast
   (repeat refine iR ?_);refine iS ?_;refine aE ?_
   refine kC [0,1,2,7,8,9,14] [216,232,248,1000000,1000001,1000002,720] (by simp only [zZ,zR,zP,zQ,zN,zS,zM,zX,zU,Nat.reduceEqDiff,reduceIte];exact rfl) ?_
   exact go
def qAp (t:List Ent) (x:Ent):(aG (t ++ [x])).take t.length=aG t:=by simp [aG]
def qM9 (a b c:List Ent) (ha:a.length≤1048576) (hb:b.length≤1048576) (hc:c.length≤1048576) (sa:∀ e ∈ a,e.1.size≤1048576) (sb:∀ e ∈ b,e.1.size≤1048576) (sc:∀ e ∈ c,e.1.size≤1048576) :
  HFun Tryz.prog 3 [.lst false (aG a),.lst false (aG b),.lst false (aG c)] (fun h st=>h=.v (.bool true)∧st=[]):=by
 refine yAi (N:=134) Tryz.func3 rfl Tryz.ntmps3 Tryz.results3 (by simp) ?_
 have ct:=zN0 a b c ha hb hc sa sb sc
 (repeat first|refine bE ?_|refine aE ?_|refine aY ?_|refine aH ?_|refine aW ?_);refine bY ?_
 refine goA 3 ?_;push_cast
 cases d:(decide (cZ a=0) && (decide (cZ b=0) && decide (cZ c=0))) with
|false =>
  rw [d] at ct
  (repeat first|refine bE ?_|refine aE ?_|refine aY ?_|refine aH ?_|refine aW ?_);refine bY ?_
  refine goA 3 ?_;push_cast;refine cVt cl4 qKw .nil ?_;push_cast;refine cVt cl5 ct (.cons (aD (yT _)) (.cons (aD (yT _)) (.cons (aD (yT _)) .nil))) ?_;push_cast
  (repeat first|refine bE ?_|refine aE ?_|refine aY ?_|refine aH ?_|refine aW ?_);refine bY ?_
  refine goA 3 ?_;push_cast;refine cVt cl4 qKw .nil ?_;push_cast
  (repeat first|refine mW ?_|refine mV ?_)
  simp only [qGr,yH,yE,yK,zS,zM,Nat.reduceEqDiff,reduceIte,reduceCtorEq]
|true =>
 rw [d] at ct;simp only [g9,m7] at d
 have tA:=qJ6 d.1 sa
 have tB:=qJ6 d.2.1 sb
 have tC:=qJ6 d.2.2 sc
 obtain ⟨E,hE⟩:∃ E,a ++ b ++ c=E:=⟨_,rfl⟩
 have hall:∀ {P:Ent→Prop},(∀ e ∈ a,P e)→(∀ e ∈ b,P e)→(∀ e ∈ c,P e)→∀ e ∈ E,P e:=fun h1 h2 h3 e he=>by
  rw [← hE] at he
  rcases m8.1 he with he|he
  ·rcases m8.1 he with he|he
   ·exact h1 e he
   ·exact h2 e he
  ·exact h3 e he
 have hk:=hall (P:=fun e=>pOk e.1 5=true) (qK2 (fZ d.1).2) (qK2 (fZ d.2.1).2) (qK2 (fZ d.2.2).2)
 have up1:∀ e ∈ a,par e.1={ data:=#[] }∨∃ x ∈ E,x.1=par e.1:=fun e he=>(qJ1 (fZ d.1).2 e he).imp id fun ⟨x,hx,h⟩=>⟨x,by rw [← hE];simp [hx],h⟩
 have up2:∀ e ∈ b,par e.1={ data:=#[] }∨∃ x ∈ E,x.1=par e.1:=fun e he=>(qJ1 (fZ d.2.1).2 e he).imp id fun ⟨x,hx,h⟩=>⟨x,by rw [← hE];simp [hx],h⟩
 have up3:∀ e ∈ c,par e.1={ data:=#[] }∨∃ x ∈ E,x.1=par e.1:=fun e he=>(qJ1 (fZ d.2.2).2 e he).imp id fun ⟨x,hx,h⟩=>⟨x,by rw [← hE];simp [hx],h⟩
 have hT:Tri3 a b c E:=⟨hE,hk,hall up1 up2 up3⟩
 have hI:zG1 mgR a b c=fE mgR a b c:=(zJm hT (hall sa sb sc)).symm
 have hkE:∀ e ∈ a ++ b ++ c,pOk e.1 5=true:=hE ▸ hk
 have cF:=zP6 tA tB tC hkE
 have cV:=zU5 tA tB tC hkE hI
 have oa:mD (((aG (a ++ [spare])).drop 0).take a.length)=aG a:=by rw [bAf,qAp,yT]
 have ob:mD (((aG (b ++ [spare])).drop 0).take b.length)=aG b:=by rw [bAf,qAp,yT]
 have oc:mD (((aG (c ++ [spare])).drop 0).take c.length)=aG c:=by rw [bAf,qAp,yT]
 clear hall up1 up2 up3 hT
 (repeat first|refine bE ?_|refine aE ?_|refine aY ?_|refine aH ?_|refine aW ?_);refine bY ?_
 refine goA 3 ?_;push_cast;refine cVt cl4 qKw .nil ?_;push_cast;refine cVt cl5 ct (.cons (aD (yT _)) (.cons (aD (yT _)) (.cons (aD (yT _)) .nil))) ?_;push_cast
 (repeat first|refine bE ?_|refine aE ?_|refine aY ?_|refine aH ?_|refine aW ?_);refine bY ?_
 refine goA 1 ?_;push_cast
 (repeat first|refine bE ?_|refine aE ?_|refine aY ?_|refine aH ?_|refine aW ?_);refine bY ?_
 refine goA 3 ?_;push_cast;refine cUt 216 cl6 (qQ4 a ha) (.cons (aD (yT _)) .nil) ?_;push_cast;refine cUt 232 cl6 (qQ4 b hb) (.cons (aD (yT _)) .nil) ?_;push_cast;refine cUt 248 cl6 (qQ4 c hc) (.cons (aD (yT _)) .nil) ?_;push_cast
 (repeat first|refine bE ?_|refine aE ?_|refine aY ?_|refine aH ?_|refine aW ?_)
 refine kC [0,1,2,7,8,9] [216,232,248] (by simp only [zZ,zR,zP,zQ,zN,zS,zM,zX,zU,Nat.reduceEqDiff,reduceIte];exact rfl) ?_
 (repeat first|refine bE ?_|refine aE ?_|refine aY ?_|refine aH ?_|refine aW ?_);refine qFn (fun K hK=>?_);refine qBd 3 ?_;refine pA ?_;push_cast
 refine qP9 288 cl7 cF rfl rfl rfl rfl rfl (.cons (zEq oa rfl) (.cons (zEq ob rfl) (.cons (zEq oc rfl) .nil))) ?_;rintro _ _ _ ⟨x,T,U,e,hm,rfl,rfl,rfl,hU,hT⟩;refine pA ?_;push_cast[bX,aN];refine hK _ _ ?_;clear hK K;refine aE ?_;refine kC [0,1,2,7,8,9,10,11] [80,216,232,248,288,289,290,291] (by simp only [zZ,zR,zP,zQ,zN,zS,zM,zX,zU,Nat.reduceEqDiff,reduceIte];exact rfl) ?_
 (repeat first|refine bE ?_|refine aE ?_|refine aY ?_|refine aH ?_|refine aW ?_);refine qFn (fun K hK=>?_);refine qBd 3 ?_;refine pA ?_;push_cast
 refine zMs 344 cl8 cV rfl rfl rfl rfl rfl (fun x hx=>by simp at hx;rcases hx with rfl|rfl|rfl <;> first|exact .v _|exact .lst _ _) ?_
 rintro _ _ ⟨f,g,k,y,C,e',hm',rfl,rfl⟩;rw [hm] at hm';simp only [n5] at hm';obtain ⟨⟨rfl,rfl⟩,rfl⟩:=hm';refine pA ?_;push_cast[bX,aN];refine hK _ _ ?_;clear hK K;refine aE ?_;refine kC [0,1,2,7,8,9,10,11,12,13] [80,96,216,232,248,288,289,290,291,344] (by simp only [zZ,zR,zP,zQ,zN,zS,zM,zX,zU,Nat.reduceEqDiff,reduceIte];exact rfl) ?_
 have hpk:∀ q ∈ fE mgR a b c,q.1.size≤1048576:=fun q hq=>by
  have h5:=qJd rfl hkE _ _ q hq
  have h6:q.1.size≤5 * 13:=qRd h5
  omega
 have hx:BT x:=by
  have:=qK8 (A:=a) (fG tB) (fG tC) (fE mgR a b c) (b,c,a) [] hpk (fun k=>by
   match k with
  |0=>exact fG tB
  |1=>exact fG tC
  |k + 2=>exact fG tA)
  rw [hm] at this;exact this
 have hcs:∀ q ∈ T.map Prod.fst,q.h.length≤1048576∧q.s.length≤1048576:=by
  have:=qK7 (A:=a) (H:=b) (S:=c) (Q:=fun q=>q.h.length≤1048576∧q.s.length≤1048576) (fun p=>⟨l5 (p7 ..) hb,l5 (p7 ..) hc⟩) (fE mgR a b c) (b,c,a) [] (by simp)
  rw [hm] at this;exact this
 have hbd:(fE mgR a b c).length≤3000:=by
  have h1:=uE (mg:=mgR) a b c 1048577 { data:=#[] }
  have:=tA.len
  have:=tB.len
  have:=tC.len
  rw [fE];omega
 have hTl:T.length≤3000:=by
  have:=qF9 (A:=a) (H:=b) (S:=c) (fE mgR a b c) (b,c,a) []
  rw [hm,c8] at this;simp at this;omega
 have hTU:∀ z ∈ cfL T,z ∈ cfL U:=fun z hz=>by
  by_cases e0:e=0
  ·rw [hU e0];exact hz
  ·rw [hT e0] at hz;simp [cfL] at hz
 have hT2:U=T∨T=[]:=by
  by_cases e0:e=0
  ·exact .inl (hU e0)
  ·exact .inr (hT e0)
 clear hm hU hpk hbd cF cV hI hk hkE hE d ct;obtain ⟨x0,x1,x2⟩:=x
 have b0:x0.length≤1048576:=(hx 0).len
 have b1:x1.length≤1048576:=(hx 1).len
 have b2:x2.length≤1048576:=(hx 2).len
 have c0:=lR x0 x0 (by omega)
 have c1:=lR x1 x1 (by omega)
 have c2:=lR x2 x2 (by omega)
 rw [i7 rfl] at c0 c1 c2
 have c3:=zY7 (T.map Prod.fst) (by rw [c8];omega) (fun q hq=>by have:=hcs q hq;omega)
 dsimp only
 (repeat first|refine bE ?_|refine aE ?_|refine aY ?_|refine aH ?_|refine aW ?_);refine qFn (fun K hK=>?_);refine qBd 32 ?_;refine pA ?_;push_cast
 refine cVt cl9 c0 (.cons (eH (yT _) rfl) (.cons (aD (yT _)) .nil)) ?_;push_cast;refine cVt cl9 c1 (.cons (eH (yT _) rfl) (.cons (aD (yT _)) .nil)) ?_;push_cast;refine cVt cl9 c2 (.cons (eH (yT _) rfl) (.cons (aD (yT _)) .nil)) ?_;push_cast;refine zDq yLf c3 rfl rfl rfl rfl rfl (.cons (yF0 rfl hTU) (.cons (.of (eH (zTa _) rfl)) .nil)) ?_;refine pA ?_;push_cast;refine hK _ _ ?_;clear hK K
 (repeat first|refine bE ?_|refine aE ?_|refine aY ?_|refine aH ?_|refine aW ?_);refine bY ?_
 refine goP [0,1,2,7,8,9,10,80] [80,216,232,248,288,289,290,291] ?_;refine jQ 288 1000000 (by decide) rfl rfl (by push_cast[d6,bX] <;> exact rfl) ?_
 refine jQ 289 1000001 (by decide) rfl rfl (by push_cast[d6,bX] <;> exact rfl) ?_
 refine jQ 290 1000002 (by decide) rfl rfl (by push_cast[d6,bX] <;> exact rfl) ?_
 refine goA 1 ?_;push_cast;refine aE ?_;refine kC [0,1,2,7,8,9,10] [80,216,232,248,1000000,1000001,1000002,291] (by simp only [zZ,zR,zP,zQ,zN,zS,zM,zX,zU,Nat.reduceEqDiff,reduceIte];exact rfl) ?_
 exact qRf a b c x0 x1 x2 ha hb hc b0 b1 b2 T U hcs hTl hT2
def qUh (a b c:List Ent) (hu:fw (.lst false (aG a)) + (fw (.lst false (aG b)) + (fw (.lst false (aG c)) + 0))≤1048576):HFun Tryz.prog 3 [.lst false (aG a),.lst false (aG b),.lst false (aG c)] (fun h st=>h=.v (.bool true)):=by
 obtain ⟨h1,h2⟩:=qR6 a;obtain ⟨h3,h4⟩:=qR6 b;obtain ⟨h5,h6⟩:=qR6 c;exact (qM9 a b c (by omega) (by omega) (by omega) (fun e he=>by have:=(h2 e he).1;omega) (fun e he=>by have:=(h4 e he).1;omega) (fun e he=>by have:=(h6 e he).1;omega)).mono fun _ _ h=>h.1
end Go.Proofs.Y
