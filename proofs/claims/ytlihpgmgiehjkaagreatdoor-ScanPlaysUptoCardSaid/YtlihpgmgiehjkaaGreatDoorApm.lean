/-
  Slices that share no memory: marked, grown, looked at. Of no program.
-/
import Derived.Test.YtlihpgmgiehjkaaGreatDoorScB
import Derived.Test.YtlihpgmgiehjkaaGreatDoorTrB
set_option linter.unusedSimpArgs false
set_option linter.unusedVariables false
section
set_option maxRecDepth 20000
namespace Go.Sw
open Go Go.Tr Go.Eng Go.Dk Go.Proofs.YtlihpgmgiehjkaaGreatDoor
theorem qJ9 {d:Dk} {v:ByteArray} (h:gY d v=0):pOk v 1=true∧d.down=false:=by
 unfold gY at h;split at h
 ·cases h
 ·rename_i h1;split at h
  ·cases h
  ·rename_i h2;exact ⟨by simpa using h1,by simpa using h2⟩
structure Fine (d:Dk) (D:Int→ByteArray):Prop where
 ok:d.Ok 1073741824
 sy:Sy d D
 len:d.L.length≤1000
theorem Fine.st {d:Dk} {D:Int→ByteArray} (h:Fine d D):∀ e ∈ d.L,0≤e.2.stamp∧e.2.stamp≤1099511627776:=fun e he=>by
 have:=h.sy.st e.1 e.2 (dX h.ok.rise he)
 have:=h.ok.stamps
 omega
end Go.Sw
namespace Go.Proofs.YtlihpgmgiehjkaaGreatDoor
open Go Go.Eng Go.RowKit Go.Maps Go.Tr Go.Dk Go.Sw
theorem zMs {d:Dk} {D:Int→ByteArray} (hf:Fine d D) (v:ByteArray) (hv:v.size≤1048576) (l:List Sn) (fs:Bool) (hsn:∀ x ∈ l,zF0 x) (hll:l.length≤1099511627776) (hl:∀ s ∈ l,s.2.2.1=2→D s.2.1=s.2.2.2) (r1 r2:Nat) :
  HFunM Tryz.prog 11 [.ptr 0 6 0 0,.v (.string v),.lst fs (dY l)] [(0,.bx false 64 (d.cells r1 r2))] (d.maps kS r1 r2)
   (fun h st g=>g=d.maps kS r1 r2∧if gY d v=0 then h=.tup [.own 1,.own 2,.v (.int .i64 (qEw (gX d v) l)),.v (.int .i64 0)]∧st=[(0,.bx false 64 (d.cells r1 r2)),(1,.sl true 54 3 (jR (mJ d v))),(2,.sl true 83 4 (dY (gX d v)))]
    else h=.tup [.v (.slice none 0 0),.v (.slice none 0 0),.v (.int .i64 0),.v (.int .i64 (gY d v))]∧st=[(0,.bx false 64 (d.cells r1 r2))]):=by
 have h:=zGt d _ hf.ok (by decide) (by have:=hf.len;omega) hf.st v hv l fs hsn hll (fun h=>Nat.le_trans (zAq hf.ok.rise (nZ h)) (by have:=hf.len;omega)) r1 r2
 by_cases h0:gY d v=0
 ·obtain ⟨a,b⟩:=qJ9 h0;obtain ⟨e1,e2,e3⟩:=zA1 hf.ok.rise hf.ok.keys hf.sy b a hv hl;rw [e1,e2,e3] at h;exact h
 ·simp only [h0,if_false] at h ⊢;exact h
theorem zAo {d:Dk} {D:Int→ByteArray} (hf:Fine d D) (v:ByteArray) (hv:v.size≤1048576) (r1 r2:Nat) :
  HFunM Tryz.prog 9 [.ptr 0 6 0 0,.v (.string v)] [(0,.bx false 64 (d.cells r1 r2))] (d.maps kS r1 r2)
   (fun h st g=>g=d.maps kS r1 r2∧if gY d v=0 then h=.tup [.own 1,.v (.int .i64 0)]∧st=[(0,.bx false 64 (d.cells r1 r2)),(1,.sl true 54 3 (jR (mJ d v)))]
    else h=.tup [.v (.slice none 0 0),.v (.int .i64 (gY d v))]∧st=[(0,.bx false 64 (d.cells r1 r2))]):=by
 have h:=zPy d _ hf.ok (by decide) (by have:=hf.len;omega) hf.st v hv (fun h=>Nat.le_trans (zAq hf.ok.rise (nZ h)) (by have:=hf.len;omega)) r1 r2
 by_cases h0:gY d v=0
 ·obtain ⟨a,b⟩:=qJ9 h0;obtain ⟨e1,-,-⟩:=zA1 (l:=[]) hf.ok.rise hf.ok.keys hf.sy b a hv (fun s hs=>by simp at hs)
  rw [e1] at h;exact h
 ·simp only [h0,if_false] at h ⊢;exact h
theorem zNr:∃ D,Fine dS3 D:=by
 obtain ⟨D1,s1,-,-⟩:=qAe zGj (by decide) 1 scH ByteArray.empty 0
 rw [show vX Dk.new (kT 1) scH ByteArray.empty 0=(eG Dk.new scH).2 from rfl,sc1] at s1
 obtain ⟨D2,s2,-,-⟩:=qAe s1 (by decide) 1 scHA ByteArray.empty 0
 rw [show vX (0,dS1).2 (kT 1) scHA ByteArray.empty 0=(eG dS1 scHA).2 from rfl,sc2] at s2
 obtain ⟨D3,s3,-,-⟩:=qAe s2 (by decide) 2 scHAx scHi 0
 rw [show vX (0,dS2).2 (kT 2) scHAx scHi 0=(dR dS2 scHAx scHi).2 from rfl,sc3] at s3
 exact ⟨D3,⟨ok_S3.rise,ok_S3.keys,by decide,by decide,by decide,by decide,by decide,by decide⟩,s3,by decide⟩
theorem zP2:mJ dS3 scH=[(scA,(1,ByteArray.empty)),(zMv,(2,scHi))]:=by kernel_rfl
theorem zTy:gY dS3 scH=0:=by kernel_rfl
theorem zTu:scH.size≤1048576∧scHA.size≤1048576∧scHAx.size≤1048576∧scHi.size≤1048576:=by decide
set_option maxHeartbeats 2000000 in
theorem zGw:HFun Tryz.prog 7 [] (fun h st=>h=.v (.bool true)):=by
 refine iD (N:=42) Tryz.func7 rfl Tryz.ntmps7 Tryz.results7 (by simp) ?_
 obtain ⟨z1,z2,z3,z4⟩:=zTu;refine zMe ?_;refine aA ?_;refine aC (fun K hK=>?_);simp (disch:=omega) only [push_cast,↓iC9,simprocAttr];refine hK _ ?_;clear hK K
 refine aA ?_;refine bD ?_;refine bT 32 [] cl5 (zPk) rfl rfl rfl rfl (by simp only [push_cast,simprocAttr];exact rfl) (by decide) (by decide) (by decide) (by simp only [push_cast,simprocAttr];try rfl) (by simp only [push_cast,simprocAttr];try rfl) ?_
 rintro _ _ _ ⟨r1,r2,rfl,rfl,rfl⟩
 have zH4:Dk.new.Ok 1099511627776:=⟨List.Pairwise.nil,by simp [Dk.new],by decide,by decide,by decide,by decide,by decide,by decide⟩
 have c1:=qT5 Dk.new 1099511627776 zH4 (Int.le_refl _) scH r1 r2 z1
 have c2:=qT5 dS1 1099511627776 zR6 (Int.le_refl _) scHA r1 r2 z2
 have c3:=zAn dS2 1099511627776 zR5 (Int.le_refl _) scHAx r1 r2 z3 scHi z4
 rw [sc1] at c1;rw [sc2] at c2;rw [sc3] at c3;obtain ⟨D,hf⟩:=zNr
 have c4:=zAo hf scH z1 r1 r2
 rw [zTy,zP2] at c4;simp only [if_true] at c4;simp only [bM] at c1 c2 c3 c4;refine aG 1 (fun K1 hK1=>?_);simp (disch:=omega) only [push_cast,↓iC9,simprocAttr,aE,aD,bM];refine hK1 _ ?_;(try clear hK1 K1)
 refine aV ?_;refine aA ?_;refine aA ?_;refine bD ?_;refine aG 4 (fun K1 hK1=>?_);simp (disch:=omega) only [push_cast,↓iC9,simprocAttr];refine hK1 _ ?_;(try clear hK1 K1)
 refine bT 72 [32] zQ0 (c1) rfl rfl rfl rfl (by simp only [push_cast,simprocAttr];exact rfl) (by decide) (by decide) (by decide) (by simp only [push_cast,simprocAttr];try rfl) (by simp only [push_cast,simprocAttr];try rfl) ?_
 rintro _ _ _ ⟨rfl,rfl,rfl⟩;refine aG 4 (fun K1 hK1=>?_);simp (disch:=omega) only [push_cast,↓iC9,simprocAttr,aE,aD];refine hK1 _ ?_;(try clear hK1 K1)
 refine bT 112 [32] zQ0 (c2) rfl rfl rfl rfl (by simp only [push_cast,simprocAttr];exact rfl) (by decide) (by decide) (by decide) (by simp only [push_cast,simprocAttr];try rfl) (by simp only [push_cast,simprocAttr];try rfl) ?_
 rintro _ _ _ ⟨rfl,rfl,rfl⟩;refine aG 4 (fun K1 hK1=>?_);simp (disch:=omega) only [push_cast,↓iC9,simprocAttr,aE,aD];refine hK1 _ ?_;(try clear hK1 K1)
 refine bT 152 [32] zTa (c3) rfl rfl rfl rfl (by simp only [push_cast,simprocAttr];exact rfl) (by decide) (by decide) (by decide) (by simp only [push_cast,simprocAttr];try rfl) (by simp only [push_cast,simprocAttr];try rfl) ?_
 rintro _ _ _ ⟨rfl,rfl,rfl⟩;refine aG 2 (fun K1 hK1=>?_);simp (disch:=omega) only [push_cast,↓iC9,simprocAttr,aE,aD];refine hK1 _ ?_;(try clear hK1 K1)
 refine aV ?_;refine aB ?_;refine bA rfl ?_;refine aT ?_;refine aA ?_;refine aX [0,1] [32] (by simp only [zZ,zR,zP,zQ,zN,zS,zM,zX,zU,Nat.reduceEqDiff,reduceIte];exact rfl) ?_
 refine bD ?_;refine aG 1 (fun K1 hK1=>?_);simp (disch:=omega) only [push_cast,↓iC9,simprocAttr];refine hK1 _ ?_;(try clear hK1 K1)
 refine bT 192 [32] cl9 (c4) rfl rfl rfl rfl (by simp only [push_cast,simprocAttr];exact rfl) (by decide) (by decide) (by decide) (by simp only [push_cast,simprocAttr];try rfl) (by simp only [push_cast,simprocAttr];try rfl) ?_
 rintro _ _ _ ⟨rfl,rfl,rfl⟩;refine aG 5 (fun K1 hK1=>?_);simp (disch:=omega) only [push_cast,↓iC9,simprocAttr,aE,aD];refine hK1 _ ?_;(try clear hK1 K1)
 refine aV ?_;refine aX [0,1,2,3] [32,193] (by simp only [zZ,zR,zP,zQ,zN,zS,zM,zX,zU,Nat.reduceEqDiff,reduceIte];exact rfl) ?_
 have hg1:∀ x,(jR [(scA,1,ByteArray.empty),(zMv,2,scHi)]).getD 1 x=[.v (.string zMv),.v (.int .i64 2),.v (.string scHi)]:=fun _=>rfl
 have hh:decide ((zMv,(2:Int),scHi)=({ data:=#[97,47,120] },2,{ data:=#[104,105] }))=true:=by decide
 refine aA ?_;refine bD ?_;refine aG 14 (fun K1 hK1=>?_);simp (disch:=omega) only [push_cast,↓iC9,simprocAttr,yV,yU,hg1]
 refine ⟨_,eqE _ _ _ _ _ _,?_⟩;with_reducible refine aM ?_;simp (disch:=omega) only [push_cast,↓iC9,simprocAttr,hh]
 refine hK1 _ ?_;(try clear hK1 K1);refine aG 2 (fun K1 hK1=>?_);simp (disch:=omega) only [push_cast,↓iC9,simprocAttr,aE,aD];refine hK1 _ ?_;(try clear hK1 K1)
 refine aV ?_;refine aB ?_;refine bB ?_;simp only [yA,yM,yH,yE,aL,aU,yK,yJ,zS,zM,Nat.reduceEqDiff,reduceIte,reduceCtorEq];exact bK rfl
end Go.Proofs.YtlihpgmgiehjkaaGreatDoor
end
section
namespace Go.Eng
open Go Go.RowKit
def Rd (w:World) (v:Value) (xs:List Value):Prop:=∀ b,v.ownBlock=some b→∀ (p:Nat) (u:Value),xs[p]?=some u→w.cell? ⟨b,p,none⟩=some u
theorem Own.rd {w:World} {v:Value} {xs:List Value} {base te sz n:Nat} (h:Own w base te sz v n xs):Rd w v xs:=by
 intro b hb p u hu
 have hl:=h.1
 have hh:=h
 rcases h.2 with ⟨rfl,_⟩|⟨g,cap,cur,rfl,_⟩
 ·cases hb
 ·cases hb
  rw [World.ownsRow.cellAt hh p (by have:=(List.getElem?_eq_some_iff.1 hu).1;omega),hu]
end Go.Eng
end
section
namespace Go.Eng
open Go Go.RowKit
section
variable {w w' w0:World} {v x x':Value} {xs ys:List Value} {base te sz n k:Nat}
theorem Rd.pre (h:Rd w v (xs ++ ys)):Rd w v xs:=fun b hb p u hu=>h b hb p u (by rw [List.getElem?_append_left (List.getElem?_eq_some_iff.1 hu).1];exact hu)
theorem Rd.block (h:Rd w v xs) (hb:∀ b,v.ownBlock=some b→w'.heap[b]?=w.heap[b]?):Rd w' v xs:=fun b hv p u hu=>by
 rw [gJ (hb b hv)];exact h b hv p u hu
def Tag (w:World) (ow:Nat→Nat) (v:Value) (t:Nat):Prop:=∀ b,v.ownBlock=some b→ow b=t∧b < w.heap.size
theorem qN6 {P:Program} {t ty e sz by':Nat} {z:Array Value} {v:Value} {n:Nat} {l:List Value} (hse:qJ P t=some (e,sz,by',z)) (hz:z.size=sz) (hsz:0 < sz) (hby0:0 < by') (h:Own w 0 e sz v n l)
  {x:Value} {m:Nat} {news:List Value} (hx:qE w x m news) (hl:news.length=m * sz) (h1:∀ u ∈ news,u.oneCell'=true) (hby:(n + m) * by'≤140737488355328) :
  ∃ v' w',(Builtin.append_ #[t,t] ty #[v,x]).run P w=.ok v' w'∧Own w' 0 e sz v' (n + m) (l ++ news)∧w.grownBy w' v.ownBlock∧(∀ b,v'.ownBlock=some b→w.heap.size≤b∨v.ownBlock=some b)∧(v'.ownBlock=v.ownBlock∨Below w.heap.size w w'):=by
 obtain ⟨v',w',r1,r2,r3,r4,r5⟩:=oV (P:=P) (ty:=ty) hse hz hsz hby0 h hx hl h1 hby;refine ⟨v',w',r1,r2,r3,r5,?_⟩
 have h63:n + m≤maxLen:=by
  have:n + m≤(n + m) * by':=Nat.le_mul_of_pos_right _ hby0
  simp only [maxLen];omega
 obtain ⟨hu,i,u,hi,h2,h3,h4,h5⟩:=oX hse
 rcases hx with ⟨a,cp,rfl,hnews⟩|⟨rfl,rfl,rfl⟩
 ·subst h2;subst h3
  rcases h.2 with ⟨rfl,rfl⟩|⟨g,cap,cur,rfl,hbg,hg,hnc,hcm,hcs,htake⟩
  ·right
   exact ⟨r3.os,r3.tape,r3.output,r3.size,fun b hb=>r3.block b hb (by simp [Value.ownBlock])⟩
  ·by_cases hroom:n + m≤cap
   ·have hfit:n * i.size + news.length≤cur.size:=by rw [hl,hcs,← Nat.add_mul];exact Nat.mul_le_mul_right _ hroom
    have hr:=run_append_room (P:=P) w t ty e i hu hi g n cap cur hg a m cp news hl hnews h1 hroom hfit
    rw [hr] at r1;simp only [Result.ok.injEq] at r1;rw [← r1.1];exact .inl rfl
   ·have holds:∀ j y,l[j]?=some y→w.cell? ((⟨g,0,none⟩:Addr).add j)=some y:=h.cells (g:=g) rfl
    have hr:=run_append_grow (P:=P) w t ty e i u hu hi h4 ⟨g,0,none⟩ n cap l h.1 holds a m cp news hl hnews (by omega) (by simp only [maxLen] at h63;omega) (growslice_fits (by omega) hby)
    rw [hr] at r1;simp only [Result.ok.injEq] at r1
    right
    rw [← r1.2]
    have:Below w.heap.size w w.drew:=⟨rfl,rfl,rfl,Nat.le_refl _,fun _ _=>rfl⟩
    exact this.alloc (Nat.le_refl _) _
 ·have hr:=run_append_owned_none (P:=P) (w:=w) 0 t ty e i sz hu hi v n l h
  rw [hr] at r1;simp only [Result.ok.injEq] at r1;exact .inl (by rw [← r1.1])
structure Marked (w0 w:World) (T:Nat→Prop) (te sz n:Nat) (V:Nat→Value) (m:Nat→Nat) (Y:Nat→List Value):Prop where
 kept:Kept T w0 w
 own:∀ j,j < n→Own w 0 te sz (V j) (m j) (Y j)
def qPb {α:Type} (f:Nat→α) (i:Nat) (x:α):Nat→α:=fun j=>if j=i then x else f j
theorem sH {α:Type} (f:Nat→α) (i:Nat) (x:α):qPb f i x i=x:=by simp [qPb]
theorem qCc {α:Type} (f:Nat→α) (i:Nat) (x:α) (j:Nat) (h:j≠i):qPb f i x j=f j:=by simp [qPb,h]
variable {T:Nat→Prop} {tO i i' L:Nat} {V U:Nat→Value} {m:Nat→Nat} {was news Y:Nat→List Value} {ow:Nat→Nat} {lv lv':Value}
theorem Marked.turn (h:Marked w0 w T te sz n V m Y) (hd:∀ i j b,i < n→j < n→(V i).ownBlock=some b→(V j).ownBlock=some b→i=j) (hT:∀ j b,j < n→(V j).ownBlock=some b→T b)
  (hi:i < n) {g:Nat} (hg:(V i).ownBlock=some g) (hO:Only g w w') (ho:Own w' 0 te sz (V i) (m i) ys):Marked w0 w' T te sz n V m (qPb Y i ys):=by
 refine ⟨h.kept.trans (T':=fun b=>b=g) ⟨hO.os,hO.tape,hO.output,Nat.le_of_eq hO.size.symm,fun b _ hb=>hO.block b hb⟩ (fun b _ e=>by subst e;exact hT i b hi hg),fun j hj=>?_⟩
 by_cases e:j=i
 ·subst e;rw [sH];exact ho
 ·rw [qCc _ _ _ _ e];exact (h.own j hj).only hO fun hb=>e (hd j i g hj hi hb hg)
theorem Marked.up (h:Marked w0 w T te sz n V m Y) (hb:Below w.heap.size w w'):Marked w0 w' T te sz n V m Y :=
 ⟨h.kept.trans (T':=fun _=>False) ⟨hb.os,hb.tape,hb.output,hb.size,fun b hlt _=>hb.block b hlt⟩ (fun _ _ h=>h.elim),fun j hj=>(h.own j hj).up hb⟩
structure Grown (w0 w:World) (T:Nat→Prop) (te sz tO n i i' L:Nat) (V:Nat→Value) (m:Nat→Nat) (was news:Nat→List Value) (ow:Nat→Nat) (U:Nat→Value) (lv:Value):Prop where
 kept:Kept T w0 w
 rd:∀ j,j < n→Rd w (V j) (was j)
 own:∀ j,i'≤j→j < n→Own w 0 te sz (V j) (m j) (was j)
 grown:∀ j,j < i→Own w 0 te sz (U j) (m j + 20) (was j ++ news j)
 long:Own w 0 tO 1 lv i ((List.range i).map U)
 newL:∀ b,lv.ownBlock=some b→w0.heap.size≤b
 tagV:∀ j,j < n→Tag w ow (V j) j
 tagU:∀ j,j < i→Tag w ow (U j) j
 tagL:Tag w ow lv n
 outer:∀ j,j < n→ow L=n + 1∧L < w.heap.size∧w.cell? ⟨L,j,none⟩=some (V j)
theorem Tag.up (h:Tag w ow v k) (hs:w.heap.size≤w'.heap.size):Tag w' ow v k:=fun b hb=>⟨(h b hb).1,by have:=(h b hb).2;omega⟩
theorem Grown.up (h:Grown w0 w T te sz tO n i i' L V m was news ow U lv) (hb:Below w.heap.size w w'):Grown w0 w' T te sz tO n i i' L V m was news ow U lv :=
 ⟨h.kept.trans (T':=fun _=>False) ⟨hb.os,hb.tape,hb.output,hb.size,fun b hlt _=>hb.block b hlt⟩ (fun _ _ h=>h.elim),fun j hj=>(h.rd j hj).block fun b hv=>hb.block b ((h.tagV j hj b hv).2),
  fun j h1 h2=>(h.own j h1 h2).up hb,fun j hj=>(h.grown j hj).up hb,h.long.up hb,h.newL,fun j hj=>(h.tagV j hj).up hb.size,fun j hj=>(h.tagU j hj).up hb.size,h.tagL.up hb.size,
  fun j hj=>⟨(h.outer j hj).1,by have:=(h.outer j hj).2.1;have:=hb.size;omega,qD hb (h.outer j hj).2.2⟩⟩
def owN (w:World) (ow:Nat→Nat) (t:Nat):Nat→Nat:=fun b=>if w.heap.size≤b then t else ow b
theorem qHs {t b:Nat} (h:b < w.heap.size):owN w ow t b=ow b:=by simp [owN];omega
theorem Tag.old (h:Tag w ow v k) (t:Nat) (hs:w.heap.size≤w'.heap.size):Tag w' (owN w ow t) v k:=fun b hb=>by
 obtain ⟨h1,h2⟩:=h b hb;exact ⟨by rw [qHs h2];exact h1,by omega⟩
theorem Own.other (h:Own w base te sz v n xs) {j t:Nat} (hv:Tag w ow v j) (hx:Tag w ow x t) (hne:j≠t) (r3:w.grownBy w' x.ownBlock):Own w' base te sz v n xs :=
 h.block fun b hb=>r3.block b (hv b hb).2 fun e=>hne (by rw [← (hv b hb).1,(hx b e.symm).1])
theorem Rd.other (h:Rd w v xs) {j t:Nat} (hv:Tag w ow v j) (hx:Tag w ow x t) (hne:j≠t) (r3:w.grownBy w' x.ownBlock):Rd w' v xs :=
 h.block fun b hb=>r3.block b (hv b hb).2 fun e=>hne (by rw [← (hv b hb).1,(hx b e.symm).1])
theorem zAv {t:Nat} (hx:Tag w ow x t) (r2:Own w' base te sz x' n xs) (r5:∀ b,x'.ownBlock=some b→w.heap.size≤b∨x.ownBlock=some b):Tag w' (owN w ow t) x' t:=fun b hb=>by
 refine ⟨?_,(r2.lt b hb).2⟩
 rcases r5 b hb with h|h
 ·simp [owN,h]
 ·rw [qHs (hx b h).2];exact (hx b h).1
theorem qLk (h:Kept T w0 w) (r3:w.grownBy w' x.ownBlock) (hT:∀ b,x.ownBlock=some b→w0.heap.size≤b∨T b):Kept T w0 w' :=
 h.trans (T':=fun b=>x.ownBlock=some b) ⟨r3.os,r3.tape,r3.output,r3.size,fun b hlt hn=>r3.block b hlt fun e=>hn e.symm⟩ fun b hlt e=>(hT b e).resolve_left (by omega)
theorem Grown.app (h:Grown w0 w T te sz tO n i (i + 1) L V m was news ow U lv) (hi:i < n) (hx:Tag w ow x i) {zs:List Value} (r2:Own w' 0 te sz x' k (was i ++ zs)) (r3:w.grownBy w' x.ownBlock)
  (r5:∀ b,x'.ownBlock=some b→w.heap.size≤b∨x.ownBlock=some b) (r6:x'.ownBlock=x.ownBlock∨Below w.heap.size w w') (hT:∀ b,x.ownBlock=some b→w0.heap.size≤b∨T b) :
  Grown w0 w' T te sz tO n i (i + 1) L V m was news (owN w ow i) U lv∧Tag w' (owN w ow i) x' i∧(∀ b,x'.ownBlock=some b→w0.heap.size≤b∨T b):=by
 have hs:=h.kept.size
 refine ⟨⟨qLk h.kept r3 hT,fun j hj=>?_,fun j h1 h2=>(h.own j h1 h2).other (h.tagV j h2) hx (by omega) r3,fun j hj=>(h.grown j hj).other (h.tagU j hj) hx (by omega) r3,h.long.other h.tagL hx (by omega) r3,h.newL,
  fun j hj=>(h.tagV j hj).old i r3.size,fun j hj=>(h.tagU j hj).old i r3.size,h.tagL.old i r3.size,fun j hj=>?_⟩,zAv hx r2 r5,fun b hb=>?_⟩
 ·by_cases e:j=i
  ·subst e
   rcases r6 with r6|r6
   ·intro b hb p u hu
    by_cases e:x.ownBlock=some b
    ·exact r2.rd.pre b (by rw [r6,e]) p u hu
    ·rw [gJ (r3.block b (h.tagV j hj b hb).2 (fun e2=>e e2.symm))]
     exact h.rd j hj b hb p u hu
   ·exact (h.rd j hj).block fun b hv=>r6.block b ((h.tagV j hj b hv).2)
  ·exact (h.rd j hj).other (h.tagV j hj) hx e r3
 ·obtain ⟨h1,h2,h3⟩:=h.outer j hj;refine ⟨by rw [qHs h2];exact h1,by have:=r3.size;omega,?_⟩
  rw [gJ (r3.block L h2 fun e=>?_)]
  ·exact h3
  ·have:=(hx L e.symm).1;omega
 ·rcases r5 b hb with h'|h'
  ·left;omega
  ·exact hT b h'
theorem Grown.next (h:Grown w0 w T te sz tO n i (i + 1) L V m was news ow U lv) (hi:i < n) (hx:Tag w ow x i) (ho:Own w 0 te sz x (m i + 20) (was i ++ news i)) (r2:Own w' 0 tO 1 lv' (i + 1) ((List.range i).map U ++ [x])) (r3:w.grownBy w' lv.ownBlock)
  (r5:∀ b,lv'.ownBlock=some b→w.heap.size≤b∨lv.ownBlock=some b) :
  Grown w0 w' T te sz tO n (i + 1) (i + 1) L V m was news (owN w ow n) (qPb U i x) lv':=by
 have hs:=h.kept.size
 have hl:=h.tagL
 refine ⟨qLk h.kept r3 (fun b hb=>.inl (h.newL b hb)),fun j hj=>(h.rd j hj).other (h.tagV j hj) hl (by omega) r3,fun j h1 h2=>(h.own j h1 h2).other (h.tagV j h2) hl (by omega) r3,fun j hj=>?_,?_,fun b hb=>?_,
  fun j hj=>(h.tagV j hj).old n r3.size,fun j hj=>?_,zAv hl r2 r5,fun j hj=>?_⟩
 ·by_cases e:j=i
  ·subst e;rw [sH];exact ho.other hx hl (by omega) r3
  ·rw [qCc _ _ _ _ e];exact (h.grown j (by omega)).other (h.tagU j (by omega)) hl (by omega) r3
 ·have:(List.range (i + 1)).map (qPb U i x)=(List.range i).map U ++ [x]:=by
   rw [List.range_succ,List.map_append,List.map_singleton,sH]
   congr 1
   apply List.map_congr_left
   intro j hj;rw [qCc _ _ _ _ (by have:=List.mem_range.1 hj;omega)]
  rw [this];exact r2
 ·rcases r5 b hb with h'|h'
  ·omega
  ·exact h.newL b h'
 ·by_cases e:j=i
  ·subst e;rw [sH];exact hx.old n r3.size
  ·rw [qCc _ _ _ _ e];exact (h.tagU j (by omega)).old n r3.size
 ·obtain ⟨h1,h2,h3⟩:=h.outer j hj;refine ⟨by rw [qHs h2];exact h1,by have:=r3.size;omega,?_⟩
  rw [gJ (r3.block L h2 fun e=>?_)]
  ·exact h3
  ·have:=(hl L e.symm).1;omega
theorem Marked.grown (h:Marked w0 w T te sz n V m was) (ht:∀ j,j < n→Tag w0 ow (V j) j) (hL:∀ j,j < n→ow L=n + 1∧L < w0.heap.size∧¬ T L∧w0.cell? ⟨L,j,none⟩=some (V j)) (news:Nat→List Value) (U:Nat→Value) (tO:Nat) :
  Grown w0 w T te sz tO n 0 0 L V m was news ow U (.slice none 0 0) :=
 ⟨h.kept,fun j hj=>(h.own j hj).rd,fun j _ hj=>h.own j hj,fun j hj=>absurd hj (Nat.not_lt_zero _),World.ownsRow_nil w 0 tO 1,fun b hb=>(by cases hb),fun j hj=>(ht j hj).up h.kept.size,fun j hj=>absurd hj (Nat.not_lt_zero _),fun b hb=>(by cases hb),
  fun j hj=>by
   obtain ⟨a,b,d,e⟩:=hL j hj;exact ⟨a,by have:=h.kept.size;omega,by rw [gJ (h.kept.block L b d)];exact e⟩⟩
end
end Go.Eng
end
