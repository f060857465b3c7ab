/- What the walk of the law stands on. -/
import Derived.Test.YtjljkgeeimploaaGreatDoorQg
import Derived.Lib.RowBridge
set_option linter.defProp false
set_option maxRecDepth 20000
set_option maxHeartbeats 8000000
namespace Go.Eng
open Go Go.RowKit
section
variable {lw:Env} {P:Program} {N:Nat} {c:Ctx} {S S':HS} {look:Nat→Option Value} {w w':World} {ρ ρ':Nat→Value} {xs:Nat→List Value} {hv:HV} {cnd:Prop}
abbrev KVk (c:Ctx) (S S':HS) (hv:HV) (look:Nat→Option Value) (ρ:Nat→Value) (w:World) (p:Nat→Bool) (u:Value) (w':World):Prop :=
  ∃ ρ' xs',Good c S' look w' ρ' xs'∧RepH w' (c.A ρ' S'.st) c.n0 ρ' u hv∧∀ v x,RepH w (c.A ρ S.st) c.n0 ρ v x→RepH w' (c.A ρ' S'.st) c.n0 ρ' v (x.kill p)
theorem Good.put_tr (h : Good c S look w ρ xs) (id : Nat) (r : Row) (hs : w.heap.size ≤ w'.heap.size)
    (old:Option Nat) (hold:∀ b,old=some b→∃ r0,rlk S.st id=some r0∧(ρ id).ownBlock=some b)
    (hb:∀ b,b < w.heap.size→some b≠old→w'.heap[b]?=w.heap[b]?) (hρ:∀ i,i≠id→ρ' i=ρ i)
    (hblk:∀ b,(ρ' id).ownBlock=some b→w.heap.size≤b∨old=some b):∀ v x,RepH w (c.A ρ S.st) c.n0 ρ v x→RepH w' (c.A ρ' ((id,r) :: dN (only id) S.st)) c.n0 ρ' v (x.kill (only id)):=by
  have hA:∀ b,b < w.heap.size→c.A ρ' ((id,r) :: dN (only id) S.st) b→c.A ρ S.st b:=by
    rintro b hlt (h0|⟨i,s,hi,hbi⟩)
    · exact .inl h0
    · right
      simp only [rlk] at hi
      by_cases e:id=i
      · subst e
        rcases hblk b hbi with hge|ho
        · omega
        · obtain ⟨r0,h1,h2⟩:=hold b ho
          exact ⟨id,r0,h1,h2⟩
      · rw [b7 e,eK,iP (by omega),o7] at hi
        cases hs0:rlk S.st i with
       |none=>rw [hs0] at hi;cases hi
       |some s0=>rw [hρ i (by omega)] at hbi;exact ⟨i,s0,hs0,hbi⟩
  have hb':∀ b,b < w.heap.size→¬ c.A ρ S.st b→w'.heap[b]?=w.heap[b]?:=fun b hlt hn=>hb b hlt fun e=>hn (.inr (by
    obtain ⟨r0,h1,h2⟩:=hold b e.symm;exact ⟨id,r0,h1,h2⟩))
  exact fun v x hv=>(hv.up hs hb' hA (a7 _)).kill (fun j hj=>hρ j (xM hj))
theorem qBo (G : Good c S look w ρ xs) {id : Nat} {r0 : Row} (hrow : rlk S.st id = some r0) {g n cap : Nat} (hρ : ρ id = .slice (some ⟨g, 0, none⟩) n cap) (hO : Only g w w') (r : Row) :
    ∀ v x,RepH w (c.A ρ S.st) c.n0 ρ v x→RepH w' (c.A ρ (iC id r S.st)) c.n0 ρ v x:=fun u h hu=>by
  refine hu.up (bCj hO.size.symm) (fun b hb hnA=>hO.block b fun e=>hnA (.inr ⟨id,_,hrow,by rw [hρ,e];rfl⟩)) (fun b _ hA=>?_) (a7 _)
  rcases hA with h0|⟨i2,s2,h2,h3⟩
  · exact .inl h0
  · rw [iD id _ _ _ hrow] at h2
    by_cases e2:i2=id
    · subst e2;exact .inr ⟨_,_,hrow,h3⟩
    · rw [b7 e2] at h2;exact .inr ⟨_,_,h2,h3⟩
theorem qQo (G : Good c S look w ρ xs) (hl : Agr S.env look lw) {t : TypeId} {x y : Operand} {ty : TypeId} (h : uQ S (bU P t) (hev S.env x) (hev S.env y) = .go cnd hv S') (hc : cnd) :
    bH P lw (.store t x y) ty w (KVk c S S' hv look ρ w (fun _=>false)) (KVk c S S' hv look ρ w (fun _=>false)):=by
  unfold bH;simp only [aP,bZ];unfold uQ at h;split at h
  · rename_i id sz i k z hx hy
    obtain ⟨v,e1,e2⟩:=G.ev hl hx;obtain ⟨u,f1,f2⟩:=G.ev hl hy
    cases e2 with
   |ptr _ _ _ hρ =>
    rename_i g n cp;rw [e1,f1];dsimp only;unfold oY at h;split at h
    · rename_i nw ty' s els hr
      obtain ⟨o1,o2,o3⟩:=dC G hr
      have hnl:n=els.length:=by
        obtain ⟨a,cp',e⟩:=cW o1;rw [hρ] at e;cases e;rfl
      subst hnl
      have o1':=o1
      rw [hρ] at o1';obtain ⟨cur,hcur,hle⟩:=xL o1'
      have hlen:=o1.1
      unfold qG at h;split at h
      · rename_i hk
        split at h
        · rename_i f hf
          simp only [HOut.go.injEq] at h;obtain ⟨rfl,rfl,rfl⟩:=h;obtain ⟨rfl,hi,hkl,h1⟩:=hc;rw [eU hi] at hkl ⊢
          have hfr:=qWb f2 hf
          have hone:=qV8 hfr h1
          have hsz:=o2 _ (c7 hi)
          have hpos:=rL (sz:=sz) (k:=k) hi (by omega)
          obtain ⟨w',r1,r2,r3⟩:=fL (P:=P) (ty:=t) (i:=i * sz + k) (v:=u) hcur hk hone (by omega)
          refine ⟨w',r1,ρ,(fun j=>if j=id then splice (xs id) (i * sz + k) [u] else xs j),?_,.v _,fun v x hvx=>(qBo G hr hρ r3 _ v x hvx).kill (fun _ _=>rfl)⟩
          rw [gQ _ _ _ hkl];refine qQb G hr hi (vs:=[u]) (fs:=[f]) rfl (by simp only [t7];omega) (by simpa using hone) (fun j a b=>?_) hρ r3 (fun cur' hc'=>?_)
          · simp at a;subst a;exact hfr
          · rw [(iY hc' hcur).1];exact r2
        · cases h
      · rename_i m hs hk
        split at h
        · rename_i fs hf
          simp only [HOut.go.injEq] at h;obtain ⟨rfl,rfl,rfl⟩:=h;obtain ⟨rfl,hi,hm,hkl⟩:=hc;rw [eU hi] at hkl ⊢
          cases f2 with
         |agg hn h1 hr' =>
          rename_i cs;obtain ⟨fl1,fl2⟩:=qR7 hf
          have hsz:=o2 _ (c7 hi)
          have hfit:i * sz + k + cs.size≤cur.size:=by
            have:(i + 1) * sz≤els.length * sz:=m5 _ hi
            rw [x6,bAr] at this;omega
          have hall:∀ v ∈ cs.toList,v.oneCell'=true:=fun v hv=>by
            obtain ⟨j,hj,rfl⟩:=p9 hv
            simpa using h1 j (by simpa using hj)
          obtain ⟨w',r1,r2,r3⟩:=nZ (P:=P) (ty:=t) (i:=i * sz + k) (vs:=cs) hcur (by rw [hk];congr 2;omega) hall hfit
          refine ⟨w',r1,ρ,(fun j=>if j=id then splice (xs id) (i * sz + k) cs.toList else xs j),?_,.v _,fun v x hvx=>(qBo G hr hρ r3 _ v x hvx).kill (fun _ _=>rfl)⟩
          refine qQb G hr hi (vs:=cs.toList) (fs:=fs) (by simp;omega) (by omega) hall (fun j a b=>?_) hρ r3 (fun cur' hc'=>?_)
          · simp at a
            simp only [bAb];exact qWb (hr' j a (by omega)) (fl2 j (by omega) b)
          · rw [(iY hc' hcur).1];exact r2
        · cases h
      · cases h
    · rename_i nw ty' cells hr
      have R:=G.rows id _ hr
      have o1:=R.own
      obtain ⟨⟨g',hg',-⟩,r2⟩:=R.rep;rw [hρ] at hg'
      cases hg'
      simp only [Row.ty,Row.sz,Row.len] at o1
      have o1':=o1
      rw [hρ] at o1';obtain ⟨cur,hcur,hle⟩:=xL o1'
      have hlen:=o1.1
      unfold qJ at h;split at h
      · rename_i hk
        simp only [HOut.go.injEq] at h;obtain ⟨rfl,rfl,rfl⟩:=h;obtain ⟨rfl,hkl,h1⟩:=hc
        have hone:=qEz f2 h1
        obtain ⟨w',r1,r2',r3⟩:=fL (P:=P) (ty:=t) (i:=0 * sz + k) (v:=u) hcur hk hone (by omega)
        refine ⟨w',r1,ρ,(fun j=>if j=id then splice (xs id) k [u] else xs j),?_,.v _,fun v x hvx=>(qBo G hr hρ r3 _ v x hvx).kill (fun _ _=>rfl)⟩
        rw [gQ _ _ _ hkl];refine qQd G hr (vs:=[u]) rfl (by simp only [t7];omega) (by simpa using hone) (fun j a b=>?_) hρ r3 (fun cur' hc'=>?_)
        · simp at a;subst a;exact f2
        · rw [(iY hc' hcur).1]
          have e:0 * sz + k=k:=by omega
          rw [e] at r2';exact r2'
      · rename_i m hs hk
        simp only [HOut.go.injEq] at h;obtain ⟨rfl,rfl,rfl⟩:=h;obtain ⟨rfl,hm,hkl⟩:=hc
        cases f2 with
       |agg hn h1 hr' =>
        rename_i cs
        have hall:∀ v ∈ cs.toList,v.oneCell'=true:=fun v hv=>by
          obtain ⟨j,hj,rfl⟩:=p9 hv
          simpa using h1 j (by simpa using hj)
        obtain ⟨w',r1,r2',r3⟩:=nZ (P:=P) (ty:=t) (i:=0 * sz + k) (vs:=cs) hcur (by rw [hk];congr 2;omega) hall (by omega)
        refine ⟨w',r1,ρ,(fun j=>if j=id then splice (xs id) k cs.toList else xs j),?_,.v _,fun v x hvx=>(qBo G hr hρ r3 _ v x hvx).kill (fun _ _=>rfl)⟩
        refine qQd G hr (vs:=cs.toList) (by simp;omega) (by omega) hall (fun j a b=>?_) hρ r3 (fun cur' hc'=>?_)
        · simp at a
          simp only [bAb];exact hr' j a (by omega)
        · rw [(iY hc' hcur).1]
          have e:0 * sz + k=k:=by omega
          rw [e] at r2';exact r2'
      · cases h
    · rename_i nw ty' s els hr
      obtain ⟨o1,o2,o3⟩:=kF G hr
      have hnl:n=els.length:=by
        obtain ⟨a,cp',e⟩:=cW o1;rw [hρ] at e;cases e;rfl
      subst hnl
      have o1':=o1
      rw [hρ] at o1';obtain ⟨cur,hcur,hle⟩:=xL o1'
      have hlen:=o1.1
      unfold qH at h;split at h
      · rename_i hk
        simp only [HOut.go.injEq] at h;obtain ⟨rfl,rfl,rfl⟩:=h;obtain ⟨rfl,hi,hkl,h1⟩:=hc;rw [eU hi] at hkl ⊢
        have hone:=qEz f2 h1
        have hsz:=o2 _ (c7 hi)
        have hpos:=rL (sz:=sz) (k:=k) hi (by omega)
        obtain ⟨w',r1,r2,r3⟩:=fL (P:=P) (ty:=t) (i:=i * sz + k) (v:=u) hcur hk hone (by omega)
        refine ⟨w',r1,ρ,(fun j=>if j=id then splice (xs id) (i * sz + k) [u] else xs j),?_,.v _,fun v x hvx=>(qBo G hr hρ r3 _ v x hvx).kill (fun _ _=>rfl)⟩
        rw [gQ _ _ _ hkl];refine qQc G hr hi (vs:=[u]) rfl (by simp only [t7];omega) (by simpa using hone) (fun j a b=>?_) hρ r3 (fun cur' hc'=>?_)
        · simp at a;subst a;exact f2
        · rw [(iY hc' hcur).1];exact r2
      · rename_i m hs hk
        simp only [HOut.go.injEq] at h;obtain ⟨rfl,rfl,rfl⟩:=h;obtain ⟨rfl,hi,hm,hkl⟩:=hc;rw [eU hi] at hkl ⊢
        cases f2 with
       |agg hn h1 hr' =>
        rename_i cs
        have hsz:=o2 _ (c7 hi)
        have hfit:i * sz + k + cs.size≤cur.size:=by
          have:(i + 1) * sz≤els.length * sz:=m5 _ hi
          rw [x6,bAr] at this;omega
        have hall:∀ v ∈ cs.toList,v.oneCell'=true:=fun v hv=>by
          obtain ⟨j,hj,rfl⟩:=p9 hv
          simpa using h1 j (by simpa using hj)
        obtain ⟨w',r1,r2,r3⟩:=nZ (P:=P) (ty:=t) (i:=i * sz + k) (vs:=cs) hcur (by rw [hk];congr 2;omega) hall hfit
        refine ⟨w',r1,ρ,(fun j=>if j=id then splice (xs id) (i * sz + k) cs.toList else xs j),?_,.v _,fun v x hvx=>(qBo G hr hρ r3 _ v x hvx).kill (fun _ _=>rfl)⟩
        refine qQc G hr hi (vs:=cs.toList) (fs:=hs) (by simp;omega) (by omega) hall (fun j a b=>?_) hρ r3 (fun cur' hc'=>?_)
        · simp at a
          simp only [bAb];exact hr' j a (by omega)
        · rw [(iY hc' hcur).1];exact r2
      · cases h
    · cases h
  · cases h
theorem qMy (G : Good c S look w ρ xs) (hl : Agr S.env look lw) {nid : Nat} {args : Array Operand} {ats : Array TypeId} {ty : TypeId} (h : kJ S nid (ats == #[eB ats, eB ats]) (qXo P ats) (jT P (eB ats)) (jF S.env args.toList) = .go cnd hv S') (hc : cnd) {idk : Nat} (ho : ∃ x, jF S.env args.toList = some [.own idk, x]) :
    bH P lw (.call ⟨.builtin .append,args,ats⟩) ty w (KVk c S S' hv look ρ w (only idk)) (KVk c S S' hv look ρ w (only idk)):=by
  obtain ⟨xk,hxk⟩:=ho
  have two:∀ {p q:HV},jF S.env args.toList=some [p,q]→∃ u v,evs lw args.toList=some [u,v]∧RepH w (c.A ρ S.st) c.n0 ρ u p∧RepH w (c.A ρ S.st) c.n0 ρ v q:=by
    intro p q hpq;obtain ⟨vs,e1,e2,e3⟩:=G.evs hl hpq
    match vs,e2 with
   |[u,v],_=>exact ⟨u,v,e1,e3 0 (by simp) (by simp),e3 1 (by simp) (by simp)⟩
  unfold kJ at h;split at h
  · rename_i e sz by' z id x hse hargs
    obtain rfl:id=idk:=by rw [hargs] at hxk;cases hxk;rfl
    split at h
    · rename_i hs
      simp only [g9,bAc] at hs;obtain ⟨hats,hz⟩:=hs;obtain ⟨u,v,e1,e2,e3⟩:=two hargs;unfold qE5 at h;split at h
      · rename_i nw ty' s els hrow
        split at h
        · rename_i hd
          simp only [g9,m7] at hd;obtain ⟨rfl,rfl⟩:=hd;unfold qA0 at h;split at h
          · rename_i c' news hn
            simp only [HOut.go.injEq] at h;obtain ⟨rfl,rfl,rfl⟩:=h;obtain ⟨hc',hby,hby0,hsz⟩:=hc
            cases e2
            obtain ⟨o1,o2,o3⟩:=dC G hrow;obtain ⟨nv,v',w',r1,r2,r3,r4,r5,n2⟩:∃ nv v' w',(Builtin.append_ ats ty #[ρ id,v]).run P w=.ok v' w'∧Own w' 0 ty' s v' (els.length + news.length) (xs id ++ nv)∧w.grownBy w' (ρ id).ownBlock∧v'.oneCell'=true∧(∀ b,v'.ownBlock=some b→w.heap.size≤b∨(ρ id).ownBlock=some b)∧Flat (RepF w (c.A ρ S.st) c.n0) s nv news:=by
              unfold qPa at hn;split at hn
              · rename_i hsame
                have hats:ats=#[eB ats,eB ats]:=by simpa using hsame
                obtain ⟨nv,n1,n2⟩:=qAo G hsz e3 hn hc';obtain ⟨v',w',r1,r2,r3,r4,r5⟩:=kN (P:=P) (ty:=ty) hse hz hsz hby0 o1 n1 n2.len n2.one hby;exact ⟨nv,v',w',by rw [hats];exact r1,r2,r3,r4,r5,n2⟩
              · split at hn
                · rename_i hstr
                  unfold qUs at hn;split at hn
                  · rename_i str
                    simp only [a6,n5] at hn;obtain ⟨-,rfl⟩:=hn
                    have:=bL e3
                    subst this;obtain ⟨t,u,e',i,rfl,hu,ht,hi,hs1,hb1,hzz⟩:=qNo hstr;obtain ⟨hu',i',u',hi',q2,q3,q4,q5⟩:=oB hse
                    have hu':P.underlying t=some (.slice ty'):=hu'
                    rw [ht] at hu';simp only [a6,TypeDesc.slice.injEq] at hu';subst hu';rw [hi] at hi';simp only [a6] at hi';subst hi'
                    have hs':s=1:=by omega
                    subst hs'
                    have hbl:(gM str).length=str.size:=by simp [gM]
                    have hb2:els.length + str.size≤140737488355328:=by
                      have e1:by'=1:=by omega
                      rw [hbl,e1,bCm] at hby;exact hby
                    obtain ⟨v',w',r1,r2,r3,r4,r5⟩:=qMm (P:=P) (ty:=ty) ht hu hi hs1 hb1 hzz o1 str hb2;exact ⟨_,v',w',r1,by rw [hbl];exact r2,r3,r4,r5,qMg (fun x=>.v x) str⟩
                  · cases hn
                · cases hn
            have hF:Flat (RepF w (c.A ρ S.st) c.n0) s (xs id ++ nv) (els ++ news):=Flat.append ⟨o1.1,o2,o3⟩ n2
            unfold bH;simp only [aP,bZ,e1,bT];refine ⟨v',w',r1,fC ρ id v',_,G.put id (.sl nw ty' s (els ++ news)) (xs id ++ nv) r3.size r3.os r3.tape r3.output (ρ id).ownBlock (fun b hb=>⟨_,hrow,hb⟩) (fun b hlt hne=>r3.block b hlt hne) (fun i hi=>jH ρ id v' i hi)
              (fun b hb=>r5 b (by rw [aK] at hb;exact hb)) (fun _ tr=>?_),?_,fun v x hvx=>G.put_tr id (.sl nw ty' s (els ++ news)) r3.size (ρ id).ownBlock (fun b hb=>⟨_,hrow,hb⟩) (fun b hlt hne=>r3.block b hlt hne) (fun i hi=>jH ρ id v' i hi) (fun b hb=>r5 b (by rw [aK] at hb;exact hb)) v x hvx⟩
            · refine ⟨by rw [aK];simp only [Row.ty,Row.sz,Row.len,i8];exact r2,?_,fun b hb=>?_⟩
              · exact ⟨hF.wid,fun i k hi hk=>by obtain ⟨u,a,b,d⟩:=hF.get i k hi hk;exact ⟨u,a,b,tr _ _ d⟩⟩
              · rw [aK] at hb
                rcases r5 b hb with hge|ho
                · have:=G.kept.size;have:=c.hn;exact ⟨.inl (by omega),fun _=>by omega⟩
                · exact (G.rows id _ hrow).new b ho
            · have:=RepH.own (w:=w') (A:=c.A (fC ρ id v') ((S.kill (only id)).row id (.sl nw ty' s (els ++ news))).st) (n0:=c.n0) (ρ:=fC ρ id v') id (by rw [aK];exact r4)
              rw [aK] at this;exact this
          · cases h
        · cases h
      · rename_i nw ty' s els hrow
        split at h
        · rename_i hd
          simp only [g9,m7] at hd;obtain ⟨hsame,rfl,rfl⟩:=hd;unfold qHr at h;split at h
          · rename_i c' news hn
            simp only [HOut.go.injEq] at h;obtain ⟨rfl,rfl,rfl⟩:=h;obtain ⟨hc',hby,hby0,hsz⟩:=hc
            cases e2
            obtain ⟨o1,o2,o3⟩:=kF G hrow
            have hats2:ats=#[eB ats,eB ats]:=by simpa using hsame
            obtain ⟨nv,n1,n2⟩:=qN9 G hsz e3 hn hc';obtain ⟨v',w',r1,r2,r3,r4,r5⟩:=kN (P:=P) (ty:=ty) hse hz hsz hby0 o1 n1 n2.len n2.one hby;rw [← hats2] at r1
            have hF:Flat (RepH w (c.A ρ S.st) c.n0 ρ) s (xs id ++ nv) (els ++ news):=Flat.append ⟨o1.1,o2,o3⟩ n2
            unfold bH;simp only [aP,bZ,e1,bT];refine ⟨v',w',r1,fC ρ id v',_,G.put id (.hl nw ty' s (hkl id (els ++ news))) (xs id ++ nv) r3.size r3.os r3.tape r3.output (ρ id).ownBlock (fun b hb=>⟨_,hrow,hb⟩) (fun b hlt hne=>r3.block b hlt hne) (fun i hi=>jH ρ id v' i hi)
              (fun b hb=>r5 b (by rw [aK] at hb;exact hb)) (fun tr _=>?_),?_,fun v x hvx=>G.put_tr id (.hl nw ty' s (hkl id (els ++ news))) r3.size (ρ id).ownBlock (fun b hb=>⟨_,hrow,hb⟩) (fun b hlt hne=>r3.block b hlt hne) (fun i hi=>jH ρ id v' i hi) (fun b hb=>r5 b (by rw [aK] at hb;exact hb)) v x hvx⟩
            · refine ⟨by rw [aK];simp only [Row.ty,Row.sz,Row.len,hkl,c8,i8];exact r2,?_,fun b hb=>?_⟩
              · have:=hF.map (f:=HV.kill (only id)) tr
                exact ⟨this.wid,this.get⟩
              · rw [aK] at hb
                rcases r5 b hb with hge|ho
                · have:=G.kept.size;have:=c.hn;exact ⟨.inl (by omega),fun _=>by omega⟩
                · exact (G.rows id _ hrow).new b ho
            · have:=RepH.own (w:=w') (A:=c.A (fC ρ id v') ((S.kill (only id)).row id (.hl nw ty' s (hkl id (els ++ news)))).st) (n0:=c.n0) (ρ:=fC ρ id v') id (by rw [aK];exact r4)
              rw [aK] at this;exact this
          · cases h
        · cases h
      · cases h
    · cases h
  · rename_i e sz by' z x hse hargs
    rw [hargs] at hxk;cases hxk
  · cases h
theorem qMx (G : Good c S look w ρ xs) (hl : Agr S.env look lw) {id n : Nat} {t ty : TypeId} {ps : Array (Nat × Operand)} (h : lV S id n (jT P t) (jV S.env ps.toList) = .go cnd hv S') (hc : cnd) :
    bH P lw (.buildSlice t n ps) ty w (KVk c S S' hv look ρ w (only id)) (KVk c S S' hv look ρ w (only id)):=by
  have fin : ∀ {v' : Value} {w' : World} {r : Row} {l' : Nat → List Value}, Below w.heap.size w w' → (∀ b, v'.ownBlock = some b → w.heap.size ≤ b) → v'.oneCell' = true →
      Good c ((S.kill (only id)).row id r) look w' (fC ρ id v') l'→KVk c S ((S.kill (only id)).row id r) (.own id) look ρ w (only id) v' w':=fun {v' w' r l'} hb hblk h1 G'=>by
    refine ⟨_,_,G',?_,fun v x hvx=>G.put_tr id r hb.size none (fun b hb=>by cases hb) (fun b hlt _=>hb.block b hlt) (fun i hi=>jH ρ id v' i hi) (fun b hb=>.inl (hblk b (by rw [aK] at hb;exact hb))) v x hvx⟩
    have:=RepH.own (w:=w') (A:=c.A (fC ρ id v') ((S.kill (only id)).row id r).st) (n0:=c.n0) (ρ:=fC ρ id v') id (by rw [aK];exact h1)
    rw [aK] at this;exact this
  unfold lV at h;split at h
  · rename_i e sz by' z qs hse hq
    split at h
    · rename_i hz
      simp only [oH,g9,bAc] at hz;unfold lK at h;split at h
      · unfold nM at h
        split at h
        · rename_i c' els hli
          simp only [HOut.go.injEq] at h;obtain ⟨rfl,rfl,rfl⟩:=h;obtain ⟨⟨hn1,hn2⟩,hc'⟩:=hc;obtain ⟨vs,p1,p2,p3⟩:=G.parts hl hq;obtain ⟨arr,f1,f2,f3⟩:=qRo vs qs (madeCells z (n * sz)) (List.replicate n (z.toList.map .v)) els c' p2 p3 (qKs hz.2 hz.1 fun x=>.v x) hli hc'
          rw [z7] at f3
          have hlen:=f2.len
          rw [q7,f3] at hlen;obtain ⟨w',r1,r2,r3,r4⟩:=tF (P:=P) (w:=w) (parts:=vs.toArray) arr hse hn1 (by simp only [maxLen];omega) f1 hlen
          unfold bH;simp only [aP,bZ,p1]
          have hblk:∀ b,(Value.slice (some ⟨w.heap.size,0,none⟩) n n).ownBlock=some b→w.heap.size≤b:=fun b hb=>by simp only [Value.ownBlock,a6] at hb;omega
          have hO:Own w' 0 e sz (.slice (some ⟨w.heap.size,0,none⟩) n n) els.length arr.toList:=by
            rw [f3];exact ⟨r2.1,r2.2.imp _root_.id fun ⟨g,cap,cur,a,b,d⟩=>⟨g,cap,cur,a,g7 _,d⟩⟩
          refine ⟨_,w',r1,fin r3 hblk rfl (G.new id (.sl true e sz els) arr.toList _ r3 hblk (fun _ tr=>?_))⟩
          refine ⟨by rw [aK];exact hO,?_,fun b hb'=>?_⟩
          · exact ⟨f2.wid,fun i k hi hk=>by obtain ⟨u,a,b,d⟩:=f2.get i k hi hk;exact ⟨u,a,b,tr _ _ d⟩⟩
          · rw [aK] at hb'
            have:=hblk b hb'
            have:=G.kept.size
            have:=c.hn
            exact ⟨.inl (by omega),fun _=>by omega⟩
        · cases h
      · unfold nL at h
        split at h
        · rename_i c' els hli
          simp only [HOut.go.injEq] at h;obtain ⟨rfl,rfl,rfl⟩:=h;obtain ⟨⟨hn1,hn2⟩,hc'⟩:=hc;obtain ⟨vs,p1,p2,p3⟩:=G.parts hl hq;obtain ⟨arr,f1,f2,f3⟩:=qLb vs qs (madeCells z (n * sz)) (List.replicate n (z.toList.map .v)) els c' p2 p3 (qN1 hz.2 hz.1 fun x=>.v x) hli hc'
          rw [z7] at f3
          have hlen:=f2.len
          rw [q7,f3] at hlen;obtain ⟨w',r1,r2,r3,r4⟩:=tF (P:=P) (w:=w) (parts:=vs.toArray) arr hse hn1 (by simp only [maxLen];omega) f1 hlen
          unfold bH;simp only [aP,bZ,p1]
          have hblk:∀ b,(Value.slice (some ⟨w.heap.size,0,none⟩) n n).ownBlock=some b→w.heap.size≤b:=fun b hb=>by simp only [Value.ownBlock,a6] at hb;omega
          have hO:Own w' 0 e sz (.slice (some ⟨w.heap.size,0,none⟩) n n) els.length arr.toList:=by
            rw [f3];exact ⟨r2.1,r2.2.imp _root_.id fun ⟨g,cap,cur,a,b,d⟩=>⟨g,cap,cur,a,g7 _,d⟩⟩
          refine ⟨_,w',r1,fin r3 hblk rfl (G.new id (.hl true e sz (hkl id els)) arr.toList _ r3 hblk (fun tr _=>?_))⟩
          refine ⟨by rw [aK];simp only [Row.ty,Row.sz,Row.len,hkl,c8];exact hO,?_,fun b hb'=>?_⟩
          · have:=f2.map (f:=HV.kill (only id)) tr
            exact ⟨this.wid,this.get⟩
          · rw [aK] at hb'
            have:=hblk b hb'
            have:=G.kept.size
            have:=c.hn
            exact ⟨.inl (by omega),fun _=>by omega⟩
        · cases h
    · cases h
  · cases h
theorem qQr (G : Good c S look w ρ xs) (hl : Agr S.env look lw) {id : Nat} {t ty : TypeId} (h : pW S id t (eD P t) = .go cnd hv S') (hc : cnd) :
    bH P lw (.alloc t) ty w (KVk c S S' hv look ρ w (only id)) (KVk c S S' hv look ρ w (only id)):=by
  unfold pW at h;split at h
  · rename_i z hz
    simp only [HOut.go.injEq] at h;obtain ⟨rfl,rfl,rfl⟩:=h
    have hc':z.all (·.oneCell')=true:=by rw [← oH];exact hc
    have h1:∀ u ∈ z.toList,u.oneCell'=true:=fun u hu=>by
      rw [← bCp] at hc';exact o8.1 hc' u hu
    unfold bH;simp only [aP,bZ,hz]
    have hb:Below w.heap.size w (w.alloc (.cells z t)):=(Below.refl _ _).alloc (a7 _) _
    have hblk:∀ b,(Value.slice (some ⟨w.heap.size,0,none⟩) 1 1).ownBlock=some b→w.heap.size≤b:=fun b hb'=>by simp only [Value.ownBlock,a6] at hb';omega
    refine ⟨_,_,G.new id (.bx true t (z.toList.map HV.v)) z.toList (.slice (some ⟨w.heap.size,0,none⟩) 1 1) hb hblk (fun tr _=>?_),?_,fun v x hvx=>G.put_tr id (.bx true t (z.toList.map HV.v)) hb.size none (fun b hb=>by cases hb) (fun b hlt _=>hb.block b hlt) (fun i hi=>jH ρ id _ i hi) (fun b hb=>.inl (hblk b (by rw [aK] at hb;exact hb))) v x hvx⟩
    · refine ⟨?_,⟨⟨w.heap.size,aK _ _ _,fun h=>(by cases h)⟩,fun k hk=>?_⟩,fun b hb'=>?_⟩
      · rw [aK]
        simp only [Row.ty,Row.sz,Row.len,c8];exact qRg w z t z.toList.length 1 0 (by simp) (by simp [maxLen]) (g7 _)
      · have ha:k < z.toList.length:=by simpa using hk
        refine ⟨z.toList[k],c9 ha,h1 _ (c7 ha),?_⟩;rw [d9];exact .v _
      · rw [aK] at hb'
        simp only [Value.ownBlock,a6] at hb'
        have:=G.kept.size
        have:=c.hn
        exact ⟨.inl (by omega),fun _=>by omega⟩
    · have:=RepH.ptr (w:=w.alloc (.cells z t)) (A:=c.A (fC ρ id (.slice (some ⟨w.heap.size,0,none⟩) 1 1)) ((S.kill (only id)).row id (.bx true t (z.toList.map HV.v))).st) (n0:=c.n0) (ρ:=fC ρ id (.slice (some ⟨w.heap.size,0,none⟩) 1 1)) z.size 0 0 (aK ρ id _)
      simpa using this
  · cases h
end
def kf:Option Nat→Nat→Bool
 |none=>fun _=>false
 |some id=>only id
abbrev Ws:=List (Nat × Option Nat)
def wAt (W:Ws) (q:Nat):Nat:=(W.getD q (0,none)).1
def wk (W:Ws) (q:Nat):Nat→Bool:=kf (W.getD q (0,none)).2
def qHk:Ws→Nat→Option (Option Nat)
 |[],_=>none
 |(a,k) :: _,i=>bif a == i then some k else none
abbrev Rg:=List (Nat × Nat × Nat)
def qKr:Rg→Nat→Option (Nat × Nat)
 |[],_=>none
 |(a,lo,hi) :: r,i=>bif a == i then some (lo,hi) else qKr r i
def qB (ops:List Oper):Nat→Nat→Nat→Bool
 |0,i,a=>fV ops i a
 |f + 1,i,a=>fV ops i a || (List.range i).any fun m=>fV ops i m && qB ops f m a
def qFd {ops:List Oper} {L:Nat→Bool} (hd:∀ k j,L k=true→fV ops k j=true→L j=true):∀ {f i a:Nat},qB ops f i a=true→L i=true→L a=true
 |0,i,a,h,hi=>hd i a hi h
 |f + 1,i,a,h,hi=>by
    rw [qB,w9] at h
    rcases h with h|h
    · exact hd i a hi h
    · obtain ⟨m,-,hm⟩:=bBs.1 h
      rw [g9] at hm;exact qFd hd hm.2 (hd i m hi hm.1)
def qPu {ops:List Oper} {L:Nat→Bool} (hd:∀ k j,L k=true→fV ops k j=true→L j=true) {i:Nat} (hE:∀ j,fV ops i j=true→L j=true):∀ {f a:Nat},qB ops f i a=true→L a=true
 |0,a,h=>hE a h
 |f + 1,a,h=>by
    rw [qB,w9] at h
    rcases h with h|h
    · exact hE a h
    · obtain ⟨m,-,hm⟩:=bBs.1 h
      rw [g9] at hm;exact qFd hd hm.2 (hE m hm.1)
def zUd (ops:List Oper) (n:Nat) (W:Ws) (rg:Rg):Bool :=
  ((List.range W.length).all fun q=>decide (wAt W q < n) && (q == 0 || (decide (wAt W (q - 1) < wAt W q) && qB ops 4 (wAt W q) (wAt W (q - 1))))) &&
  ((List.range n).all fun i=>match qKr rg i with
   |none=>true
   |some (lo,hi)=>decide (lo≤hi) && decide (hi≤W.length) && (lo == 0 || qB ops 4 i (wAt W (lo - 1))) && (hi == W.length || qB ops 4 (wAt W hi) i))
def rF:Ws→aT→Prop
 |[],_=>True
 |(_,k) :: r,T=>jN (kf k) T=T∧rF r T
def nG:Op→List Nat
 |.store _ x y=>cM x ++ cM y
 |o=>cH o
def zGj {o:Op} {t:Nat} (h:t ∈ cH o):t ∈ nG o:=by
  cases o <;> first|exact h|(simp [cH] at h)
def qRn {o:Oper} {ops:List Oper} {t:Nat} (h:t ∈ iV (cJ ops) o.guard ++ nG o.op):t ∈ o.looksAt ops.toArray:=by
  obtain ⟨dst,op,ty,pos,aft,grd⟩:=o
  cases op
  case store a x y =>
    rcases m8.1 h with h|h
    · exact tJ (m8.2 (.inl h))
    · refine vQ ?_
      simp only [nG,m8] at h;simp only [Op.operands]
      rcases h with h|h
      · rw [iZ h];simp
      · rw [iZ h];simp
  all_goals exact tJ h
def sX (T:aT):Op→HV→Option Nat→Prop
 |.store _ _ _,_,k=>k=none
 |.call ⟨.builtin .copy,_,_⟩,_,k=>k=none
 |.call ⟨.builtin .append,args,_⟩,h,k=>match h with
   |.own id=>k=some id∧(match args.toList with|a :: _=>hev T a=some (.own id)|[]=>False)
   |_=>False
 |.buildSlice _ _ _,h,k=>match h with
   |.own id=>k=some id
   |_=>False
 |.alloc _,h,k=>match h with
   |.ptr id _ _ _=>k=some id
   |_=>False
 |_,_,_=>False
def yH3 (P:Program) (f:FuncId) (args:List HV) (T:HS) (st':aC) (k:Option Nat) (K:HV→Prop):Prop :=
  aB P f=true∧∃ h,K h∧∀ (c:Ctx) (look:Nat→Option Value) (w:World) (ρ:Nat→Value) (xs:Nat→List Value) (vs:List Value),Good c T look w ρ xs→pX w (c.A ρ T.st) c.n0 ρ vs args →
    Calls P f vs.toArray w (Ret fun u w'=>∃ ρ' xs',Good c ⟨[],st'⟩ (fun _=>none) w' ρ' xs'∧RepH w' (c.A ρ' st') c.n0 ρ' u h∧∀ v x,RepH w (c.A ρ T.st) c.n0 ρ v x→RepH w' (c.A ρ' st') c.n0 ρ' v (x.kill (kf k)))
def zDo (P:Program) (T:aT) (st st':aC) (k:Option Nat) (op:Op) (K:HV→Prop):HOut→Prop
 |.go c h S'=>sX T op h k∧c∧S'.st=st'∧K h
 |.call f args=>yH3 P f args ⟨T,st⟩ st' k K
 |_=>False
def qMq (P:Program) (N:Nat) (ds:List (Option Nat)) (sts:List aC) (o:Oper) (E T E':aT):Nat→Nat→Prop
 |_,0=>True
 |a,n + 1=>kD P N o ⟨E,sts.getD a []⟩ ⟨T,sts.getD a []⟩ (fun S''=>S''.env=E') (hG T ds o.guard)∧qMq P N ds sts o E T E' (a + 1) n
def zTw (P:Program) (N:Nat) (ds:List (Option Nat)) (sts:List aC) (Wd Wr:Ws) (m:Nat) (o:Oper) (E T:aT) (R:aT→Prop):Option (Nat × Nat)→Prop
 |none=>rF Wr T∧kD P N o ⟨E,[]⟩ ⟨T,[]⟩ (fun S'=>rF Wd (S'.env.take 1)∧R S'.env) (hG T ds o.guard)
 |some (lo,hi)=>(o.dst.isSome=true∧lo≤m∧m≤hi)∧rF (Wr.take (hi - m)) T∧kD P N o ⟨E,sts.getD lo []⟩ ⟨T,sts.getD lo []⟩ (fun S'=>rF (Wd.drop lo) (S'.env.take 1)∧qMq P N ds sts o E T S'.env (lo + 1) (hi - lo)∧R S'.env) (hG T ds o.guard)
def HVc (P:Program) (N:Nat) (ds:List (Option Nat)) (sts:List aC) (rg:Rg) (K:aT→Prop):List Oper→Nat→Nat→Ws→Ws→aT→Prop
 |[],_,_,_,Wr,E=>Wr=[]∧K E
 |o :: rest,i,m,Wd,Wr,E=>match qHk Wr i with
   |some k=>o.guard=none∧eJ N o.dst=true∧zDo P (lG E (iV ds o.guard ++ nG o.op)) (sts.getD m []) (sts.getD (m + 1) []) k o.op (fun h=>HVc P N ds sts rg K rest (i + 1) (m + 1) (Wd ++ [(i,k)]) Wr.tail (HS.set ⟨jN (kf k) E,[]⟩ o.dst h).env) (hop P ⟨lG E (iV ds o.guard ++ nG o.op),sts.getD m []⟩ (rU o.dst) o.op)
   |none=>zTw P N ds sts Wd Wr m o E (lG E (iV ds o.guard ++ cH o.op)) (fun E'=>HVc P N ds sts rg K rest (i + 1) m Wd Wr E') (qKr rg i)
section
variable {P:Program} {N:Nat} {Q:dP} {c:Ctx} {S:HS} {l:Env} {look:Nat→Option Value} {w w':World} {ρ:Nat→Value} {xs:Nat→List Value}
def RunsAs (P:Program) (ds:List (Option Nat)) (o:Oper) (T:aT) (st:aC) (x:HV):Prop :=
  ∀ (c:Ctx) (l:Env) (w:World) (ρ:Nat→Value) (xs:Nat→List Value),Good c ⟨T,st⟩ (lk l) w ρ xs →
    ∃ b,gd l ds o.guard (·=b)∧(b=true→bH P l o.op o.type w (fun u w'=>RepH w' (c.A ρ st) c.n0 ρ u x∧Below w.heap.size w w') (fun u w'=>RepH w' (c.A ρ st) c.n0 ρ u x∧Below w.heap.size w w'))∧(b=false→x=.v undef)
theorem qBe {ds : List (Option Nat)} {o : Oper} {E T : aT} {st : aC} {K : HS → Prop} (hT : ∀ t x, hlk T t = some x → hlk E t = some x) (h : kD P N o ⟨E, st⟩ ⟨T, st⟩ K (hG T ds o.guard)) :
    ∃ x E1,jP N o.dst∧(∀ t,hlk E1 t=hlk E t)∧K (HS.set ⟨E1,st⟩ o.dst x)∧RunsAs P ds o T st x:=by
  cases hg:hG T ds o.guard with
 |yes =>
    rw [hg] at h;obtain ⟨hlt,x,hK,hv⟩:=qCt h;exact ⟨x,E,hlt,fun _=>rfl,hK,fun c l w ρ xs G=>⟨true,qGp (S:=⟨T,st⟩) hg rfl,fun _=>hv c l w ρ xs G,fun e=>by cases e⟩⟩
 |no =>
    rw [hg] at h;obtain ⟨hlt,hK⟩:=xY h;exact ⟨.v undef,E,hlt,fun _=>rfl,hK,fun c l w ρ xs G=>⟨false,zE2 (S:=⟨T,st⟩) ⟨ρ,xs,G⟩ hg rfl,fun e=>(by cases e),fun _=>rfl⟩⟩
 |ask d b want =>
    rw [hg] at h;obtain ⟨j,hj,hd,hb⟩:=zCj (S:=⟨T,st⟩) hg
    have hbS:=hT d _ hb
    simp only [kD] at h;split at h
    · rename_i e
      have e':b=want:=by simpa using e
      subst e';obtain ⟨hlt,x,hK,hv⟩:=qCt h;refine ⟨x,vX d (.v (.bool b)) E,hlt,oL hbS,hK,fun c l w ρ xs G=>⟨true,(uU (S:=⟨T,st⟩) ⟨ρ,xs,G⟩ hg (k:=(·=true)) e).1,fun _=>?_,fun e=>by cases e⟩⟩
      have:=hv c l w ρ xs (G.sameEnv (oL hb))
      exact this
    · rename_i e
      have e':b=!want:=by cases b <;> cases want <;> simp_all
      subst e';obtain ⟨hlt,hK⟩:=xY h;exact ⟨.v undef,vX d (.v (.bool (!want))) E,hlt,oL hbS,hK,fun c l w ρ xs G=>⟨false,(uU (S:=⟨T,st⟩) ⟨ρ,xs,G⟩ hg (k:=(·=false)) e).1,fun e=>(by cases e),fun _=>rfl⟩⟩
 |bad=>rw [hg] at h;exact h.elim
theorem RunsAs.any {ds:List (Option Nat)} {o:Oper} {T:aT} {x:HV} (h:RunsAs P ds o T [] x) (st:aC):RunsAs P ds o T st x:=fun c l w ρ xs G=>by
  have hA:∀ b,c.A ρ st b→b < w.heap.size:=by
    rintro b (h0|⟨i,r,hi,hb⟩)
    · have:=(G.a0 b h0).1;have:=G.kept.size;omega
    · exact G.lt hi hb
  have G2:Good ⟨w,fun _=>False,c.A ρ st,c.n0,l5 c.hn G.kept.size,fun _ _=>False⟩ ⟨T,[]⟩ (lk l) w ρ xs:=by
    refine ⟨fun id r hr=>by simp [rlk] at hr,fun i j r s b hne hi=>by simp [rlk] at hi,fun k x hk=>?_,Kept.refl _ _,fun b hb=>⟨hA b hb,fun h=>h⟩⟩
    obtain ⟨u,h1,h2⟩:=G.env k _ hk;refine ⟨u,h1,h2.up (a7 _) (fun _ _ _=>rfl) (fun b _ hb=>?_) (a7 _)⟩
    rcases hb with hb|⟨i,r,hi,-⟩
    · exact hb
    · simp [rlk] at hi
  obtain ⟨b,h1,h2,h3⟩:=h _ l w ρ xs G2;refine ⟨b,h1,fun e=>bS (h2 e) fun u w' ⟨r,B⟩=>⟨r.up (a7 _) (fun _ _ _=>rfl) (fun b _ hb=>.inl hb) (a7 _),B⟩,h3⟩
def zTr (P:Program) (o:Oper) (T:aT) (st st':aC) (p:Nat→Bool) (h:HV):Prop :=
  ∀ (c:Ctx) (l:Env) (w:World) (ρ:Nat→Value) (xs:Nat→List Value),Good c ⟨T,st⟩ (lk l) w ρ xs →
    bH P l o.op o.type w (fun u w'=>∃ ρ' xs',Good c ⟨[],st'⟩ (fun _=>none) w' ρ' xs'∧RepH w' (c.A ρ' st') c.n0 ρ' u h∧∀ v x,RepH w (c.A ρ st) c.n0 ρ v x→RepH w' (c.A ρ' st') c.n0 ρ' v (x.kill p))
      (fun u w'=>∃ ρ' xs',Good c ⟨[],st'⟩ (fun _=>none) w' ρ' xs'∧RepH w' (c.A ρ' st') c.n0 ρ' u h∧∀ v x,RepH w (c.A ρ st) c.n0 ρ v x→RepH w' (c.A ρ' st') c.n0 ρ' v (x.kill p))
theorem zF5 {o:Oper} {T:aT} {st st':aC} {k:Option Nat} {K:HV→Prop} (h:zDo P T st st' k o.op K (hop P ⟨T,st⟩ (rU o.dst) o.op)):∃ x,K x∧zTr P o T st st' (kf k) x:=by
  unfold zDo at h;split at h
  · rename_i cnd x S1 ho
    obtain ⟨hk,hc,rfl,hK⟩:=h;refine ⟨x,hK,fun c l w ρ xs G=>?_⟩
    have fin : ∀ {p : Nat → Bool}, bH P l o.op o.type w (KVk c ⟨T, st⟩ S1 x (lk l) ρ w p) (KVk c ⟨T, st⟩ S1 x (lk l) ρ w p) →
        bH P l o.op o.type w (fun u w'=>∃ ρ' xs',Good c ⟨[],S1.st⟩ (fun _=>none) w' ρ' xs'∧RepH w' (c.A ρ' S1.st) c.n0 ρ' u x∧∀ v x,RepH w (c.A ρ st) c.n0 ρ v x→RepH w' (c.A ρ' S1.st) c.n0 ρ' v (x.kill p))
          (fun u w'=>∃ ρ' xs',Good c ⟨[],S1.st⟩ (fun _=>none) w' ρ' xs'∧RepH w' (c.A ρ' S1.st) c.n0 ρ' u x∧∀ v x,RepH w (c.A ρ st) c.n0 ρ v x→RepH w' (c.A ρ' S1.st) c.n0 ρ' v (x.kill p)):=fun {p} hv =>
      bS hv fun u w' ⟨ρ',xs',G',r,tr⟩=>⟨ρ',xs',⟨G'.rows,G'.apart,fun k x hk=>by simp [hlk] at hk,G'.kept,G'.a0⟩,r,tr⟩
    obtain ⟨dst,op,ty,pos,aft,grd⟩:=o;dsimp only at ho hk fin ⊢;unfold sX at hk;split at hk
    · subst hk
      refine fin ?_;simp only [hop,aP,pZ,iK] at ho;exact qQo G (bM _ _) ho hc
    · rename_i args ats
      subst hk;refine fin ?_
      have ho':wP ⟨T,st⟩ (ats == #[eB ats,eB ats]) (bV P (eB ats)) (jF T args.toList)=.go cnd x S1:=by
        simp only [hop,aP] at ho;split at ho
        · simp only [bT,pZ,iK] at ho;exact ho
        · simp only [pZ,iK] at ho;exact ho
      exact bS (qHa G (bM _ _) ho' hc) fun u w' ⟨xs',G',r,tr⟩=>⟨ρ,xs',G',r,fun v x hv=>(tr v x hv).kill (fun _ _=>rfl)⟩
    · rename_i args ats
      split at hk
      · rename_i id
        obtain ⟨rfl,ha⟩:=hk;refine fin ?_
        have ho':kJ ⟨T,st⟩ (rU dst) (ats == #[eB ats,eB ats]) (qXo P ats) (jT P (eB ats)) (jF T args.toList)=.go cnd (.own id) S1:=by
          simp only [hop,aP] at ho;split at ho
          · simp only [bT,pZ,iK] at ho;exact ho
          · simp only [pZ,iK] at ho;exact ho
        refine qMy G (bM _ _) ho' hc ?_;split at ha
        · rename_i a r hargs
          dsimp only;rw [hargs];unfold kJ at ho';dsimp only at ho';rw [hargs] at ho';simp only [jF,ha] at ho' ⊢
          cases hr:jF T r with
         |none=>rw [hr] at ho';simp at ho'
         |some vs =>
            rw [hr] at ho'
            match vs,ho' with
           |[y],_=>exact ⟨y,rfl⟩
           |[],ho'=>simp at ho'
           |_ :: _ :: _,ho'=>simp at ho'
        · exact ha.elim
      · exact hk.elim
    · rename_i t n ps
      split at hk
      · rename_i id
        subst hk;refine fin ?_
        have ho':lV ⟨T,st⟩ (rU dst) n (jT P t) (jV T ps.toList)=.go cnd (.own id) S1:=by
          simp only [hop,aP,pZ,iK] at ho;exact ho
        have hid:id=rU dst:=by
          have h2:=ho'
          unfold lV at h2;split at h2
          · split at h2
            · unfold lK at h2
              split at h2
              · unfold nM at h2
                split at h2
                · simp only [HOut.go.injEq,HV.own.injEq] at h2;exact h2.2.1.symm
                · cases h2
              · unfold nL at h2
                split at h2
                · simp only [HOut.go.injEq,HV.own.injEq] at h2;exact h2.2.1.symm
                · cases h2
            · cases h2
          · cases h2
        subst hid;exact qMx G (bM _ _) ho' hc
      · exact hk.elim
    · rename_i t
      split at hk
      · rename_i id sz i j
        subst hk;refine fin ?_
        have ho':pW ⟨T,st⟩ (rU dst) t (eD P t)=.go cnd (.ptr id sz i j) S1:=by
          simp only [hop,aP,pZ,iK] at ho;exact ho
        have hid:id=rU dst:=by
          have h2:=ho'
          unfold pW at h2;split at h2
          · simp only [HOut.go.injEq,HV.ptr.injEq] at h2;exact h2.2.1.1.symm
          · cases h2
        subst hid;exact qQr G (bM _ _) ho' hc
      · exact hk.elim
    · exact hk.elim
  · rename_i f args ho
    obtain ⟨hf,x,hK,hc⟩:=h;refine ⟨x,hK,fun c l w ρ xs G=>?_⟩
    obtain ⟨y,ag,ats,e,hfn,has⟩:=qEy ho;rw [e];obtain ⟨vs,e1,e2,e3⟩:=G.evs (bM _ _) has;unfold bH;simp only [aP,bZ,e1,G.fn (bM _ _) hfn];exact ⟨hf,hc c (lk l) w ρ xs vs G ⟨e2,e3⟩⟩
  · exact h.elim
def ks (W:Ws) (x:HV) (a:Nat):Nat→HV
 |0=>x
 |n + 1=>(ks W x a n).kill (wk W (a + n))
def kk (W:Ws) (x:HV) (a M:Nat):HV:=ks W x a (M - a)
theorem qAr (W:Ws) (x:HV) {a M:Nat} (h:M≤a):kk W x a M=x:=by rw [kk,show M - a=0 by omega];rfl
theorem qB5 (W:Ws) (x:HV) {a M:Nat} (h:a≤M):kk W x a (M + 1)=(kk W x a M).kill (wk W M):=by
  rw [kk,kk,show M + 1 - a=(M - a) + 1 by omega,ks,show a + (M - a)=M by omega]
theorem qZ1 {A:Nat→Prop} {n0:Nat} {v:Value} {W:Ws} {x:HV} {a m:Nat} (h:RepH w A n0 ρ v (kk W x a m)):∀ M,m≤M→RepH w A n0 ρ v (kk W x a M):=by
  intro M hM;obtain ⟨d,rfl⟩:∃ d,M=m + d:=⟨M - m,by omega⟩
  clear hM
  induction d with
 |zero=>exact h
 |succ d ih =>
    rcases s4 (m + d) a with h1|h1
    · rw [qAr W x (by omega)] at ih ⊢;exact ih
    · rw [show m + (d + 1)=(m + d) + 1 by omega,qB5 W x h1]
      exact ih.kill (fun _ _=>rfl)
theorem qB6 {W:Ws} {x h:HV} {a m:Nat} (e:kk W x a m=h) (ha:a≤m) {M:Nat} (hs:∀ q,m≤q→q < M→h.kill (wk W q)=h) (hM:m≤M):kk W x a M=h:=by
  obtain ⟨d,rfl⟩:∃ d,M=m + d:=⟨M - m,by omega⟩
  clear hM
  induction d with
 |zero=>exact e
 |succ d ih =>
    rw [show m + (d + 1)=(m + d) + 1 by omega,qB5 W x (by omega),ih (fun q h1 h2=>hs q h1 (by omega))]
    exact hs (m + d) (by omega) (by omega)
def FrA (ops:List Oper) (E0:aT) (hs:Nat→HV) (lo:Nat→Nat) (W:Ws) (i M:Nat) (E:aT):Prop:=∀ t h,hlk E t=some h →
  (∃ j,j < i∧aZ ops j=some t∧kk W (hs j) (lo j) M=h)∨((∀ j,j < i→aZ ops j≠some t)∧∃ h0,hlk E0 t=some h0∧kk W h0 0 M=h)
structure HeadC (P:Program) (N:Nat) (ops:List Oper) (E0:aT) (sts:List aC) (hs:Nat→HV) (lo:Nat→Nat) (W:Ws) (i:Nat) (o:Oper):Prop where
  lt:jP N o.dst
  head:∃ T:aT,(∀ t h,hlk T t=some h→t ∈ iV (cJ ops) o.guard ++ nG o.op) ∧
    ((∃ q,q < W.length∧wAt W q=i∧lo i=q + 1∧o.guard=none∧FrA ops E0 hs lo W i q T∧zTr P o T (sts.getD q []) (sts.getD (q + 1) []) (wk W q) (hs i)) ∨
     ((∀ q,q < W.length→wAt W q≠i)∧∃ hi,hi≤W.length∧(hi=W.length∨qB ops 4 (wAt W hi) i=true)∧(lo i=0∨qB ops 4 i (wAt W (lo i - 1))=true)∧lo i≤W.length∧FrA ops E0 hs lo W i hi T ∧
       ∀ m,lo i≤m→m≤hi→RunsAs P (cJ ops) o T (sts.getD m []) (hs i)))
theorem FrA.congr {ops:List Oper} {E0 E:aT} {hs hs':Nat→HV} {lo:Nat→Nat} {W:Ws} {i M:Nat} (h:FrA ops E0 hs lo W i M E) (he:∀ j,j < i→hs' j=hs j):FrA ops E0 hs' lo W i M E:=fun t x hx=>by
  rcases h t x hx with ⟨j,a,b,d⟩|r
  · exact .inl ⟨j,a,b,by rw [he j a];exact d⟩
  · exact .inr r
theorem FrA.env {ops:List Oper} {E0 E E':aT} {hs:Nat→HV} {lo:Nat→Nat} {W:Ws} {i M:Nat} (h:FrA ops E0 hs lo W i M E) (he:∀ t x,hlk E' t=some x→hlk E t=some x):FrA ops E0 hs lo W i M E':=fun t x hx=>h t x (he t x hx)
theorem FrA.set {ops:List Oper} {E0:aT} {hs:Nat→HV} {lo:Nat→Nat} {W:Ws} {i M:Nat} {S:HS} {x:HV} (h:FrA ops E0 hs lo W i M S.env) {o:Oper} (ho:ops[i]?=some o) (hx:o.dst.isSome=true→kk W (hs i) (lo i) M=x):FrA ops E0 hs lo W (i + 1) M (S.set o.dst x).env:=by
  have hd:aZ ops i=o.dst:=by unfold aZ;rw [ho];rfl
  intro t y hy
  cases e:o.dst with
 |none =>
    rw [e] at hy hd
    rcases h t y hy with ⟨j,a,b,d⟩|⟨a,b⟩
    · exact .inl ⟨j,by omega,b,d⟩
    · refine .inr ⟨fun j hj=>?_,b⟩
      by_cases ej:j=i
      · subst ej;rw [hd];simp
      · exact a j (by omega)
 |some d =>
    rw [e] at hy hd hx;simp only [HS.set,hlk] at hy
    by_cases et:d=t
    · rw [g8 et] at hy
      simp only [a6] at hy;subst hy;exact .inl ⟨i,by omega,by rw [hd,et],hx rfl⟩
    · rw [b7 et] at hy
      rcases h t y hy with ⟨j,a,b,d'⟩|⟨a,b⟩
      · exact .inl ⟨j,by omega,b,d'⟩
      · refine .inr ⟨fun j hj=>?_,b⟩
        by_cases ej:j=i
        · subst ej;rw [hd];simpa using et
        · exact a j (by omega)
theorem FrA.kill {ops:List Oper} {E0 E:aT} {hs:Nat→HV} {lo:Nat→Nat} {W:Ws} {i M:Nat} (h:FrA ops E0 hs lo W i M E) (hlo:∀ j,j < i→lo j≤M):FrA ops E0 hs lo W i (M + 1) (jN (wk W M) E):=fun t y hy=>by
  rw [jD] at hy
  cases hx:hlk E t with
 |none=>rw [hx] at hy;cases hy
 |some x =>
    rw [hx] at hy;simp only [n8,a6] at hy;subst hy
    rcases h t x hx with ⟨j,a,b,d⟩|⟨a,h0,b,d⟩
    · exact .inl ⟨j,a,b,by rw [qB5 W _ (hlo j a),d]⟩
    · exact .inr ⟨a,h0,b,by rw [qB5 W _ (g7 _),d]⟩
theorem qAi:∀ {Wx:Ws} {T:aT},rF Wx T→∀ q,q < Wx.length→∀ t h,hlk T t=some h→h.kill (wk Wx q)=h
 |[],_,_,q,hq=>by simp at hq
 |(a,k) :: r,T,⟨h1,h2⟩,q,hq=>fun t h hh=>by
    cases q with
   |zero =>
      have:=jD (kf k) T t
      rw [h1,hh] at this;simp only [n8,a6] at this;exact this.symm
   |succ q=>exact qAi h2 q (by simpa using hq) t h hh
theorem qXd (Wd Wr:Ws) (q:Nat) (h:Wd.length≤q):wk (Wd ++ Wr) q=wk Wr (q - Wd.length):=by
  unfold wk;rw [b6,bAa h,← b6]
theorem zDu (Wd Wr:Ws) (q:Nat) (h:q < Wd.length):wk (Wd ++ Wr) q=wk Wd q:=by
  unfold wk;rw [b6,bAk h,← b6]
theorem zDv (Wd Wr:Ws) (q:Nat) (h:Wd.length≤q):wAt (Wd ++ Wr) q=wAt Wr (q - Wd.length):=by
  unfold wAt;rw [b6,bAa h,← b6]
theorem zT8 (W:Ws) (n q:Nat) (h:q < n):wk (W.take n) q=wk W q:=by
  unfold wk;rw [b6,o6 h,← b6]
theorem zT9 (W:Ws) (n q:Nat):wk (W.drop n) q=wk W (n + q):=by
  unfold wk;rw [b6,bBh,← b6]
def wIx:Ws→Nat→Option Nat
 |[],_=>none
 |(a,_) :: r,i=>if a=i then some 0 else (wIx r i).map (· + 1)
def loF (W:Ws) (rg:Rg) (i:Nat):Nat:=match wIx W i with
 |some q=>q + 1
 |none=>match qKr rg i with
   |some (lo,_)=>lo
   |none=>0
theorem zMx {W:Ws} {i:Nat} (h:∀ q,q < W.length→wAt W q≠i):wIx W i=none:=by
  induction W with
 |nil=>rfl
 |cons a r ih =>
    obtain ⟨a,k⟩:=a
    have h0:a≠i:=h 0 (by simp)
    rw [wIx,b7 h0,ih fun q hq=>by have:=h (q + 1) (by simpa using hq);exact this]
    rfl
theorem yAq {W:Ws} {i q:Nat} (hq:q < W.length) (hi:wAt W q=i) (hu:∀ p,p < q→wAt W p≠i):wIx W i=some q:=by
  induction W generalizing q with
 |nil=>simp at hq
 |cons a r ih =>
    obtain ⟨a,k⟩:=a
    cases q with
   |zero=>have hi:a=i:=hi;rw [wIx,g8 hi]
   |succ q =>
      have h0:a≠i:=hu 0 (by omega)
      rw [wIx,b7 h0,ih (q:=q) (by simpa using hq) hi fun p hp=>hu (p + 1) (by omega)];rfl
structure WOk (ops:List Oper) (n:Nat) (W:Ws) (rg:Rg):Prop where
  lt:∀ q,q < W.length→wAt W q < n
  up:∀ q,q + 1 < W.length→wAt W q < wAt W (q + 1)∧qB ops 4 (wAt W (q + 1)) (wAt W q)=true
  rg:∀ i lo hi,i < n→qKr rg i=some (lo,hi)→lo≤hi∧hi≤W.length∧(lo=0∨qB ops 4 i (wAt W (lo - 1))=true)∧(hi=W.length∨qB ops 4 (wAt W hi) i=true)
theorem zFs {ops:List Oper} {n:Nat} {W:Ws} {rg:Rg} (h:zUd ops n W rg=true):WOk ops n W rg:=by
  simp only [zUd,g9,o8,bA9,m7,w9,bAc] at h;obtain ⟨h1,h2⟩:=h;refine ⟨fun q hq=>(h1 q hq).1,fun q hq=>?_,fun i lo hi hi' e=>?_⟩
  · have:=(h1 (q + 1) hq).2
    simp only [bCy] at this
    rcases this with h|h
    · omega
    · exact h
  · have:=h2 i hi'
    rw [e] at this;simp only [g9,m7,w9,bAc] at this;obtain ⟨⟨⟨a,b⟩,d⟩,f⟩:=this;exact ⟨a,b,d,f⟩
theorem WOk.mono {ops:List Oper} {n:Nat} {W:Ws} {rg:Rg} (h:WOk ops n W rg):∀ {q p:Nat},p < q→q < W.length→wAt W p < wAt W q:=by
  intro q
  induction q with
 |zero=>intro p h1;omega
 |succ q ih =>
    intro p h1 h2
    have:=(h.up q h2).1
    rcases s4 p q with h3|h3
    · have:=ih h3 (by omega);omega
    · rw [show p=q by omega];exact this
theorem zFp {ds:List (Option Nat)} {sts:List aC} {o:Oper} {E T E':aT}:∀ {n a:Nat},qMq P N ds sts o E T E' a n→∀ m,a≤m→m < a + n→kD P N o ⟨E,sts.getD m []⟩ ⟨T,sts.getD m []⟩ (fun S''=>S''.env=E') (hG T ds o.guard)
 |0,a,_,m,h1,h2=>by omega
 |n + 1,a,⟨h,h'⟩,m,h1,h2=>by
    rcases s4 a m with h3|h3
    · exact zFp h' m h3 (by omega)
    · rw [show m=a by omega];exact h
theorem qP8 {ops : List Oper} {n : Nat} {E0 : aT} {sts : List aC} {W : Ws} {rg : Rg} {K : aT → Prop} (hw : WOk ops n W rg) : ∀ (rest : List Oper) (i m : Nat) (Wd Wr : Ws) (E : aT) (hs0 : Nat → HV), m = Wd.length → W = Wd ++ Wr → (∀ k o, rest[k]? = some o → ops[i + k]? = some o) → i + rest.length ≤ n →
    (∀ q,q < W.length→(wAt W q < i↔q < m))→FrA ops E0 hs0 (loF W rg) W i m E→(∀ j,j < i→loF W rg j≤m)→HVc P N (cJ ops) sts rg K rest i m Wd Wr E →
    ∃ hs,(∀ j,j < i→hs j=hs0 j)∧(∀ k o,rest[k]?=some o→HeadC P N ops E0 sts hs (loF W rg) W (i + k) o)∧∃ E',FrA ops E0 hs (loF W rg) W (i + rest.length) W.length E'∧K E'
 |[],i,m,Wd,Wr,E,hs0,hm,hW,hops,hn,hpos,F,hlo,h=>by
    obtain ⟨rfl,hK⟩:=h;rw [x4] at hW;subst hW;exact ⟨hs0,fun _ _=>rfl,fun k o hk=>by simp at hk,E,by rw [hm] at F;exact F,hK⟩
 |o :: rest,i,m,Wd,Wr,E,hs0,hm,hW,hops,hn,hpos,F,hlo,h=>by
    have hoi:ops[i]?=some o:=hops 0 o (by simp)
    have hmW:m≤W.length:=by rw [hW,i8];omega
    rw [i6] at hn;rw [HVc] at h
    -- what follows,with head i's value x
    have key : ∀ (x : HV) (m' : Nat) (Wd' Wr' : Ws) (E' : aT), m' = Wd'.length → W = Wd' ++ Wr' → (∀ q, q < W.length → (wAt W q < i + 1 ↔ q < m')) → m ≤ m' → loF W rg i ≤ m' →
        (∀ hs1:Nat→HV,(∀ j,j < i→hs1 j=hs0 j)→hs1 i=x→FrA ops E0 hs1 (loF W rg) W (i + 1) m' E')→HVc P N (cJ ops) sts rg K rest (i + 1) m' Wd' Wr' E' →
        (∀ hs1:Nat→HV,(∀ j,j < i→hs1 j=hs0 j)→hs1 i=x→HeadC P N ops E0 sts hs1 (loF W rg) W i o) →
        ∃ hs,(∀ j,j < i→hs j=hs0 j)∧(∀ k o',(o :: rest)[k]?=some o'→HeadC P N ops E0 sts hs (loF W rg) W (i + k) o')∧∃ E',FrA ops E0 hs (loF W rg) W (i + (o :: rest).length) W.length E'∧K E':=by
      intro x m' Wd' Wr' E' hm' hW' hpos' hmm hli hF hK hH
      let hs1:Nat→HV:=fun j=>if j=i then x else hs0 j
      have e1:hs1 i=x:=g8 rfl
      have e2:∀ j,j < i→hs1 j=hs0 j:=fun j hj=>b7 (by omega)
      obtain ⟨hs,a,b,E2,f,g⟩:=qP8 hw rest (i + 1) m' Wd' Wr' E' hs1 hm' hW' (fun k o' hk=>by
        have:=hops (k + 1) o' (by simpa using hk)
        rw [show i + 1 + k=i + (k + 1) by omega];exact this) (by omega) hpos' (hF hs1 e2 e1) (fun j hj=>by
          rcases s4 j i with h|h
          · have:=hlo j h;omega
          · rw [show j=i by omega];exact hli) hK
      have ei:hs i=x:=by rw [a i (by omega),e1]
      have ej:∀ j,j < i→hs j=hs0 j:=fun j hj=>by rw [a j (by omega),e2 j hj]
      refine ⟨hs,ej,fun k o' hk=>?_,E2,?_,g⟩
      · cases k with
       |zero =>
          simp only [q8,a6] at hk;subst hk;exact hH hs ej ei
       |succ k =>
          have:=b k o' (by simpa using hk)
          rw [show i + 1 + k=i + (k + 1) by omega] at this;exact this
      · rw [i6,show i + (rest.length + 1)=i + 1 + rest.length by omega];exact f
    cases hnx:qHk Wr i with
   |some k =>
      rw [hnx] at h;obtain ⟨hg,hd,h⟩:=h;generalize hT:lG E (iV (cJ ops) o.guard ++ nG o.op)=T at h
      have TF:∀ t x,hlk T t=some x→t ∈ iV (cJ ops) o.guard ++ nG o.op∧hlk E t=some x:=fun t x hx=>by subst hT;exact vK hx
      obtain ⟨Wr',rfl⟩:∃ Wr',Wr=(i,k) :: Wr':=by
        cases Wr with
       |nil=>cases hnx
       |cons p r =>
          obtain ⟨a,k'⟩:=p;simp only [qHk] at hnx
          cases hb:a == i with
         |true =>
            rw [hb,p8] at hnx;rw [bAc] at hb;subst hb;cases hnx;exact ⟨r,rfl⟩
         |false=>rw [hb,o7] at hnx;cases hnx
      have hq:m < W.length:=by rw [hW,i8,i6];omega
      have hat:wAt W m=i:=by rw [hW,zDv _ _ _ (by omega),hm,bBn];rfl
      have hwk:wk W m=kf k:=by rw [hW,qXd _ _ _ (by omega),hm,bBn];rfl
      have hloi:loF W rg i=m + 1:=by
        unfold loF;rw [yAq hq hat fun p hp e=>by have:=(hpos p (by omega)).2 hp;omega]
      obtain ⟨x,hK,hS⟩:=zF5 h;refine key x (m + 1) (Wd ++ [(i,k)]) Wr' _ (by simp [hm]) (by rw [hW];simp) (fun q hq'=>?_) (by omega) (by omega) (fun hs1 e2 e1=>?_) hK (fun hs1 e2 e1=>?_)
      · constructor
        · intro h1
          rcases s4 q (m + 1) with h2|h2
          · exact h2
          · have:=hw.mono (show m < q by omega) hq';omega
        · intro h1
          rcases s4 q m with h2|h2
          · have:=(hpos q hq').2 h2;omega
          · rw [show q=m by omega,hat];omega
      · have F1:=(F.congr e2).kill hlo
        rw [hwk] at F1;exact FrA.set (S:=⟨jN (kf k) E,[]⟩) F1 hoi (fun _=>by rw [e1,hloi,qAr W x (a7 _)])
      · refine ⟨eQ hd,T,fun t x hx=>(TF t x hx).1,.inl ⟨m,hq,hat,hloi,hg,((F.congr e2).env fun t x hx=>(TF t x hx).2),?_⟩⟩
        rw [e1,hwk];exact hS
   |none =>
      rw [hnx] at h;generalize hT:lG E (iV (cJ ops) o.guard ++ cH o.op)=T at h
      have TF:∀ t x,hlk T t=some x→t ∈ iV (cJ ops) o.guard ++ nG o.op∧hlk E t=some x:=fun t x hx=>by
        subst hT;obtain ⟨a,b⟩:=vK hx;refine ⟨?_,b⟩
        rcases m8.1 a with a|a
        · exact m8.2 (.inl a)
        · exact m8.2 (.inr (zGj a))
      have hno:∀ q,q < W.length→wAt W q≠i:=by
        intro q hq e
        have h1:¬ q < m:=fun h=>by have:=(hpos q hq).2 h;omega
        have h2:m < W.length:=by omega
        have h3:wAt W m≤i:=by
          rcases s4 m q with h|h
          · have:=hw.mono h hq;omega
          · rw [show m=q by omega];omega
        have h4:¬ wAt W m < i:=fun h=>by have:=(hpos m h2).1 h;omega
        have h5:wAt W m=i:=by omega
        rw [hW,zDv _ _ _ (by omega),hm,bBn] at h5
        cases Wr with
       |nil=>rw [hW,x4] at h2;omega
       |cons p r =>
          obtain ⟨a,k'⟩:=p
          have h5:a=i:=h5
          subst h5;simp [qHk] at hnx
      have hwi:=zMx hno
      have hpos':∀ q,q < W.length→(wAt W q < i + 1↔q < m):=fun q hq=>by
        have:=hno q hq
        rw [← hpos q hq];omega
      have hWr:W.length - m=Wr.length:=by rw [hW,i8];omega
      cases hr:qKr rg i with
     |none =>
        rw [hr] at h;obtain ⟨hst,h⟩:=h
        have hloi:loF W rg i=0:=by unfold loF;rw [hwi,hr]
        obtain ⟨x,E1,hlt,hE1,⟨hs',hK⟩,hrun⟩:=qBe (fun t x hx=>(TF t x hx).2) h
        refine key x m Wd Wr _ hm hW hpos' (a7 _) (by omega) (fun hs1 e2 e1=>?_) hK (fun hs1 e2 e1=>?_)
        · refine FrA.set (S:=⟨E1,[]⟩) ((F.congr e2).env fun t x hx=>by rw [← hE1 t];exact hx) hoi fun hd=>?_
          obtain ⟨d,hd⟩:=z8.1 hd;rw [hd] at hs';rw [e1,hloi];exact qB6 (m:=0) (qAr W x (a7 _)) (a7 _) (fun q _ hq=>by
            rw [hW,zDu _ _ _ (by omega)]
            exact qAi hs' q (by omega) d x (by simp [HS.set,hlk])) (g7 _)
        · refine ⟨hlt,T,fun t x hx=>(TF t x hx).1,.inr ⟨hno,W.length,a7 _,.inl rfl,.inl hloi,by omega,fun t y hy=>?_,fun m' _ _=>by rw [e1];exact hrun.any _⟩⟩
          have st:∀ q,m≤q→q < W.length→y.kill (wk W q)=y:=fun q h1 h2=>by
            rw [hW,qXd _ _ _ (by omega)]
            exact qAi hst _ (by omega) t y hy
          rcases F.congr e2 t y (TF t y hy).2 with ⟨j,a,b,d⟩|⟨a,h0,b,d⟩
          · exact .inl ⟨j,a,b,qB6 d (hlo j a) st hmW⟩
          · exact .inr ⟨a,h0,b,qB6 d (g7 _) st hmW⟩
     |some p =>
        obtain ⟨lo,hi⟩:=p;rw [hr] at h;obtain ⟨⟨hds,hlm,hmh⟩,hst,h⟩:=h
        have hloi:loF W rg i=lo:=by unfold loF;rw [hwi,hr]
        obtain ⟨q1,q2,q3,q4⟩:=hw.rg i lo hi (by omega) hr
        obtain ⟨d,hd⟩:=z8.1 hds;obtain ⟨x,E1,hlt,hE1,⟨hs',hall,hK⟩,hrun⟩:=qBe (fun t x hx=>(TF t x hx).2) h
        refine key x m Wd Wr _ hm hW hpos' (a7 _) (by omega) (fun hs1 e2 e1=>?_) hK (fun hs1 e2 e1=>?_)
        · refine FrA.set (S:=⟨E1,sts.getD lo []⟩) ((F.congr e2).env fun t x hx=>by rw [← hE1 t];exact hx) hoi fun _=>?_
          rw [hd] at hs';rw [e1,hloi];exact qB6 (m:=lo) (qAr W x (a7 _)) (a7 _) (fun q h1 hq=>by
            rw [hW,zDu _ _ _ (by omega)]
            have:=qAi hs' (q - lo) (by rw [y7];omega) d x (by simp [HS.set,hlk])
            rw [zT9,show lo + (q - lo)=q by omega] at this
            exact this) hlm
        · refine ⟨hlt,T,fun t x hx=>(TF t x hx).1,.inr ⟨hno,hi,q2,q4,by rw [hloi];exact q3,by omega,fun t y hy=>?_,fun m' h1 h2=>?_⟩⟩
          · have st : ∀ q, m ≤ q → q < hi → y.kill (wk W q) = y := fun q h1 h2 => by
              rw [hW,qXd _ _ _ (by omega),← zT8 Wr (hi - m) _ (by omega)]
              exact qAi hst _ (by rw [l7];omega) t y hy
            rcases F.congr e2 t y (TF t y hy).2 with ⟨j,a,b,d⟩|⟨a,h0,b,d⟩
            · exact .inl ⟨j,a,b,qB6 d (hlo j a) st hmh⟩
            · exact .inr ⟨a,h0,b,qB6 d (g7 _) st hmh⟩
          · rw [e1]
            rw [hloi] at h1
            rcases s4 lo m' with h3|h3
            · obtain ⟨x',E2,-,-,hx',hrun'⟩:=qBe (fun t x hx=>(TF t x hx).2) (zFp hall m' h3 (by omega))
              rw [hd] at hx';simp only [HS.set,List.cons.injEq,n5,bD8] at hx';rw [← hx'.1];exact hrun'
            · rw [show m'=lo by omega];exact hrun
theorem zLz {keys:List Nat} {ops:List Oper} {n:Nat} (ok:RegOkW keys ops n) {j k:Nat} (e:fV ops j k=true):k < j:=by
  unfold fV at e;split at e
  · rename_i oj hoj
    simp only [bEq] at e;obtain ⟨q,hq,e⟩:=e;simp only [g9,bAc] at e
    have:=ok.down j oj _ hoj (bEr hq) e.1
    omega
  · cases e
end
def qG1 {P:Program} {N:Nat} {ds:List (Option Nat)} {K:HS→Prop} {S S':HS} {ops:List Oper} (a b:Nat) {ty sz:Nat} {nw:Bool} {els:List (List FV)} (hab:a≠b) (hb:rlk S.st b=none) (ha:rlk S.st a=some (.sl nw ty sz els)) (hs:S.name a b=S') (h:zDp P N ds K ops S'):zDp P N ds K ops S:=fun c l w I=>h c l w (hs ▸ I.name hab hb ha)
def cAt:List Nat→Code→Code
 |0 :: r,.seq a _=>cAt r a
 |1 :: r,.seq _ b=>cAt r b
 |2 :: r,.cond _ a _=>cAt r a
 |3 :: r,.cond _ _ b=>cAt r b
 |4 :: r,.loop a=>cAt r a
 |5 :: r,.block _ a=>cAt r a
 |_,c=>c
def nrc {α:Sort _} {p q:α} (h:p=q):p=q:=by rw [h]
theorem zHv (i:Nat):qHk [] i=none:=nrc rfl
theorem qZm (a:Nat) (k:Option Nat) (r:Ws) (i:Nat):qHk ((a,k) :: r) i=bif a == i then some k else none:=nrc rfl
theorem zNu (i:Nat):qKr [] i=none:=nrc rfl
theorem zGt (a lo hi:Nat) (r:Rg) (i:Nat):qKr ((a,lo,hi) :: r) i=bif a == i then some (lo,hi) else qKr r i:=nrc rfl
theorem zWy (id:Nat):kf (some id)=only id:=nrc rfl
theorem yGc:kf none=fun _=>false:=nrc rfl
theorem zGc (T:aT):rF [] T=True:=nrc rfl
theorem qXw (a:Nat) (k:Option Nat) (r:Ws) (T:aT):rF ((a,k) :: r) T=(jN (kf k) T=T∧rF r T):=nrc rfl
theorem qMu (T:aT) (t:TypeId) (x y:Operand) (h:HV) (k:Option Nat):sX T (.store t x y) h k=(k=none):=nrc rfl
theorem qQj (T:aT) (args:Array Operand) (ats:Array TypeId) (h:HV) (k:Option Nat):sX T (.call ⟨.builtin .copy,args,ats⟩) h k=(k=none):=nrc rfl
theorem qS3 (T:aT) (args:Array Operand) (ats:Array TypeId) (id:Nat) (k:Option Nat):sX T (.call ⟨.builtin .append,args,ats⟩) (.own id) k=(k=some id∧match args.toList with|a :: _=>hev T a=some (.own id)|[]=>False):=nrc rfl
theorem qMv (T:aT) (t:TypeId) (n:Nat) (ps:Array (Nat × Operand)) (id:Nat) (k:Option Nat):sX T (.buildSlice t n ps) (.own id) k=(k=some id):=nrc rfl
theorem qMw (T:aT) (t:TypeId) (id s i j:Nat) (k:Option Nat):sX T (.alloc t) (.ptr id s i j) k=(k=some id):=nrc rfl
theorem zXa (P:Program) (T:aT) (st st':aC) (k:Option Nat) (op:Op) (K:HV→Prop) (c:Prop) (h:HV) (S':HS):zDo P T st st' k op K (.go c h S')=(sX T op h k∧c∧S'.st=st'∧K h):=nrc rfl
theorem zJ4 (P:Program) (T:aT) (st st':aC) (k:Option Nat) (op:Op) (K:HV→Prop) (f:FuncId) (args:List HV):zDo P T st st' k op K (.call f args)=yH3 P f args ⟨T,st⟩ st' k K:=nrc rfl
def yHz (Wd:Ws) (R:aT→Prop) (S':HS):Prop:=rF Wd (S'.env.take 1)∧R S'.env
def yHy (P:Program) (N:Nat) (ds:List (Option Nat)) (sts:List aC) (Wd:Ws) (o:Oper) (E T:aT) (R:aT→Prop) (lo hi:Nat) (S':HS):Prop:=rF (Wd.drop lo) (S'.env.take 1)∧qMq P N ds sts o E T S'.env (lo + 1) (hi - lo)∧R S'.env
def zZ0 (E':aT) (S':HS):Prop:=S'.env=E'
theorem zXf (Wd:Ws) (R:aT→Prop) (E:aT) (st:aC):yHz Wd R ⟨E,st⟩=(rF Wd (E.take 1)∧R E):=nrc rfl
theorem zXe (P:Program) (N:Nat) (ds:List (Option Nat)) (sts:List aC) (Wd:Ws) (o:Oper) (E T:aT) (R:aT→Prop) (lo hi:Nat) (E':aT) (st:aC):yHy P N ds sts Wd o E T R lo hi ⟨E',st⟩=(rF (Wd.drop lo) (E'.take 1)∧qMq P N ds sts o E T E' (lo + 1) (hi - lo)∧R E'):=nrc rfl
theorem zXd (E' E:aT) (st:aC):zZ0 E' ⟨E,st⟩=(E=E'):=nrc rfl
theorem zK5 (P:Program) (N:Nat) (ds:List (Option Nat)) (sts:List aC) (o:Oper) (E T E':aT) (a:Nat):qMq P N ds sts o E T E' a 0=True:=nrc rfl
theorem zRs (P:Program) (N:Nat) (ds:List (Option Nat)) (sts:List aC) (o:Oper) (E T E':aT) (a:Nat):qMq P N ds sts o E T E' a 1=(kD P N o ⟨E,sts.getD a []⟩ ⟨T,sts.getD a []⟩ (zZ0 E') (hG T ds o.guard)∧True):=nrc rfl
theorem zRr (P:Program) (N:Nat) (ds:List (Option Nat)) (sts:List aC) (o:Oper) (E T E':aT) (a:Nat):qMq P N ds sts o E T E' a 2=(kD P N o ⟨E,sts.getD a []⟩ ⟨T,sts.getD a []⟩ (zZ0 E') (hG T ds o.guard)∧qMq P N ds sts o E T E' (a + 1) 1):=nrc rfl
theorem zBu (P:Program) (N:Nat) (ds:List (Option Nat)) (sts:List aC) (o:Oper) (E T E':aT) (a:Nat):qMq P N ds sts o E T E' a 3=(kD P N o ⟨E,sts.getD a []⟩ ⟨T,sts.getD a []⟩ (zZ0 E') (hG T ds o.guard)∧qMq P N ds sts o E T E' (a + 1) 2):=nrc rfl
theorem zJ9 (P:Program) (N:Nat) (ds:List (Option Nat)) (sts:List aC) (Wd Wr:Ws) (m:Nat) (o:Oper) (E T:aT) (R:aT→Prop):zTw P N ds sts Wd Wr m o E T R none=(rF Wr T∧kD P N o ⟨E,[]⟩ ⟨T,[]⟩ (yHz Wd R) (hG T ds o.guard)):=nrc rfl
theorem zJ8 (P:Program) (N:Nat) (ds:List (Option Nat)) (sts:List aC) (Wd Wr:Ws) (m:Nat) (o:Oper) (E T:aT) (R:aT→Prop) (lo hi:Nat):zTw P N ds sts Wd Wr m o E T R (some (lo,hi))=((o.dst.isSome=true∧lo≤m∧m≤hi)∧rF (Wr.take (hi - m)) T∧kD P N o ⟨E,sts.getD lo []⟩ ⟨T,sts.getD lo []⟩ (yHy P N ds sts Wd o E T R lo hi) (hG T ds o.guard)):=nrc rfl
def zXg (P:Program) (N:Nat) (ds:List (Option Nat)) (sts:List aC) (rg:Rg) (K:aT→Prop) (i m:Nat) (Wd:Ws) (E:aT):HVc P N ds sts rg K [] i m Wd [] E=K E:=by rw [HVc];simp
def zZz (P:Program) (N:Nat) (ds:List (Option Nat)) (sts:List aC) (rg:Rg) (K:aT→Prop) (d:Option Nat) (rest:List Oper) (i m:Nat) (Wd Wr:Ws) (E:aT) (k:Option Nat) (h:HV):Prop:=HVc P N ds sts rg K rest (i + 1) (m + 1) (Wd ++ [(i,k)]) Wr.tail (HS.set ⟨jN (kf k) E,[]⟩ d h).env
theorem zJ5 (P:Program) (N:Nat) (ds:List (Option Nat)) (sts:List aC) (rg:Rg) (K:aT→Prop) (d:Nat) (rest:List Oper) (i m:Nat) (Wd Wr:Ws) (E:aT) (k:Option Nat) (h:HV):zZz P N ds sts rg K (some d) rest i m Wd Wr E k h=HVc P N ds sts rg K rest (i + 1) (m + 1) (Wd ++ [(i,k)]) Wr.tail ((d,h) :: jN (kf k) E):=nrc rfl
theorem zJ6 (P:Program) (N:Nat) (ds:List (Option Nat)) (sts:List aC) (rg:Rg) (K:aT→Prop) (rest:List Oper) (i m:Nat) (Wd Wr:Ws) (E:aT) (k:Option Nat) (h:HV):zZz P N ds sts rg K none rest i m Wd Wr E k h=HVc P N ds sts rg K rest (i + 1) (m + 1) (Wd ++ [(i,k)]) Wr.tail (jN (kf k) E):=nrc rfl
def yEi (P:Program) (N:Nat) (ds:List (Option Nat)) (sts:List aC) (rg:Rg) (K:aT→Prop) (o:Oper) (rest:List Oper) (i m:Nat) (Wd Wr:Ws) (E T T':aT):Option (Option Nat)→Prop
 |some k=>(o.guard=none∧eJ N o.dst=true)∧zDo P T' (sts.getD m []) (sts.getD (m + 1) []) k o.op (zZz P N ds sts rg K o.dst rest i m Wd Wr E k) (hop P ⟨T',sts.getD m []⟩ (rU o.dst) o.op)
 |none=>zTw P N ds sts Wd Wr m o E T (HVc P N ds sts rg K rest (i + 1) m Wd Wr) (qKr rg i)
theorem qPj (P:Program) (N:Nat) (ds:List (Option Nat)) (sts:List aC) (rg:Rg) (K:aT→Prop) (o:Oper) (rest:List Oper) (i m:Nat) (Wd Wr:Ws) (E T T':aT) (k:Option Nat):yEi P N ds sts rg K o rest i m Wd Wr E T T' (some k)=((o.guard=none∧eJ N o.dst=true)∧zDo P T' (sts.getD m []) (sts.getD (m + 1) []) k o.op (zZz P N ds sts rg K o.dst rest i m Wd Wr E k) (hop P ⟨T',sts.getD m []⟩ (rU o.dst) o.op)):=nrc rfl
theorem zJ7 (P:Program) (N:Nat) (ds:List (Option Nat)) (sts:List aC) (rg:Rg) (K:aT→Prop) (o:Oper) (rest:List Oper) (i m:Nat) (Wd Wr:Ws) (E T T':aT):yEi P N ds sts rg K o rest i m Wd Wr E T T' none=zTw P N ds sts Wd Wr m o E T (HVc P N ds sts rg K rest (i + 1) m Wd Wr) (qKr rg i):=nrc rfl
theorem qQs (t:TypeId) (x y:Operand):nG (.store t x y)=cM x ++ cM y:=nrc rfl
theorem qTf (c:Call):nG (.call c)=cH (.call c):=nrc rfl
def zQ2 (P:Program) (N:Nat) (ds:List (Option Nat)) (sts:List aC) (rg:Rg) (K:aT→Prop) (o:Oper) (rest:List Oper) (i m:Nat) (Wd Wr:Ws) (E:aT):HVc P N ds sts rg K (o :: rest) i m Wd Wr E=yEi P N ds sts rg K o rest i m Wd Wr E (lG E (iV ds o.guard ++ cH o.op)) (lG E (iV ds o.guard ++ nG o.op)) (qHk Wr i):=by
  rw [HVc]
  cases qHk Wr i with
 |none=>rfl
 |some k=>rw [qPj,and_assoc];rfl
attribute [push_cast] zHv qZm zNu zGt zWy yGc zGc qXw qMu qQj qS3 qMv qMw zXa zJ4 zK5 zRs zRr zBu qQs qTf zXf zXe zXd zJ5 zJ6 zJ9 zJ8 zXg qPj zJ7 zQ2 List.tail_cons List.take_nil List.drop_nil
abbrev lP:=List (Nat × Nat × Nat × TypeId × List Value)
def inF:lP→Nat→Bool
|[],_=>false
|(a,_) :: r,i=>a == i || inF r i
def qPv:Oper→Oper
|⟨d,_,ty,p,a,g⟩=>⟨d,.move (.const (.bool false)),ty,p,a,g⟩
def fW (F:lP):Nat→List Oper→List Oper
|_,[]=>[]
|i,o :: r=>(bif inF F i then qPv o else o) :: fW F (i + 1) r
def bSt:lP→aC→aC
|[],st=>st
|(_,_,id,t,z) :: r,st=>(id,.bx true t (z.map .v)) :: bSt r st
def bEn:lP→aT→aT
|[],E=>E
|(_,d,id,_,z) :: r,E=>(d,.ptr id z.length 0 0) :: bEn r E
def qMk:lP→aT→aC→Prop
|[],_,_=>True
|(_,_,id,_,_) :: r,E,st=>(jN (only id) E=E∧dN (only id) st=st)∧qMk r E st
def FOk (P:Program) (ops:List Oper):lP→Prop
|[]=>True
|(i,d,_,t,z) :: r=>(match ops[i]? with|some o=>o.dst=some d∧o.guard=none∧o.op=.alloc t|none=>False)∧eD P t=some z.toArray∧z.all (·.oneCell')=true∧FOk P ops r
def yDq (N:Nat) (ops:List Oper) (n:Nat) (W:Ws) (F:lP):Bool :=
 (!dup (F.map (·.1))) && (!dup (F.map (·.2.2.1))) && (F.all fun f=>decide (f.1 < n) && decide (f.2.1 < N) && (List.range W.length).all fun q=>wAt W q != f.1) &&
 ((List.range n).all fun i=>match ops[i]? with
 |some o=>(iV (cJ ops) o.guard ++ nG o.op).all fun t=>F.all fun f=>t != f.2.1
 |none=>true)
section
variable {P:Program} {N:Nat} {Q:dP} {c:Ctx} {S:HS} {l:Env} {look:Nat→Option Value} {w w':World} {ρ:Nat→Value} {xs:Nat→List Value}
theorem Good.anew {c c':Ctx} (G:Good c S look w ρ xs) (B:Below w.heap.size w w') (e1:c'.n0=c.n0) (e2:c'.B=c.B) (hA:∀ b,b < w.heap.size→c'.A0 b→c.A0 b) (ha:∀ b,c'.A0 b→b < c'.w0.heap.size∧¬ c'.T b) (hk:Kept c'.T c'.w0 w')
  (hn:∀ id r b,rlk S.st id=some r→(ρ id).ownBlock=some b→c'.w0.heap.size≤b∨c'.T b):Good c' S look w' ρ xs:=by
 have hAA:∀ b,b < w.heap.size→c'.A ρ S.st b→c.A ρ S.st b:=fun b hlt h=>h.imp (hA b hlt) _root_.id
 refine ⟨fun id r hr=>?_,G.apart,fun k h hk=>?_,hk,ha⟩
 ·have R:=(G.rows id r hr).up (w':=w') (A':=c'.A ρ S.st) B.size (fun b hlt _=>B.block b hlt) hAA (fun b hb=>B.block b (G.lt hr hb))
  refine ⟨R.own,?_,fun b hb=>⟨hn id r b hr hb,fun h=>by rw [e1];exact (R.new b hb).2 h⟩⟩
  have:=R.rep
  rw [e1,e2];exact this
 ·obtain ⟨v,h1,h2⟩:=G.env k h hk;exact ⟨v,h1,by rw [e1];exact h2.up B.size (fun b hlt _=>B.block b hlt) hAA (a7 _)⟩
theorem Good.birth {E:aT} {st:aC} (G:Good c ⟨E,st⟩ look w ρ xs) {g id d:Nat} {t:TypeId} {z:List Value} (hg:c.A0 g) (hb:Blk w g z.toArray t) (h1:z.all (·.oneCell')=true) (hn:c.n0≤g)
  (hE:∀ k h,hlk E k=some h→h.kill (only id)=h) (hst:dN (only id) st=st) (hd:look d=some (.pointer (some ⟨g,0,none⟩))) :
  Good ⟨c.w0,fun b=>c.T b∨b=g,fun b=>c.A0 b∧b≠g,c.n0,c.hn,c.B⟩ ⟨(d,.ptr id z.length 0 0) :: E,(id,.bx true t (z.map .v)) :: st⟩ look w (fC ρ id (.slice (some ⟨g,0,none⟩) 1 1)) (fun i=>if i=id then z else xs i):=by
 have hno:rlk st id=none:=by
  have:=eK (only id) st id
  rw [hst,zHm,p8] at this;exact this
 have hkill:∀ i r,rlk st i=some r→r.kill (only id)=r∧i≠id:=fun i r hr=>by
  have hne:i≠id:=fun e=>by rw [e,hno] at hr;cases hr
  have:=eK (only id) st i
  rw [hst,iP hne,o7,hr] at this;simp only [n8,a6] at this;exact ⟨this.symm,hne⟩
 have hown:∀ i r,rlk st i=some r→(ρ i).ownBlock≠some g:=fun i r hr e=>by
  obtain ⟨a1,a2⟩:=G.a0 g hg
  rcases ((G.rows i r hr).new g e).1 with h|h
  ·omega
  ·exact a2 h
 have hA:∀ b,Ctx.A ⟨c.w0,fun b=>c.T b∨b=g,fun b=>c.A0 b∧b≠g,c.n0,c.hn,c.B⟩ (fC ρ id (.slice (some ⟨g,0,none⟩) 1 1)) ((id,.bx true t (z.map .v)) :: st) b→c.A ρ st b:=by
  rintro b (h0|⟨i,r,hi,hbi⟩)
  ·exact .inl h0.1
  ·simp only [rlk] at hi
   by_cases e:id=i
   ·subst e;rw [aK] at hbi;simp only [Value.ownBlock,a6] at hbi;subst hbi;exact .inl hg
   ·rw [b7 e] at hi;rw [jH ρ id _ i (fun h=>e h.symm)] at hbi
    exact .inr ⟨i,r,hi,hbi⟩
 have hρ:∀ j,only id j=false→fC ρ id (.slice (some ⟨g,0,none⟩) 1 1) j=ρ j:=fun j hj=>jH ρ id _ j (xM hj)
 have tr:∀ v x,RepH w (c.A ρ st) c.n0 ρ v x→RepH w (Ctx.A ⟨c.w0,fun b=>c.T b∨b=g,fun b=>c.A0 b∧b≠g,c.n0,c.hn,c.B⟩ (fC ρ id (.slice (some ⟨g,0,none⟩) 1 1)) ((id,.bx true t (z.map .v)) :: st)) c.n0 (fC ρ id (.slice (some ⟨g,0,none⟩) 1 1)) v (x.kill (only id)):=fun v x h =>
  (h.up (a7 _) (fun _ _ _=>rfl) (fun b _=>hA b) (a7 _)).kill hρ
 refine ⟨fun i r hi=>?_,fun i j r s b hne hi hj hbi hbj=>?_,fun k h hk=>?_,?_,fun b hb=>?_⟩
 ·simp only [rlk] at hi
  by_cases e:id=i
  ·subst e;rw [g8 rfl] at hi
   cases hi
   rw [g8 rfl];refine ⟨?_,⟨⟨g,aK _ _ _,fun h=>(by cases h)⟩,fun k hk=>?_⟩,fun b hb'=>?_⟩
   ·rw [aK];simp only [Row.ty,Row.sz,Row.len,c8];refine ⟨by simp,.inr ⟨g,1,z.toArray,rfl,g7 _,hb,a7 _,by simp [maxLen],by simp,by simp⟩⟩
   ·have ha:k < z.length:=by simpa using hk
    refine ⟨z[k],c9 ha,o8.1 h1 _ (c7 ha),?_⟩;rw [d9];exact .v _
   ·rw [aK] at hb';simp only [Value.ownBlock,a6] at hb';exact ⟨.inr (.inr hb'.symm),fun _=>by subst hb';exact hn⟩
  ·rw [b7 e] at hi;obtain ⟨k1,k2⟩:=hkill i r hi;rw [b7 k2]
   have R:=(((G.rows i r hi).up (w':=w) (a7 _) (fun _ _ _=>rfl) (fun b _=>hA b) (fun _ _=>rfl)).kill hρ (iP k2))
   rw [k1] at R;exact ⟨R.own,R.rep,fun b hb=>⟨(R.new b hb).1.imp _root_.id .inl,(R.new b hb).2⟩⟩
 ·simp only [rlk] at hi hj
  by_cases e1:id=i
  ·by_cases e2:id=j
   ·omega
   ·rw [b7 e2] at hj;subst e1;rw [aK] at hbi;simp only [Value.ownBlock,a6] at hbi;rw [jH ρ id _ j (fun h=>e2 h.symm)] at hbj
    exact hown j s hj (by rw [hbj,hbi])
  ·rw [b7 e1] at hi;rw [jH ρ id _ i (fun h=>e1 h.symm)] at hbi
   by_cases e2:id=j
   ·subst e2;rw [aK] at hbj;simp only [Value.ownBlock,a6] at hbj;exact hown i r hi (by rw [hbi,hbj])
   ·rw [b7 e2] at hj;rw [jH ρ id _ j (fun h=>e2 h.symm)] at hbj
    exact G.apart i j r s b hne hi hj hbi hbj
 ·simp only [hlk] at hk
  by_cases e:d=k
  ·subst e;rw [g8 rfl] at hk
   cases hk
   have:=RepH.ptr (w:=w) (A:=Ctx.A ⟨c.w0,fun b=>c.T b∨b=g,fun b=>c.A0 b∧b≠g,c.n0,c.hn,c.B⟩ (fC ρ id (.slice (some ⟨g,0,none⟩) 1 1)) ((id,.bx true t (z.map .v)) :: st)) (n0:=c.n0) (ρ:=fC ρ id (.slice (some ⟨g,0,none⟩) 1 1)) z.length 0 0 (aK ρ id _)
   exact ⟨_,hd,by simpa using this⟩
  ·rw [b7 e] at hk;obtain ⟨v,h2,h3⟩:=G.env k h hk
   have:=tr v h h3
   rw [hE k h hk] at this;exact ⟨v,h2,this⟩
 ·exact ⟨G.kept.os,G.kept.tape,G.kept.output,G.kept.size,fun b hlt hn=>G.kept.block b hlt fun h=>hn (.inl h)⟩
 ·obtain ⟨a1,a2⟩:=G.a0 b hb.1;exact ⟨a1,fun h=>h.elim a2 hb.2⟩
theorem zEw {F:lP} {i:Nat}:inF F i=true↔∃ f ∈ F,f.1=i:=by
 induction F with
|nil=>simp [inF]
|cons f r ih =>
  obtain ⟨a,rest⟩:=f;simp only [inF,w9,bAc,ih,l3];constructor
  ·rintro (rfl|⟨f,hf,e⟩)
   ·exact ⟨_,.inl rfl,rfl⟩
   ·exact ⟨f,.inr hf,e⟩
  ·rintro ⟨f,rfl|hf,e⟩
   ·exact .inl e
   ·exact .inr ⟨f,hf,e⟩
def inD (F:lP) (k:Nat):Bool:=F.any fun f=>f.2.1 == k
def zPy (F:lP) (E:aT):aT:=E.filter fun p=>!inD F p.1
theorem qAw (F:lP):∀ (E:aT) (k:Nat),hlk (zPy F E) k=if inD F k=true then none else hlk E k
|[],k=>by simp [zPy,hlk]
|(j,x) :: r,k=>by
  have ih:=qAw F r k
  unfold zPy at ih ⊢;rw [List.filter_cons]
  by_cases hj:inD F j=true
  ·rw [b7 (by simp [hj]),ih]
   by_cases e:j=k
   ·subst e;rw [g8 hj,g8 hj]
   ·simp only [hlk,b7 e]
  ·rw [g8 (by simpa using hj)]
   simp only [hlk]
   by_cases e:j=k
   ·subst e;rw [g8 rfl,b7 hj,g8 rfl]
   ·rw [b7 e,b7 e];exact ih
theorem zXl (F:lP) {E E':aT} (h:∀ k x,inD F k=false→hlk E k=some x→hlk E' k=some x):∀ k x,hlk (bEn F E) k=some x→hlk (bEn F E') k=some x:=by
 have key:∀ (R:lP) (k:Nat) (x:HV),(∀ x,R.any (fun f=>f.2.1 == k)=false→hlk E k=some x→hlk E' k=some x)→hlk (bEn R E) k=some x→hlk (bEn R E') k=some x:=by
  intro R
  induction R with
 |nil=>intro k x h hx;exact h x rfl hx
 |cons f r ih =>
   obtain ⟨a,d,id,t,z⟩:=f;intro k x h hx;simp only [bEn,hlk] at hx ⊢
   by_cases e:d=k
   ·rw [g8 e] at hx ⊢;exact hx
   ·rw [b7 e] at hx ⊢;refine ih k x (fun y hy=>h y ?_) hx
    rw [List.any_cons,hy,bD9,bCl];exact e
 intro k x hx;exact key F k x (fun y hy=>h k y hy) hx
theorem qU8 {p:Nat→Bool}:∀ {F:lP} {E:aT},(∀ f ∈ F,p f.2.2.1=false)→(∀ k h,hlk E k=some h→h.kill p=h)→∀ k h,hlk (bEn F E) k=some h→h.kill p=h
|[],E,_,hE,k,h,hh=>hE k h hh
|(a,d,id,t,z) :: r,E,hp,hE,k,h,hh=>by
  simp only [bEn,hlk] at hh
  by_cases e:d=k
  ·rw [g8 e] at hh
   cases hh
   have:=hp _ (bAz ..)
   simp only at this;simp [HV.kill,this]
  ·rw [b7 e] at hh;exact qU8 (fun f hf=>hp f (u9 _ hf)) hE k h hh
theorem qU7 {p:Nat→Bool} {st:aC} (hst:dN p st=st):∀ {F:lP},(∀ f ∈ F,p f.2.2.1=false)→dN p (bSt F st)=bSt F st
|[],_=>hst
|(a,d,id,t,z) :: r,hp=>by
  have:=hp _ (bAz ..)
  simp only at this
  have e:(z.map HV.v).map (HV.kill p)=z.map HV.v:=by
   rw [bAm];apply x7;intro a _;simp [HV.kill]
  simp only [bSt,dN,this,o7,Row.kill,e];rw [qU7 hst fun f hf=>hp f (u9 _ hf)]
theorem qWg {a:Nat} {l:List Nat} (h:dup (a :: l)=false):(∀ x ∈ l,x≠a)∧dup l=false:=by
 refine ⟨fun x hx e=>?_,?_⟩
 ·subst e;obtain ⟨j,hj⟩:=bD4 hx
  have:=xV (i:=0) (j:=j + 1) (a:=x) h (by simp) (by simpa using hj)
  omega
 ·unfold dup at h;simp only [bAx] at h;exact h.2
theorem Good.births {look:Nat→Option Value} {w:World} {gs:Nat→Nat}:∀ {F:lP} {c:Ctx} {E:aT} {st:aC} {ρ:Nat→Value} {xs:Nat→List Value},Good c ⟨E,st⟩ look w ρ xs→dup (F.map (·.2.2.1))=false→(∀ f ∈ F,∀ f' ∈ F,f.1≠f'.1→gs f.1≠gs f'.1)→dup (F.map (·.1))=false →
  (∀ f ∈ F,c.A0 (gs f.1)∧Blk w (gs f.1) f.2.2.2.2.toArray f.2.2.2.1∧f.2.2.2.2.all (·.oneCell')=true∧c.n0≤gs f.1∧look f.2.1=some (.pointer (some ⟨gs f.1,0,none⟩))∧(∀ k h,hlk E k=some h→h.kill (only f.2.2.1)=h)∧dN (only f.2.2.1) st=st) →
  ∃ c' ρ' xs',Good c' ⟨bEn F E,bSt F st⟩ look w ρ' xs'∧c'.w0=c.w0∧c'.n0=c.n0∧c'.B=c.B∧(∀ b,c'.A0 b↔c.A0 b∧∀ f ∈ F,b≠gs f.1)∧(∀ b,c'.T b↔c.T b∨∃ f ∈ F,b=gs f.1)
|[],c,E,st,ρ,xs,G,_,_,_,_=>⟨c,ρ,xs,G,rfl,rfl,rfl,fun b=>by simp,fun b=>by simp⟩
|(i,d,id,t,z) :: r,c,E,st,ρ,xs,G,hd,hg,hh,H=>by
  obtain ⟨d1,d2⟩:=qWg hd;obtain ⟨e1,e2⟩:=qWg hh;obtain ⟨c',ρ',xs',G',w1,n1,b1,a1,t1⟩:=Good.births (gs:=gs) G d2 (fun f hf f' hf'=>hg f (u9 _ hf) f' (u9 _ hf')) e2 (fun f hf=>H f (u9 _ hf))
  obtain ⟨h1,h2,h3,h4,h5,h6,h7⟩:=H _ (bAz ..);dsimp only at h1 h2 h3 h4 h5 h6 h7
  have hne:∀ f ∈ r,gs i≠gs f.1:=fun f hf=>hg _ (bAz ..) f (u9 _ hf) fun e=>e1 f.1 (m6.2 ⟨f,hf,rfl⟩) e.symm
  have hid:∀ f ∈ r,only id f.2.2.1=false:=fun f hf=>iP (d1 f.2.2.1 (m6.2 ⟨f,hf,rfl⟩))
  have G2:=G'.birth (g:=gs i) (id:=id) (d:=d) ((a1 _).2 ⟨h1,hne⟩) h2 h3 (by rw [n1];exact h4) (qU8 hid h6) (qU7 h7 hid) h5
  refine ⟨_,_,_,G2,w1,n1,b1,fun b=>?_,fun b=>?_⟩
  ·show (c'.A0 b∧b≠gs i)↔_
   rw [a1 b];simp only [l3,forall_eq_or_imp];exact ⟨fun ⟨⟨p,q⟩,s⟩=>⟨p,s,q⟩,fun ⟨p,s,q⟩=>⟨⟨p,q⟩,s⟩⟩
  ·show (c'.T b∨b=gs i)↔_
   rw [t1 b];simp only [l3,exists_eq_or_imp];exact ⟨fun h=>by rcases h with (h|h)|h;exact .inl h;exact .inr (.inr h);exact .inr (.inl h),fun h=>by rcases h with h|h|h;exact .inl (.inl h);exact .inr h;exact .inl (.inr h)⟩
theorem zFq {ops:List Oper}:∀ {F:lP},FOk P ops F→∀ f ∈ F,(∃ o,ops[f.1]?=some o∧o.dst=some f.2.1∧o.guard=none∧o.op=.alloc f.2.2.2.1)∧eD P f.2.2.2.1=some f.2.2.2.2.toArray∧f.2.2.2.2.all (·.oneCell')=true
|[],_,f,hf=>by simp at hf
|(i,d,id,t,z) :: r,h,f,hf=>by
  obtain ⟨h1,h2,h3,h4⟩:=h
  rcases l3.1 hf with rfl|hf
  ·refine ⟨?_,h2,h3⟩;dsimp only;split at h1
   ·rename_i o ho;exact ⟨o,ho,h1⟩
   ·exact h1.elim
  ·exact zFq h4 f hf
theorem qP6:∀ {F:lP} {E:aT} {st:aC},qMk F E st→∀ f ∈ F,(∀ k h,hlk E k=some h→h.kill (only f.2.2.1)=h)∧dN (only f.2.2.1) st=st
|[],E,st,_,f,hf=>by simp at hf
|(i,d,id,t,z) :: r,E,st,h,f,hf=>by
  obtain ⟨⟨h1,h2⟩,h3⟩:=h
  rcases l3.1 hf with rfl|hf
  ·refine ⟨fun k x hx=>?_,h2⟩
   have:=jD (only id) E k
   rw [h1,hx] at this;simp only [n8,a6] at this;exact this.symm
  ·exact qP6 h3 f hf
theorem qCi (F:lP):∀ (l:List Oper) (a k:Nat),(fW F a l)[k]?=(l[k]?).map fun o=>bif inF F (a + k) then qPv o else o
|[],a,k=>by simp [fW]
|o :: r,a,0=>by simp [fW]
|o :: r,a,k + 1=>by
  simp only [fW,bA2];rw [qCi F r (a + 1) k,show a + 1 + k=a + (k + 1) by omega]
theorem qL5 (F:lP):∀ (l:List Oper) (a n:Nat),(fW F a l).take n=fW F a (l.take n)
|[],a,n=>by simp [fW]
|o :: r,a,0=>by simp [fW]
|o :: r,a,n + 1=>by simp [fW,qL5 F r (a + 1) n]
theorem zL0 (o:Oper):(qPv o).dst=o.dst:=rfl
theorem qWi (o:Oper):(qPv o).after=o.after:=rfl
theorem sE (F:lP):∀ (l:List Oper) (a:Nat),cJ (fW F a l)=cJ l
|[],a=>rfl
|o :: r,a=>by
  have ih:=sE F r (a + 1)
  unfold cJ at ih ⊢;simp only [fW,d8,ih]
  cases inF F a <;> rfl
theorem qHw (F:lP) (l:List Oper) (i:Nat):aZ (fW F 0 l) i=aZ l i:=by
 unfold aZ;rw [qCi,s7]
 cases l[i]? with
|none=>rfl
|some o=>cases h:inF F i <;> simp [h,zL0]
theorem qHv (F:lP) (l:List Oper) (i j:Nat):fV (fW F 0 l) i j=fV l i j:=by
 unfold fV;rw [qCi,s7]
 cases l[i]? with
|none=>rfl
|some o=>cases h:inF F i <;> simp [h,qWi]
theorem jZ (F:lP) (l:List Oper):∀ (f i j:Nat),qB (fW F 0 l) f i j=qB l f i j
|0,i,j=>qHv F l i j
|f + 1,i,j=>by
  simp only [qB,qHv,jZ F l f]
def bA (c:Ctx) (F:lP) (L:Nat→Bool) (gs:Nat→Nat) (b:Nat):Prop:=c.A0 b∨∃ f ∈ F,L f.1=true∧b=gs f.1
theorem qSp {id:Nat} {ops:List Oper} (n:Nat) (W:Ws) (sts:List aC) (rg:Rg) (F:lP) (hm:P.follows .mixedOrders=true) (hok:qKt (cN S.env) ops n=true) (hwk:zUd ops n W rg=true) (hfk:yDq N ops n W F=true) (hF:FOk P ops F) (hs0:sts.getD 0 []=S.st)
  (h:∀ K:HS→Prop,(∀ S',Q .normal S'→K S')→∀ K1:HS→Prop,(∀ S',iJ (HV2 P N (cJ ops) K (ops.drop n)) S'→K1 S')→HVc P N (cJ ops) sts rg (fun E=>qMk F E (sts.getD W.length [])∧K1 ⟨bEn F E,bSt F (sts.getD W.length [])⟩) (fW F 0 (ops.take n)) 0 0 [] W S.env):HW P N (.region id ops.toArray true) Q S:=fun c l w I=>by
 have hks:∀ k ∈ cN S.env,∃ v,lk l k=some v:=fun k hk=>by
  obtain ⟨x,hx⟩:=wM hk;obtain ⟨ρ,xs,G⟩:=I;obtain ⟨v,h1,-⟩:=G.env k x hx;exact ⟨v,h1⟩
 refine qGz (cN S.env) ?_
 have I':Inv c S (lk (keep (cN S.env) l)) w:=I.agree fun k x hk=>oX (qCb hk)
 have hkk:tN (keep (cN S.env) l)=cN S.env:=xR hks
 generalize keep (cN S.env) l=l' at I' hkk;obtain ⟨ρ,xs,G⟩:=I'
 have ok:=qHf hok
 have hw0:=zFs hwk
 have hw:WOk (fW F 0 ops) n W rg:=⟨hw0.lt,fun q hq=>by rw [jZ];exact hw0.up q hq,fun i lo hi a b=>by rw [jZ,jZ];exact hw0.rg i lo hi a b⟩
 simp only [yDq,g9,bDt,o8,bA9,m7,bEp] at hfk;obtain ⟨⟨⟨dh,di⟩,hfn⟩,hfs⟩:=hfk
 have hlen:(ops.take n).length=n:=by rw [l7];have:=ok.hn;omega
 have hlen':(fW F 0 (ops.take n)).length=n:=by
  have h1:∀ (l:List Oper) (a:Nat),(fW F a l).length=l.length:=by
   intro l
   induction l with
  |nil=>intro a;rfl
  |cons o r ih=>intro a;simp [fW,ih]
  rw [h1,hlen]
 have hopt:∀ k o,(fW F 0 (ops.take n))[k]?=some o→(fW F 0 ops)[0 + k]?=some o:=fun k o hk=>by
  rw [s7]
  have hi:=(i5.1 hk).1
  rw [hlen'] at hi;rw [← qL5,o6 hi] at hk;exact hk
 have hv:=h (Q .normal) (fun _ h=>h) _ fun _ h=>h
 rw [← sE F ops 0] at hv;obtain ⟨hs,-,heads,E1,F1,hbk,h1⟩:=qP8 (E0:=S.env) hw (fW F 0 (ops.take n)) 0 0 [] W S.env (fun _=>.junk) rfl rfl hopt (by rw [hlen'];omega) (fun q _=>by omega)
  (fun t x hx=>.inr ⟨fun j hj=>absurd hj (y5 _),x,hx,qAr W x (a7 _)⟩) (fun j hj=>absurd hj (y5 _)) hv
 rw [hlen',s7] at F1;rw [sE] at h1
 have head:∀ i o,i < n→ops[i]?=some o→inF F i=false→HeadC P N (fW F 0 ops) S.env sts hs (loF W rg) W i o:=fun i o hi ho hf=>by
  have:=heads i o (by
   rw [qCi,s7,o6 hi,ho];simp [hf])
  rw [s7] at this;exact this
 have birth:∀ i,inF F i=true→∃ f ∈ F,f.1=i:=fun i hi=>zEw.1 hi
 have bth:=zFq hF
 have uniq:∀ i j t,i < n→j < n→aZ ops i=some t→aZ ops j=some t→i=j:=by
  intro i j t hi hj h1 h2
  rcases bAw i j with h|h|h
  ·rcases ok.uniq j i hj h with e|e
   ·rw [h2] at e;cases e
   ·exact absurd (h2.trans h1.symm) e
  ·exact h
  ·rcases ok.uniq i j hi h with e|e
   ·rw [h1] at e;cases e
   ·exact absurd (h1.trans h2.symm) e
 have hfdst:∀ f ∈ F,aZ ops f.1=some f.2.1:=fun f hf=>by
  obtain ⟨⟨o,ho,hod,-⟩,-⟩:=bth f hf;unfold aZ;rw [ho];exact hod
 have hlt:DLt N ops n:=fun i t hi hd=>by
  obtain ⟨o,ho,hod⟩:=xW hd
  cases hf:inF F i with
 |true =>
   obtain ⟨f,hfm,rfl⟩:=birth i hf
   have:=hfdst f hfm
   rw [hd] at this
   cases this
   exact (hfn f hfm).1.2
 |false =>
   have:=(head i o hi ho hf).lt
   rw [hod] at this;exact this
 let Jn:(Nat→Bool)→(Nat→Value)→World→Nat→(Nat→Value)→(Nat→List Value)→(Nat→Nat)→Prop:=fun L vs w1 m ρ xs gs=>m≤W.length∧(∀ q,q < W.length→(L (wAt W q)=true↔q < m))∧Kept c.T c.w0 w1∧w.heap.size≤w1.heap.size ∧
  (∀ id r b,rlk (sts.getD m []) id=some r→(ρ id).ownBlock=some b→c.w0.heap.size≤b∨c.T b) ∧
  (∀ f ∈ F,L f.1=true→vs f.1=.pointer (some ⟨gs f.1,0,none⟩)∧Blk w1 (gs f.1) f.2.2.2.2.toArray f.2.2.2.1∧w.heap.size≤gs f.1)∧(∀ f ∈ F,∀ f' ∈ F,f.1≠f'.1→L f.1=true→L f'.1=true→gs f.1≠gs f'.1) ∧
  (∃ hn1:c.n0≤w1.heap.size,Good ⟨w1,fR ρ (sts.getD m []),bA c F L gs,c.n0,hn1,c.B⟩ ⟨[],sts.getD m []⟩ (fun _=>none) w1 ρ xs) ∧
  (∀ t x,hlk S.env t=some x→∃ v,lk l' t=some v∧RepH w1 (fun b=>bA c F L gs b∨fR ρ (sts.getD m []) b) c.n0 ρ v (kk W x 0 m)) ∧
  (∀ j,j < n→L j=true→inF F j=false→RepH w1 (fun b=>bA c F L gs b∨fR ρ (sts.getD m []) b) c.n0 ρ (vs j) (kk W (hs j) (loF W rg j) m))
 -- what a frame reads
 have frame:∀ {L:Nat→Bool} {vs:Nat→Value} {w1:World} {m:Nat} {ρ:Nat→Value} {xs:Nat→List Value} {gs:Nat→Nat} {i M:Nat} {T:aT} (hn1:c.n0≤w1.heap.size),Jn L vs w1 m ρ xs gs→Good ⟨w1,fR ρ (sts.getD m []),bA c F L gs,c.n0,hn1,c.B⟩ ⟨[],sts.getD m []⟩ (fun _=>none) w1 ρ xs→i≤n→m≤M→FrA (fW F 0 ops) S.env hs (loF W rg) W i M T →
   (∀ j t x,j < i→aZ ops j=some t→hlk T t=some x→L j=true∧inF F j=false)→Good ⟨w1,fR ρ (sts.getD m []),bA c F L gs,c.n0,hn1,c.B⟩ ⟨T,sts.getD m []⟩ (lk (iG l' ops vs i)) w1 ρ xs:=fun {L vs w1 m ρ xs gs i M T} hn1 J GB hi hM FR hL=>by
  obtain ⟨-,-,-,-,-,-,-,-,JE,JH⟩:=J;refine ⟨GB.rows,GB.apart,fun k x hk=>?_,GB.kept,GB.a0⟩
  rcases FR k x hk with ⟨j,a,b,d⟩|⟨a,h0,b,d⟩
  ·rw [qHw] at b;obtain ⟨q1,q2⟩:=hL j k x a b hk;refine ⟨vs j,(nN (l:=l') (vs:=vs) hlt (base:=Array.replicate N undef) (by simp) b (fun q hq hne e=>hne (uniq q j k hq (by omega) e b)) i hi a).1,?_⟩
   rw [← d];exact qZ1 (JH j (by omega) q1 q2) M hM
  ·obtain ⟨v,v1,v2⟩:=JE k h0 b;refine ⟨v,by rw [(pN (l:=l') (vs:=vs) #[] k i (fun j hj=>by rw [← qHw F];exact a j hj)).1];exact v1,?_⟩
   rw [← d];exact qZ1 v2 M hM
 have hw0s:=G.kept.size
 refine zTn (cN S.env) n hm hkk hok hlt (J:=fun L vs w1=>∃ m ρ xs gs,Jn L vs w1 m ρ xs gs) ⟨0,ρ,xs,fun _=>0,g7 _,fun q _=>by simp,?_,a7 _,?_,(fun f _ hf=>(by cases hf)),(fun f _ f' _ _ hf=>(by cases hf)),⟨l5 c.hn hw0s,?_⟩,fun t x hx=>?_,(fun j _ hj=>(by cases hj))⟩ ?_ ?_
 ·exact (G.below (Below.refl _ _).drew).kept
 ·rw [hs0];exact fun id r b hr hb=>((G.rows id r hr).new b hb).1
 ·have G2:=G.below (Below.refl _ _).drew
  rw [hs0]
  have G3:Good c ⟨[],S.st⟩ (fun _=>none) w.drew ρ xs:=⟨G2.rows,G2.apart,fun k x hk=>by simp [hlk] at hk,G2.kept,G2.a0⟩
  refine G3.anew (Below.refl _ _) rfl rfl (fun b _ hb=>?_) (fun b hb=>?_) (Kept.refl _ _) (fun id r b hr hb=>.inr ⟨id,r,hr,hb⟩)
  ·rcases hb with hb|⟨f,-,hf,-⟩
   ·exact hb
   ·cases hf
  ·have hb0:c.A0 b:=by
    rcases hb with hb|⟨f,-,hf,-⟩
    ·exact hb
    ·cases hf
   obtain ⟨a1,a2⟩:=G.a0 b hb0;refine ⟨by show b < w.heap.size;omega,fun ⟨id,r,hr,hb2⟩=>?_⟩
   rcases ((G.rows id r hr).new b hb2).1 with h|h
   ·omega
   ·exact a2 h
 ·obtain ⟨v,a,b⟩:=(G.below (Below.refl _ _).drew).env t x hx;rw [hs0,qAr W x (a7 _)];refine ⟨v,a,b.up (a7 _) (fun _ _ _=>rfl) (fun b _ hb=>?_) (a7 _)⟩
  rcases hb with (hb|⟨f,-,hf,-⟩)|hb
  ·exact .inl hb
  ·cases hf
  ·exact .inr hb
 ·rintro i o hi ho L vs w1 ⟨m,ρ1,xs1,gs,J⟩ hLi hE hdn
  cases hfi:inF F i with
 |true =>
   obtain ⟨f,hfm,rfl⟩:=birth i hfi;obtain ⟨⟨o',ho',hod,hgd,hop⟩,hz,hz1⟩:=bth f hfm;rw [ho] at ho'
   cases ho'
   obtain ⟨j1,j2,j3,j4,j5,j6,j7,⟨hn1,j8⟩,j9,j10⟩:=J;refine ⟨true,by rw [hgd];rfl,fun _=>?_,fun e=>by cases e⟩
   have hB:Below w1.heap.size w1 (w1.alloc (.cells f.2.2.2.2.toArray f.2.2.2.1)):=(Below.refl _ _).alloc (a7 _) _
   have hgl:∀ f' ∈ F,L f'.1=true→f'.1≠f.1∧gs f'.1 < w1.heap.size:=fun f' hf' hL=>⟨fun e=>(by rw [e,hLi] at hL;cases hL),(j6 f' hf' hL).2.1.lt⟩
   have hbA:∀ b,b < w1.heap.size→bA c F (fun j=>if j=f.1 then true else L j) (fun j=>if j=f.1 then w1.heap.size else gs j) b→bA c F L gs b:=by
    rintro b hb (h0|⟨f',hf',hL,rfl⟩)
    ·exact .inl h0
    ·dsimp only at hb hL ⊢
     by_cases e:f'.1=f.1
     ·rw [g8 e] at hb;omega
     ·rw [b7 e] at hL ⊢;exact .inr ⟨f',hf',hL,rfl⟩
   have hAA:∀ b,b < w1.heap.size→(bA c F (fun j=>if j=f.1 then true else L j) (fun j=>if j=f.1 then w1.heap.size else gs j) b∨fR ρ1 (sts.getD m []) b)→(bA c F L gs b∨fR ρ1 (sts.getD m []) b):=fun b hb h=>h.imp (hbA b hb) _root_.id
   refine (oV (K:=fun u w2=>u=.pointer (some ⟨w1.heap.size,0,none⟩)∧w2=w1.alloc (.cells f.2.2.2.2.toArray f.2.2.2.1)) (l:=iG l' ops vs f.1) (fun x X hx=>by simp [evD,hx]) ?_).mono fun u w2 ⟨e1,e2⟩=>?_
   ·rw [hop];unfold bH;simp only [aP,bZ,hz];exact ⟨trivial,trivial⟩
   subst e1;subst e2;refine ⟨m,ρ1,xs1,fun j=>if j=f.1 then w1.heap.size else gs j,j1,fun q hq=>?_,⟨j3.os,j3.tape,j3.output,l5 j3.size hB.size,fun b hlt hn=>(hB.block b (by have:=j3.size;omega)).trans (j3.block b hlt hn)⟩,l5 j4 hB.size,j5,fun f' hf' hL=>?_,fun f1 h1 f2 h2 hne hL1 hL2=>?_,⟨l5 hn1 hB.size,?_⟩,fun t x hx=>?_,fun j hj hjL hjf=>?_⟩
   ·dsimp only;rw [b7 ((hfn f hfm).2 q hq)];exact j2 q hq
   ·dsimp only at hL ⊢
    by_cases e:f'.1=f.1
    ·have:f'=f:=by
      obtain ⟨a,ha⟩:=bD4 hf';obtain ⟨b,hb⟩:=bD4 hfm
      have:=xV (i:=a) (j:=b) (a:=f.1) dh (by rw [y9,ha];simp [e]) (by rw [y9,hb];rfl)
      subst this;rw [ha] at hb;exact q9 hb
     subst this;rw [g8 rfl,g8 rfl];exact ⟨rfl,Blk.new _ _ _,j4⟩
    ·rw [b7 e] at hL;rw [b7 e,b7 e];obtain ⟨a,b,d⟩:=j6 f' hf' hL;exact ⟨a,b.up hB,d⟩
   ·dsimp only at hL1 hL2 ⊢
    by_cases e1:f1.1=f.1
    ·by_cases e2:f2.1=f.1
     ·exact absurd (e1.trans e2.symm) hne
     ·rw [b7 e2] at hL2;rw [g8 e1,b7 e2]
      have:=(hgl f2 h2 hL2).2;omega
    ·rw [b7 e1] at hL1
     by_cases e2:f2.1=f.1
     ·rw [b7 e1,g8 e2]
      have:=(hgl f1 h1 hL1).2;omega
     ·rw [b7 e2] at hL2;rw [b7 e1,b7 e2];exact j7 f1 h1 f2 h2 hne hL1 hL2
   ·refine j8.anew hB rfl rfl hbA (fun b hb=>?_) (Kept.refl _ _) (fun id r b hr hb=>.inr ⟨id,r,hr,hb⟩)
    by_cases hlt:b < w1.heap.size
    ·obtain ⟨a1,a2⟩:=j8.a0 b (hbA b hlt hb);exact ⟨bCx hlt hB.size,a2⟩
    ·rcases hb with hb|⟨f',hf',hL,rfl⟩
     ·have:=(j8.a0 b (.inl hb)).1
      exact absurd this hlt
     ·dsimp only at hL hlt ⊢
      have e:f'.1=f.1:=v7 fun e=>by
       rw [b7 e] at hL;rw [b7 e] at hlt;exact hlt (hgl f' hf' hL).2
      rw [g8 e];exact ⟨(Blk.new w1 f.2.2.2.2.toArray f.2.2.2.1).lt,fun ⟨id,r,hr,hb2⟩=>by have:=j8.lt hr hb2;omega⟩
   ·obtain ⟨v,a,b⟩:=j9 t x hx;exact ⟨v,a,b.up hB.size (fun b hlt _=>hB.block b hlt) hAA (a7 _)⟩
   ·dsimp only at hjL ⊢
    have hne:j≠f.1:=fun e=>by rw [e,hfi] at hjf;cases hjf
    rw [b7 hne] at hjL ⊢;exact (j10 j hj hjL hjf).up hB.size (fun b hlt _=>hB.block b hlt) hAA (a7 _)
 |false =>
  have H:=head i o hi ho hfi
  obtain ⟨T,TS,HT⟩:=H.head;rw [sE] at TS
  have hTL:∀ j t x,j < i→aZ ops j=some t→hlk T t=some x→L j=true∧inF F j=false:=fun j t x hj hd hx=>by
   refine ⟨hE j (by
    rcases (ok.looks i o t hi ho (qRn (TS t x hx))).1 j (by omega) hd with h|h
    ·exact h.2
    ·have:=zLz ok h;omega),?_⟩
   cases hf:inF F j with
  |false=>rfl
  |true =>
    obtain ⟨f,hfm,rfl⟩:=birth j hf
    have h1:=hfdst f hfm
    rw [hd] at h1
    cases h1
    have h2:=hfs i hi
    rw [ho] at h2;simp only [o8,bEp] at h2;exact absurd rfl (h2 _ (TS _ x hx) f hfm)
  have hfne:∀ f ∈ F,f.1≠i:=fun f hf e=>by rw [zEw.2 ⟨f,hf,e⟩] at hfi;cases hfi
  have J0:=J
  obtain ⟨j1,j2,j3,j4,j5,j6,j7,⟨hn1,j8⟩,j9,j10⟩:=J
  have hbL:∀ b,bA c F (fun j=>if j=i then true else L j) gs b↔bA c F L gs b:=fun b=>by
   have:∀ f ∈ F,(if f.1=i then true else L f.1)=L f.1:=fun f hf=>b7 (hfne f hf)
   constructor
   ·rintro (h|⟨f,hf,hL,e⟩)
    ·exact .inl h
    ·dsimp only at hL;rw [this f hf] at hL;exact .inr ⟨f,hf,hL,e⟩
   ·rintro (h|⟨f,hf,hL,e⟩)
    ·exact .inl h
    ·refine .inr ⟨f,hf,?_,e⟩;dsimp only;rw [this f hf];exact hL
  rcases HT with ⟨q,hq,hqi,hlo,hgd,FT,hS⟩|⟨hno,hi',hh1,hh2,hh3,hh4,FT,hrun⟩
  ·have hmq:m=q:=by
    have a:¬ q < m:=fun e=>by have:=(j2 q hq).2 e;rw [hqi,hLi] at this;cases this
    rcases bAo q with e|e
    ·omega
    ·obtain ⟨p,rfl⟩:∃ p,q=p + 1:=⟨q - 1,by omega⟩
     have e2:=(hw0.up p hq).2
     rw [hqi] at e2
     have:=(j2 p (by omega)).1 (qPu hdn hE e2)
     omega
   subst hmq
   have GT:=frame hn1 J0 j8 (by omega) (a7 _) FT hTL
   refine ⟨true,by rw [hgd];rfl,fun _=>?_,fun e=>by cases e⟩
   refine (oV (fun x X hx=>by simp [evD,hx]) (hS _ _ w1 ρ1 xs1 GT)).mono fun u w2 ⟨ρ2,xs2,G2,r2,tr⟩=>?_
   have K2:=G2.kept
   have K2s:w1.heap.size≤w2.heap.size:=K2.size
   have hnew:∀ id r b,rlk (sts.getD (m + 1) []) id=some r→(ρ2 id).ownBlock=some b→w1.heap.size≤b∨fR ρ1 (sts.getD m []) b:=fun id r b hr hb=>((G2.rows id r hr).new b hb).1
   have hAA:∀ b,(bA c F (fun j=>if j=i then true else L j) gs b∨fR ρ2 (sts.getD (m + 1) []) b)→(bA c F L gs b∨fR ρ2 (sts.getD (m + 1) []) b):=fun b h=>h.imp (hbL b).1 _root_.id
   have cv:∀ v x,RepH w2 (fun b=>bA c F L gs b∨fR ρ2 (sts.getD (m + 1) []) b) c.n0 ρ2 v x→RepH w2 (fun b=>bA c F (fun j=>if j=i then true else L j) gs b∨fR ρ2 (sts.getD (m + 1) []) b) c.n0 ρ2 v x:=fun v x h=>h.up (a7 _) (fun _ _ _=>rfl) (fun b _=>hAA b) (a7 _)
   refine ⟨m + 1,ρ2,xs2,gs,hq,fun p hp=>?_,?_,l5 j4 K2s,?_,fun f hf hL=>?_,fun f hf f' hf' hne hL hL'=>?_,⟨l5 hn1 K2s,?_⟩,fun t x hx=>?_,fun j hj hjL hjf=>?_⟩
   ·dsimp only
    by_cases e:wAt W p=i
    ·rw [g8 e]
     have:p=m:=by
      rcases bAw p m with h|h|h
      ·have:=hw0.mono h hq;omega
      ·exact h
      ·have:=hw0.mono h hp;omega
     simp;omega
    ·rw [b7 e,j2 p hp]
     have:p≠m:=fun e2=>e (by rw [e2];exact hqi)
     omega
   ·refine j3.trans K2 fun k hk hT=>?_
    obtain ⟨id,r,hr,hb⟩:=hT
    rcases j5 id r k hr hb with h|h
    ·omega
    ·exact h
   ·intro id r b hr hb
    rcases hnew id r b hr hb with h|⟨id',r',hr',hb'⟩
    ·have:=j3.size;exact .inl (by omega)
    ·exact j5 id' r' b hr' hb'
   ·dsimp only at hL ⊢;rw [b7 (hfne f hf)] at hL ⊢;obtain ⟨a,b,d⟩:=j6 f hf hL;obtain ⟨a1,a2⟩:=j8.a0 (gs f.1) (.inr ⟨f,hf,hL,rfl⟩);refine ⟨a,?_,d⟩;unfold Blk;rw [K2.block _ a1 a2];exact b
   ·dsimp only at hL hL';rw [b7 (hfne f hf)] at hL;rw [b7 (hfne f' hf')] at hL';exact j7 f hf f' hf' hne hL hL'
   ·refine G2.anew (Below.refl _ _) rfl rfl (fun b _ hb=>(hbL b).1 hb) (fun b hb=>?_) (Kept.refl _ _) (fun id r b hr hb=>.inr ⟨id,r,hr,hb⟩)
    obtain ⟨a1,a2⟩:=G2.a0 b ((hbL b).1 hb);refine ⟨bCx a1 K2s,fun ⟨id,r,hr,hb2⟩=>?_⟩
    rcases hnew id r b hr hb2 with h|h
    ·have:b < w1.heap.size:=a1
     omega
    ·exact a2 h
   ·obtain ⟨v,a,b⟩:=j9 t x hx;refine ⟨v,a,?_⟩;rw [qB5 W x (g7 _)];exact cv _ _ (tr _ _ b)
   ·dsimp only at hjL ⊢
    by_cases e:j=i
    ·subst e;rw [g8 rfl,hlo,qAr W _ (a7 _)];exact cv _ _ r2
    ·rw [b7 e] at hjL ⊢
     have hle:loF W rg j≤m:=by
      obtain ⟨oj,hoj⟩:∃ oj,ops[j]?=some oj:=⟨_,c9 (by have:=ok.hn;omega)⟩
      obtain ⟨Tj,-,HTj⟩:=(head j oj hj hoj hjf).head
      rcases HTj with ⟨q2,hq2,hqi2,hlo2,-⟩|⟨-,_,-,-,hh3,hh4,-⟩
      ·have:=(j2 q2 hq2).1 (by rw [hqi2];exact hjL)
       omega
      ·rcases hh3 with e2|e2
       ·omega
       ·rw [jZ] at e2
        have h1:=qFd hdn e2 hjL
        rcases bAo (loF W rg j) with e3|e3
        ·omega
        ·have:=(j2 (loF W rg j - 1) (by omega)).1 h1
         omega
     rw [qB5 W _ hle];exact cv _ _ (tr _ _ (j10 j hj hjL hjf))
  ·have hlm:loF W rg i≤m:=by
    rcases hh3 with e|e
    ·omega
    ·rw [jZ] at e
     have h1:=qPu hdn hE e
     rcases bAo (loF W rg i) with e3|e3
     ·omega
     ·have:=(j2 (loF W rg i - 1) (by omega)).1 h1
      omega
   have hmh:m≤hi':=by
    rcases hh2 with e|e
    ·omega
    ·rcases s4 hi' m with h|h
     ·rw [jZ] at e
      have h1:=(j2 hi' (by omega)).2 h
      have:=qFd hdn e h1
      rw [hLi] at this;cases this
     ·exact h
   have GT:=frame hn1 J0 j8 (by omega) hmh FT hTL
   obtain ⟨b,b1,b2,b3⟩:=hrun m hlm hmh _ _ w1 ρ1 xs1 GT;rw [sE] at b1
   have step:∀ (u:Value) (w2:World),RepH w2 (fun b=>bA c F L gs b∨fR ρ1 (sts.getD m []) b) c.n0 ρ1 u (hs i)→Below w1.heap.size w1 w2→∃ m ρ xs gs,Jn (fun j=>if j=i then true else L j) (fun j=>if j=i then u else vs j) w2 m ρ xs gs:=by
    intro u w2 hu hB
    have hAA:∀ b,b < w1.heap.size→(bA c F (fun j=>if j=i then true else L j) gs b∨fR ρ1 (sts.getD m []) b)→(bA c F L gs b∨fR ρ1 (sts.getD m []) b):=fun b _ h=>h.imp (hbL b).1 _root_.id
    refine ⟨m,ρ1,xs1,gs,j1,fun q hq=>?_,⟨j3.os.symm ▸ hB.os,j3.tape.symm ▸ hB.tape,j3.output.symm ▸ hB.output,l5 j3.size hB.size,fun b hlt hn=>(hB.block b (by have:=j3.size;omega)).trans (j3.block b hlt hn)⟩,l5 j4 hB.size,j5,fun f hf hL=>?_,fun f hf f' hf' hne hL hL'=>?_,⟨l5 hn1 hB.size,?_⟩,fun t x hx=>?_,fun j hj hjL hjf=>?_⟩
    ·dsimp only;rw [b7 (hno q hq)];exact j2 q hq
    ·dsimp only at hL ⊢;rw [b7 (hfne f hf)] at hL ⊢;obtain ⟨a,b,d⟩:=j6 f hf hL;exact ⟨a,b.up hB,d⟩
    ·dsimp only at hL hL';rw [b7 (hfne f hf)] at hL;rw [b7 (hfne f' hf')] at hL';exact j7 f hf f' hf' hne hL hL'
    ·refine j8.anew hB rfl rfl (fun b _ hb=>(hbL b).1 hb) (fun b hb=>?_) (Kept.refl _ _) (fun id r b hr hb=>.inr ⟨id,r,hr,hb⟩)
     obtain ⟨a1,a2⟩:=j8.a0 b ((hbL b).1 hb);exact ⟨bCx a1 hB.size,a2⟩
    ·obtain ⟨v,a,b⟩:=j9 t x hx;exact ⟨v,a,b.up hB.size (fun b hlt _=>hB.block b hlt) hAA (a7 _)⟩
    ·dsimp only at hjL ⊢
     by_cases e:j=i
     ·subst e;rw [g8 rfl];refine qZ1 (m:=loF W rg j) ?_ m hlm;rw [qAr W _ (a7 _)];exact hu.up (a7 _) (fun _ _ _=>rfl) (fun b _ h=>h.imp (hbL b).1 _root_.id) (a7 _)
     ·rw [b7 e] at hjL ⊢;exact (j10 j hj hjL hjf).up hB.size (fun b hlt _=>hB.block b hlt) hAA (a7 _)
   refine ⟨b,b1,fun hb=>?_,fun hb=>?_⟩
   ·exact (oV (fun x X hx=>by simp [evD,hx]) (b2 hb)).mono fun u w2 ⟨hu,hB⟩=>step u w2 hu hB
   ·refine step undef w1 ?_ (Below.refl _ _);rw [b3 hb];exact .v _
 ·rintro L vs w1 ⟨m,ρ1,xs1,gs,J⟩ hall
  have hmr:m=W.length:=by
   obtain ⟨j1,j2,-⟩:=J
   rcases s4 m W.length with h|h
   ·have:=(j2 m h).1 (hall _ (hw0.lt m h));omega
   ·omega
  subst hmr
  have J0:=J
  obtain ⟨j1,j2,j3,j4,j5,j6,j7,⟨hn1,j8⟩,j9,j10⟩:=J
  have hin:∀ f ∈ F,L f.1=true:=fun f hf=>hall _ (hfn f hf).1.1
  have FO:FrA (fW F 0 ops) S.env hs (loF W rg) W n W.length (zPy F E1):=F1.env fun t x hx=>by
   rw [qAw] at hx;split at hx
   ·cases hx
   ·exact hx
  have G2:=frame hn1 J0 j8 (a7 _) (a7 _) FO fun j t x hj hd hx=>by
   refine ⟨hall j hj,?_⟩
   cases hf:inF F j with
  |false=>rfl
  |true =>
    obtain ⟨f,hfm,rfl⟩:=birth j hf
    have h1:=hfdst f hfm
    rw [hd] at h1
    cases h1
    rw [qAw,g8 (show inD F f.2.1=true from bBs.2 ⟨f,hfm,by simp⟩)] at hx
    cases hx
  have bk:=qP6 hbk
  obtain ⟨c',ρ',xs',G3,w3,n3,b3,a3,t3⟩:=Good.births (gs:=gs) (F:=F) G2 di (fun f hf f' hf' hne=>j7 f hf f' hf' hne (hin f hf) (hin f' hf')) dh (fun f hf=>by
   obtain ⟨p1,p2,p3⟩:=j6 f hf (hin f hf);refine ⟨.inr ⟨f,hf,hin f hf,rfl⟩,p2,(bth f hf).2.2,by have:=c.hn;show c.n0≤gs f.1;omega,?_,fun k h hk=>?_,(bk f hf).2⟩
   ·rw [(nN (l:=l') (vs:=vs) hlt (base:=Array.replicate N undef) (by simp) (hfdst f hf) (fun q hq hne e=>hne (uniq q f.1 _ hq (hfn f hf).1.1 e (hfdst f hf))) n (a7 _) (hfn f hf).1.1).1,p1]
   ·rw [qAw] at hk;split at hk
    ·cases hk
    ·exact (bk f hf).1 k h hk)
  have G4:Good c ⟨bEn F (zPy F E1),bSt F (sts.getD W.length [])⟩ (lk (iG l' ops vs n)) w1 ρ' xs':=by
   refine G3.anew (Below.refl _ _) (by rw [n3]) (by rw [b3]) (fun b _ hb=>(a3 b).2 ⟨.inl hb,fun f hf e=>?_⟩) G.a0 j3 (fun id r b hr hb=>?_)
   ·have:=(G.a0 b hb).1
    have:=(j6 f hf (hin f hf)).2.2
    omega
   ·rcases ((G3.rows id r hr).new b hb).1 with h|h
    ·rw [w3] at h
     have:=j3.size
     exact .inl (by have h:w1.heap.size≤b:=h;omega)
    ·rcases (t3 b).1 h with ⟨id',r',hr',hb'⟩|⟨f,hf,rfl⟩
     ·exact j5 id' r' b hr' hb'
     ·have:=(j6 f hf (hin f hf)).2.2
      exact .inl (by omega)
  have G5:Good c ⟨bEn F E1,bSt F (sts.getD W.length [])⟩ (lk (iG l' ops vs n)) w1 ρ' xs':=by
   refine ⟨G4.rows,G4.apart,fun k x hk=>?_,G4.kept,G4.a0⟩
   refine G4.env k x (zXl F (fun k x hk hx=>?_) k x hk)
   rw [qAw,b7 (by rw [hk];decide)];exact hx
  exact HW_drw.V2.mono' (uX _ _ _ _ h1 ⟨ρ',xs',G5⟩) fun l2 w2 h2=>h2
theorem qWh:∀ (l:List Oper) (i:Nat),fW [] i l=l
|[],_=>rfl
|o :: r,i=>congrArg (o :: ·) (qWh r (i + 1))
theorem fT {id:Nat} {ops:List Oper} (n:Nat) (W:Ws) (sts:List aC) (rg:Rg) (hm:P.follows .mixedOrders=true) (hok:qKt (cN S.env) ops n=true) (hwk:zUd ops n W rg=true) (hs0:sts.getD 0 []=S.st)
  (h:∀ K:HS→Prop,(∀ S',Q .normal S'→K S')→∀ K1:HS→Prop,(∀ S',iJ (HV2 P N (cJ ops) K (ops.drop n)) S'→K1 S')→HVc P N (cJ ops) sts rg (fun E=>K1 ⟨E,sts.getD W.length []⟩) (ops.take n) 0 0 [] W S.env):HW P N (.region id ops.toArray true) Q S:=by
 refine qSp n W sts rg [] hm hok hwk ?_ trivial hs0 fun K hK K1 h1=>?_
 ·simp only [yDq,m4,dup,List.all_nil,bDc,bB4,o8];intro i _;split <;> simp
 ·rw [qWh]
  simpa only [qMk,bEn,bSt,bD8] using h K hK K1 h1
end
theorem qEq (i:Nat):inF [] i=false:=nrc rfl
theorem qAu (a:Nat) (x:Nat × Nat × TypeId × List Value) (r:lP) (i:Nat):inF ((a,x) :: r) i=(a == i || inF r i):=nrc rfl
theorem wT (F:lP) (i:Nat):fW F i []=[]:=nrc rfl
theorem sF (F:lP) (i:Nat) (o:Oper) (r:List Oper):fW F i (o :: r)=(bif inF F i then qPv o else o) :: fW F (i + 1) r:=nrc rfl
theorem qA2 (d:Option Nat) (op:Op) (ty:TypeId) (p:String) (a:Array Edge) (g:Option (Nat × Bool)):qPv ⟨d,op,ty,p,a,g⟩=⟨d,.move (.const (.bool false)),ty,p,a,g⟩:=nrc rfl
theorem qFj (st:aC):bSt [] st=st:=nrc rfl
theorem qA6 (a d id:Nat) (t:TypeId) (z:List Value) (r:lP) (st:aC):bSt ((a,d,id,t,z) :: r) st=(id,.bx true t (z.map .v)) :: bSt r st:=nrc rfl
theorem qFk (E:aT):bEn [] E=E:=nrc rfl
theorem qA7 (a d id:Nat) (t:TypeId) (z:List Value) (r:lP) (E:aT):bEn ((a,d,id,t,z) :: r) E=(d,.ptr id z.length 0 0) :: bEn r E:=nrc rfl
theorem wW (E:aT) (st:aC):qMk [] E st=True:=nrc rfl
theorem sP (a d id:Nat) (t:TypeId) (z:List Value) (r:lP) (E:aT) (st:aC):qMk ((a,d,id,t,z) :: r) E st=((jN (only id) E=E∧dN (only id) st=st)∧qMk r E st):=nrc rfl
end Go.Eng
namespace Go.Tr
open Go Go.Eng
def qCy (out:List Ent) (e:Ent):List Ent:=out.takeWhile (fun x=>blt x.1 e.1) ++ e :: out.dropWhile (fun x=>blt x.1 e.1)
def iM (t:List Ent):List Ent:=t.foldl qCy []
def yCe {out:List Ent} {e:Ent} {i:Nat} (hi:i≤out.length) (h1:∀ j (h:j < out.length),j < i→blt out[j].1 e.1=true) (h2:i=out.length∨∃ h:i < out.length,blt out[i].1 e.1=false):qCy out e=out.take i ++ [e] ++ out.drop i:=by
 have key:∀ (out:List Ent) (i:Nat),i≤out.length→(∀ j (h:j < out.length),j < i→blt out[j].1 e.1=true)→(i=out.length∨∃ h:i < out.length,blt out[i].1 e.1=false) →
   out.takeWhile (fun x=>blt x.1 e.1)=out.take i∧out.dropWhile (fun x=>blt x.1 e.1)=out.drop i:=by
  intro out
  induction out with
 |nil=>intro i hi _ _;simp
 |cons x r ih =>
   intro i hi h1 h2
   cases i with
  |zero =>
    rcases h2 with h2|⟨h,h2⟩
    ·simp at h2
    ·simp only [l6] at h2;simp [bBz,bB0,h2]
  |succ i =>
    have hx:=h1 0 (by simp) (by omega)
    simp only [l6] at hx;obtain ⟨a,b⟩:=ih i (by simpa using hi) (fun j hj hji=>by have:=h1 (j + 1) (by simpa using hj) (by omega);simpa using this) (by
     rcases h2 with h2|⟨h,h2⟩
     ·left;simpa using h2
     ·right;exact ⟨by simpa using h,by simpa using h2⟩)
    simp [bBz,bB0,hx,a,b]
 obtain ⟨a,b⟩:=key out i hi h1 h2;rw [qCy,a,b];simp
def zQu (out:List Ent) (e:Ent):(qCy out e).length=out.length + 1:=by
 have:=congrArg List.length (bCi (p:=fun x:Ent=>blt x.1 e.1) (l:=out))
 rw [i8] at this;rw [qCy,i8,i6];omega
def qTb:∀ (t out:List Ent),(t.foldl qCy out).length=out.length + t.length
|[],out=>rfl
|e :: t,out=>by rw [bAu,qTb t,zQu,i6];omega
end Go.Tr
namespace Go.Proofs.Y
open Go Go.Eng Go.RowKit Go.Tr
def zNi (t:List Ent) (hl:t.length≤2097152):HFun Tryz.prog 35 [.lst false (aG t)] (fun h st=>h=.own 0∧st=[(0,rowE (iM t))]):=by
 refine bP (N:=51) Tryz.func35 rfl Tryz.ntmps35 Tryz.results35 (by simp) ?_
 refine goA 7 ?_;push_cast;refine goW 3 296 44 3 rfl ?_;refine goL (fun x:Nat × List Ent=>⟨[(0,.lst false (aG t)),(3,.own 296),(4,.v (.int .i64 x.1))],[(296,rowE x.2)]⟩) (fun x=>x.1≤t.length∧x.2=(t.take x.1).foldl qCy []) (fun x=>t.length - x.1) [0,3,4] [296] (0,[]) (by push_cast <;> rfl) ⟨g7 _,rfl⟩ ?_
 rintro ⟨i,out⟩ ⟨hi,ho⟩;simp only at hi ho
 have hol:out.length=i:=by rw [ho,qTb,l7];simp;omega
 by_cases hlt:i < t.length
 ·refine goA 5 ?_;push_cast(disch:=omega)[yV];refine goL (fun x:Nat=>⟨[(0,.lst false (aG t)),(3,.own 296),(4,.v (.int .i64 i)),(5,.v (.int .i64 x))],[(296,rowE out)]⟩) (fun x=>x≤out.length∧∀ j (h:j < out.length),j < x→blt out[j].1 t[i].1=true) (fun x=>out.length - x) [0,3,4,5] [296] 0 (by push_cast <;> rfl) ⟨g7 _,fun j _ h=>absurd h (y5 _)⟩ ?_
  rintro k ⟨hk,hb⟩
  have fin:(k=out.length∨∃ h:k < out.length,blt out[k].1 t[i].1=false)→qCy out t[i]=out.take k ++ [t[i]] ++ out.drop k:=yCe hk hb
  by_cases hkl:k < out.length
  ·cases hb2:blt out[k].1 t[i].1 with
  |true =>
    have hb3:Op.bytesLess out[k].1.toList t[i].1.toList=true:=hb2
    refine goA 1 ?_;push_cast;refine mA 17 mixed (by kernel_rfl) (fun K hK K1 hK1=>?_);push_cast(disch:=omega)[yV,yU,yW hkl,yW hlt,hb3]
    refine hK1 _ ?_;(try clear hK1 K1);with_reducible refine aS ?_;push_cast[yV,yU,yW hkl,yW hlt,hb3]
    refine hK _ ?_;clear hK K;refine goK 3 ?_;push_cast(disch:=omega);refine ⟨k + 1,by push_cast <;> rfl,⟨hkl,fun j hj h=>?_⟩,by omega⟩
    by_cases e:j=k
    ·subst e;exact hb2
    ·exact hb j hj (by omega)
  |false =>
    have hb3:Op.bytesLess out[k].1.toList t[i].1.toList=false:=hb2
    have he:=fin (.inr ⟨hkl,hb2⟩)
    refine goA 1 ?_;push_cast;refine mA 17 mixed (by kernel_rfl) (fun K hK K1 hK1=>?_);push_cast(disch:=omega)[yV,yU,yW hkl,yW hlt,hb3]
    refine hK1 _ ?_;(try clear hK1 K1);with_reducible refine aS ?_;push_cast[yV,yU,yW hkl,yW hlt,hb3]
    refine hK _ ?_;clear hK K;refine goK 1 ?_;push_cast;refine goP [0,3,4,5] [296] ?_;refine goR 296 rfl ?_
    have ht:(aG out).take out.length=aG out:=m9 (by rw [yV];exact a7 _)
    refine goA 3 ?_;push_cast(disch:=omega)[yV,yU,ht,qCg,y7];(repeat ((with_reducible constructor);focus first|omega|decide))
    refine goP [0,3,4,5,6] [256] ?_;refine goR 256 rfl ?_;refine fT 13 [(0,some 296),(4,some 296),(10,some 296),(12,some 296)] [[],[(296,rowE [])],[(296,rowE (out.take k))],[(296,rowE (out.take k ++ [t[i]]))],[(296,rowE (out.take k ++ [t[i]] ++ out.drop k))]] [] mixed (by kernel_rfl) (by kernel_rfl) rfl (fun K hK K1 hK1=>?_);push_cast(disch:=omega)[yV,yU,wQ,qCg,yW hlt,bAf]
    have l1:(out.take k).length≤2097152:=by rw [l7];omega
    have l2:(out.take k).length + (out.drop k).length=out.length:=by rw [l7,y7];omega
    refine ⟨rfl,by show _ * 40≤_;omega,rfl,⟨of_eq_true (yU [t[i]]),by show _ * 40≤_;omega⟩,by rw [mY],by show _ * 40≤_;omega,by rw [qFc],?_⟩
    rw [← he];refine hK1 _ ?_;(try clear hK1 K1);with_reducible refine aS ?_;push_cast
    refine hK _ ?_;clear hK K;refine goK 3 ?_;push_cast(disch:=omega);refine ⟨(i + 1,qCy out t[i]),by push_cast <;> rfl,⟨hlt,?_⟩,by dsimp only;omega⟩
    dsimp only;rw [d7 hlt,bC8,← ho];rfl
  ·have hkk:k=out.length:=by omega
   have he:=fin (.inl hkk)
   refine goA 1 ?_;push_cast;refine mA 17 mixed (by kernel_rfl) (fun K hK K1 hK1=>?_);push_cast(disch:=omega)[yV]
   refine hK1 _ ?_;(try clear hK1 K1);with_reducible refine aS ?_;push_cast[yV]
   refine hK _ ?_;clear hK K;refine goK 1 ?_;push_cast;refine goP [0,3,4,5] [296] ?_;refine goR 296 rfl ?_
   have ht:(aG out).take out.length=aG out:=m9 (by rw [yV];exact a7 _)
   refine goA 3 ?_;push_cast(disch:=omega)[yV,yU,ht,qCg,y7];(repeat ((with_reducible constructor);focus first|omega|decide))
   refine goP [0,3,4,5,6] [256] ?_;refine goR 256 rfl ?_;refine fT 13 [(0,some 296),(4,some 296),(10,some 296),(12,some 296)] [[],[(296,rowE [])],[(296,rowE (out.take k))],[(296,rowE (out.take k ++ [t[i]]))],[(296,rowE (out.take k ++ [t[i]] ++ out.drop k))]] [] mixed (by kernel_rfl) (by kernel_rfl) rfl (fun K hK K1 hK1=>?_);push_cast(disch:=omega)[yV,yU,wQ,qCg,yW hlt,bAf]
   have l1:(out.take k).length≤2097152:=by rw [l7];omega
   have l2:(out.take k).length + (out.drop k).length=out.length:=by rw [l7,y7];omega
   refine ⟨rfl,by show _ * 40≤_;omega,rfl,⟨of_eq_true (yU [t[i]]),by show _ * 40≤_;omega⟩,by rw [mY],by show _ * 40≤_;omega,by rw [qFc],?_⟩
   rw [← he];refine hK1 _ ?_;(try clear hK1 K1);with_reducible refine aS ?_;push_cast
   refine hK _ ?_;clear hK K;refine goK 3 ?_;push_cast(disch:=omega);refine ⟨(i + 1,qCy out t[i]),by push_cast <;> rfl,⟨hlt,?_⟩,by dsimp only;omega⟩
   dsimp only;rw [d7 hlt,bC8,← ho];rfl
 ·have hii:i=t.length:=by omega
  subst hii;rw [t6] at ho;rw [ho];refine goA 5 ?_;push_cast(disch:=omega)[yV];exact iQ rfl (dD _) ⟨rfl,rfl⟩
end Go.Proofs.Y
namespace Go.Tr
open Go
def vM (t:List Ent):Prop:=t.Pairwise fun x y=>blt y.1 x.1=false
def qEi {a b c:Ba} (h1:blt b a=false) (h2:blt c b=false):blt c a=false:=by
 cases e:blt c a with
|false=>rfl
|true =>
  rcases xX a b with h|h|h
  ·rw [nC e h] at h2;cases h2
  ·rw [← h,e] at h2;cases h2
  ·rw [h] at h1;cases h1
def zAo {out:List Ent} {e:Ent} (h:vM out):vM (qCy out e):=by
 unfold qCy
 induction out with
|nil=>simp [vM]
|cons x r ih =>
  obtain ⟨hx,hr⟩:=w8.1 h
  cases hb:blt x.1 e.1 with
 |true =>
   simp only [bBz,bB0,hb,bBm,u5];refine w8.2 ⟨fun y hy=>?_,ih hr⟩
   rcases m8.1 hy with hy|hy
   ·exact hx y ((List.takeWhile_sublist _).subset hy)
   ·rcases l3.1 hy with rfl|hy
    ·exact oR hb
    ·exact hx y ((List.dropWhile_sublist _).subset hy)
 |false =>
   simp only [bBz,bB0,hb,bA0,bCz,u4];refine w8.2 ⟨fun y hy=>?_,h⟩
   rcases l3.1 hy with rfl|hy
   ·exact hb
   ·exact qEi hb (hx y hy)
def zJt (out:List Ent) (e:Ent):(qCy out e).Perm (e :: out):=by
 unfold qCy;refine bD2.trans (List.Perm.cons e ?_);rw [bCi]
def qKe:∀ (t out:List Ent),vM out→vM (t.foldl qCy out)
|[],out,h=>h
|e :: t,out,h=>by rw [bAu];exact qKe t _ (zAo h)
def qNu:∀ (t out:List Ent),(t.foldl qCy out).Perm (out ++ t)
|[],out=>by simp
|e :: t,out=>by
  rw [bAu];refine (qNu t _).trans ?_;refine (List.Perm.append_right t (zJt out e)).trans ?_;exact (bD2 (l₁:=out)).symm
def qHc (t:List Ent):vM (iM t):=qKe t [] .nil
def jS (t:List Ent):(iM t).Perm t:=qNu t []
def qUr {l X:List Ent} (hn:vM l) (h:rise X) (hp:l.Perm X):l=X:=by
 refine List.Perm.eq_of_pairwise (le:=fun x y:Ent=>blt y.1 x.1=false) (fun a b ha hb h1 h2=>?_) hn (h.imp fun hh=>oR hh) hp
 have he:a.1=b.1:=by
  rcases xX a.1 b.1 with h|h|h
  ·rw [h] at h2;cases h2
  ·exact h
  ·rw [h] at h1;cases h1
 have ha':a ∈ X:=hp.mem_iff.1 ha
 obtain ⟨i,hi,rfl⟩:=p9 ha';obtain ⟨j,hj,rfl⟩:=p9 hb
 have:=zNs h hi hj he
 subst this;rfl
def zUw {l X:List Ent} (h:rise X) (hp:l.Perm X):iM l=X:=qUr (qHc l) h ((jS l).trans hp)
open Go.Eng Go.RowKit Go.Proofs Go.Sort
def qNi (e:Ent):List Value:=[.string e.1,.int .i64 e.2.1,.string e.2.2]
def qV9:∀ (t:List Ent) (i k:Nat) (hi:i < t.length),k < 3→(iF t)[i * 3 + k]?=(qNi t[i])[k]?
|[],i,k,hi,_=>by simp at hi
|e :: r,0,k,hi,hk=>by
  match k,hk with
 |0,_=>rfl
 |1,_=>rfl
 |2,_=>rfl
|e :: r,i + 1,k,hi,hk=>by
  have:=qV9 r i k (by simpa using hi) hk
  rw [show (i + 1) * 3 + k=i * 3 + k + 1 + 1 + 1 by omega]
  simpa [iF] using this
def qR8 (d:Array Ent):flatK qNi 3 d=(iF d.toList).toArray:=by
 apply bC0
 intro p
 by_cases hp:p < d.size * 3
 ·have h1:p / 3 < d.toList.length:=by rw [q7];omega
  have h2:=qV9 d.toList (p / 3) (p % 3) h1 (by omega)
  rw [show p / 3 * 3 + p % 3=p by omega] at h2
  have h5:(iF d.toList).toArray[p]?=(iF d.toList)[p]?:=r8
  rw [h5,h2]
  have h3:(qNi d.toList[p / 3]).length=3:=rfl
  rw [c9 (by omega),v8 (by simpa using hp)]
  have h4:=get_flatK qNi 3 d p hp
  rw [getElem!_pos _ p (by simpa using hp),getElem!_pos d (p / 3) (by simpa using h1),getElem!_pos _ (p % 3) (by show _ < 3;omega)] at h4
  rw [h4];simp only [bAb]
 ·rw [bDs (by simpa using hp),bDs (by rw [bAq,kK,q7];omega)]
end Go.Tr
namespace Go.Proofs.Y
open Go Go.Eng Go.RowKit Go.Tr Go.Lib Go.Sort
def zZl:SWO (ltOf fun x y:Ent=>qH9 x.1 y.1) where
 irrefl x:=by rw [ltOf,qFi];exact nR _
 trans x y z h1 h2:=by rw [ltOf,qFi] at *;exact nC h1 h2
 ntrans x y z h1 h2:=by rw [ltOf,qFi] at *;exact qEi h2 h1
def qSk (x y:Ent) (W:World):Calls Tryz.prog 68 #[.agg #[.string x.1,.int .i64 x.2.1,.string x.2.2],.agg #[.string y.1,.int .i64 y.2.1,.string y.2.2]] W fun e w'=>e=.returned (.int .i64 (qH9 x.1 y.1))∧∃ q os',w'=grow (W.drewN q) os':=by
 have hcon:=fun W'=>Tryz.strings_Compare x.1 y.1 W'
 change ∀ W',Calls Tryz.prog 58 _ _ (fun e w'=>e=.returned (.int .i64 (qH9 x.1 y.1))∧w'=W') at hcon
 generalize qH9 x.1 y.1=r at hcon ⊢
 go_enter Tryz.func68,Tryz.ntmps68
 go_wp2_with (go_at_call 58;refine (hcon _).mono ?_;rintro e w' ⟨rfl,rfl⟩)
 go_ret
 exact ⟨rfl,0,_,by rw [alloc_eq_grow,alloc_eq_grow,grow_grow];rfl⟩
def qWx (blk off size:Nat) (w:World):CmpLays Tryz.prog 68 #[] qNi 3 (fun x y=>qH9 x.1 y.1) blk off size w:=fun _ _ _ _ x y=>qSk x y _
def zTh {w:World} {g:Nat} {cs:Array Value} {t:TypeId} (h:Blk w g cs t) (os:Array Obj):Blk (grow w os) g cs t:=by
 have h':w.heap[g]?=_:=h
 show (w.heap ++ os)[g]?=_
 rw [bB2 h.lt,h']
def qTe (w:World) (g cap:Nat) (cur:Array Value) (t:List Ent) (hl:t.length≤4194304) (b1:Blk w g cur 44) (b2:t.length≤cap) (b4:cur.size=cap * 3) (b5:cur.toList.take (t.length * 3)=iF t) :
  Calls Tryz.prog 67 #[.slice (some ⟨g,0,none⟩) t.length cap,.func (.func 68) #[] #[]] w (Ret fun r w'=>r=.tuple #[]∧∃ s,s.Perm t∧vM s∧(w'.os=w.os∧w'.tape=w.tape∧w'.output=w.output∧w.heap.size≤w'.heap.size∧∀ b,b < w.heap.size→b≠g→w'.heap[b]?=w.heap[b]?)∧∃ cur',Blk w' g cur' 44∧cur'.size=cap * 3∧cur'.toList.take (s.length * 3)=iF s):=by
 have hH:HoldsK qNi 3 w g 0 t.toArray:=by
  intro p hpz;rw [qR8] at hpz ⊢;simp only [bAq] at hpz
  have hlen:=kK t
  refine ⟨?_,frozen_of_row w g _ cur 44 b1⟩;rw [b1.cell,s7,getElem!_pos _ p (by simpa using hpz)]
  have:cur.toList[p]?=(iF t)[p]?:=by rw [← b5,o6 (by omega)]
  rw [bB6] at this;rw [this,c9 hpz];simp
 have eg:∀ args w,(callFunc 68 args).run Tryz.prog w=.ok (.enter 68 args) w:=enters_of Tryz.func68 (by kernel_rfl) rfl
 have hcon:=AnyQ.slices_SortFunc Tryz.sortE 3 Tryz.isAgg44 Tryz.sizeOf44 qNi (fun _=>rfl) (fun x v hv=>by simp [qNi] at hv;rcases hv with rfl|rfl|rfl <;> rfl) (fun x y=>qH9 x.1 y.1) zZl 68 #[] g 0 cap t.toArray w eg (qWx g 0 _ w) hH b1.lt (by rw [bAq];omega)
 refine bEc hcon ?_;rintro e w' ⟨rfl,d',n,os,⟨p1,-,p3⟩,hs,rfl⟩
 have hts:t.toArray.size=t.length:=bAq
 rw [hts] at p1 p3 hs
 have hsz:d'.toList.length=t.length:=by rw [q7,p1]
 have hperm:d'.toList.Perm t:=by
  have e1:(d'.extract 0 t.length).toList=d'.toList:=by rw [← p1];simp
  have e2:(t.toArray.extract 0 t.length).toList=t:=by simp
  rw [e1,e2] at p3;exact p3
 have hnod:vM d'.toList:=by
  refine bCa.2 fun i j hi hj hij=>?_
  have:=hs i j (g7 _) hij (by omega)
  rw [ltOf,qFi,getElem!_pos d' j (by simpa using hj),getElem!_pos d' i (by simpa using hi)] at this
  simpa using this
 have hfl:(iF d'.toList).length=t.length * 3:=by rw [kK,hsz]
 have hbn:Blk (w.drewN n) g cur 44:=b1
 obtain ⟨k1,k2⟩:=qFh ((iF d'.toList).map id) 0 hbn (by rw [c8,hfl];omega)
 have hww:sortWorldK qNi 3 w g 0 n d' os=grow ((w.drewN n).setCells g 0 ((iF d'.toList).map id)) os:=by
  have:=putRow_eq_setCells id w g 0 (flatK qNi 3 t.toArray) (iF d'.toList) n hH (by rw [qR8,bAq,hfl,kK])
  rw [sortWorldK,putRowK,qR8,this]
 rw [hww];rw [bEv] at k1 k2 ⊢
 have hcl:cur.toList.length=cap * 3:=by rw [q7,b4]
 refine kX ⟨rfl,d'.toList,hperm,hnod,⟨k2.os,k2.tape,k2.output,?_,fun b hlt hne=>?_⟩,_,zTh k1 os,?_,?_⟩
 ·rw [size_grow,k2.size];exact Nat.le_add_right _ _
 ·have h1:((w.drewN n).setCells g 0 (iF d'.toList)).heap[b]?=w.heap[b]?:=k2.block b hne
  rw [← h1];show (_ ++ os)[b]?=_
  rw [bB2]
  have:=k2.size
  show b < ((w.drewN n).setCells g 0 (iF d'.toList)).heap.size
  rw [this];exact hlt
 ·rw [bAq,eE _ _ _ (by omega),hcl]
 ·show List.take _ (splice _ _ _)=_
  rw [splice,bDv,u4,List.take_left' (by rw [hfl,hsz])]
def zUx {S:HS} {id:Nat} {t:List Ent} (hl:t.length≤4194304) {K:HV→HS→Prop} (hr:rlk S.st id=some (rowE t)) (hK:∀ s:List Ent,s.Perm t→vM s→K (.v (.tuple #[])) ⟨S.env,iC id (rowE s) S.st⟩) :
  HAt Tryz.prog 67 [.own id,.v (.func (.func 68) #[] #[])] S K :=
 ⟨yKp,fun c look w ρ xs vs G R=>by
  obtain ⟨R1,R2⟩:=R
  match vs,R1 with
 |[v0,v1],_ =>
  have r0:=R2 0 (by simp) (by simp)
  have r1:=R2 1 (by simp) (by simp)
  simp only [l6,bAe] at r0 r1
  cases r1
  cases r0
  by_cases h0:t=[]
  ·subst h0;obtain ⟨o1,o2,o3⟩:=dC G hr;obtain ⟨ad,cap,e0⟩:=rN o1;rw [e0];refine bEc (AnyF.slices_SortFunc_none Tryz.sortE ad cap _ w) ?_;rintro e w' ⟨rfl,rfl⟩;exact kX ⟨_,_,hK [] (List.Perm.refl _) .nil,ρ,xs,G.same hr,.v _⟩
  ·obtain ⟨g,cap,cur,e0,b1,b2,b3,b4,b5⟩:=zNp G hr (bEi.2 h0);rw [e0];refine Ret.mono (qTe w g cap cur t hl b1 b2 b4 b5) ?_;rintro r w' ⟨rfl,s,hp,hn,⟨k1,k2,k3,k4,k5⟩,cur',d1,d2,d3⟩
   have hsl:s.length=t.length:=hp.length_eq
   refine ⟨_,_,hK s hp hn,ρ,_,G.upds id (rowE t) (rowE s) (iF s) k4 k1 k2 k3 hr rfl (fun b hlt hb=>k5 b hlt fun e=>hb (by rw [e0,e];rfl)) _ (fun i=>?_) ⟨?_,⟨of_eq_true (yU _),fun i k hi hk=>?_⟩,(G.rows id _ hr).new⟩,.v _⟩
   ·exact iD id _ _ _ hr i
   ·simp only [Row.ty,Row.sz,Row.len,yV];rw [e0,hsl];exact ⟨by rw [kK,hsl],.inr ⟨g,cap,cur',rfl,g7 _,d1,b2,b3,d2,by rw [← hsl];exact d3⟩⟩
   ·obtain ⟨x,h1,h2,h3⟩:=qW s i k hi hk;exact ⟨x,h2,h3,by rw [h1];exact .v x⟩⟩
end Go.Proofs.Y
namespace Go.Proofs.Y
open Go Go.Eng Go.RowKit Go.Tr
def zZb (t:List Ent) (hl:t.length≤140737488355328) (hs:∀ e ∈ t,e.1.size≤1048576):HFun Tryz.prog 69 [.lst false (aG t)] (fun h st=>h=.v (.int .i64 (cZ t))):=by
 refine bP (N:=62) Tryz.func69 rfl Tryz.ntmps69 Tryz.results69 (by simp) ?_
 unfold cZ;refine goA 3 ?_;push_cast
 by_cases h200:200 < t.length
 ·rw [g8 h200];refine goA 5 ?_;push_cast(disch:=omega)[yV];exact aQ rfl
 rw [b7 h200,← yFw];refine goA 5 ?_;push_cast(disch:=omega)[yV];refine goL (fun i:Nat=>⟨[(0,.lst false (aG t)),(9,.lst false (aG t)),(10,.v (.int .i64 t.length)),(11,.v (.int .i64 i))],[]⟩) (fun i=>i≤t.length∧∀ j,j < i→sU t j=true) (fun i=>t.length - i) [0,9,10,11] [] 0 rfl ⟨g7 _,fun j h=>by omega⟩ ?_
 rintro i ⟨hi,ha⟩
 by_cases hlt:i < t.length
 ·have hsz:=hs _ (c7 hlt)
  have bad:sU t i=false→zWi t=false:=fun h=>qHy hlt h
  have c50:HFun Tryz.prog 66 [.v (.string t[i].1),.v (.int .i64 5)] (fun h st=>h=.v (.int .i64 (okN (pOk t[i].1 5)))):=qUj t[i].1 5 hsz (by omega)
  have c17:=zUa t[i].2
  have hA:qCx t i=(pOk t[i].1 5 && (qZ t[i].2 && (!decide (t[i].2.1=0) && (decide (i=0) || blt (atE t (i - 1)).1 t[i].1)))):=by rw [qCx,mH hlt]
  have hr:rise (t.take i):=qFy (fun j hj=>by have:=ha j hj;simp only [sU,g9] at this;exact this.1) hi
  refine goA 5 ?_;push_cast(disch:=omega)[yV,yU,yW hlt]
  have hk0:∀ (m:Nat),(m:Int) + 1 - 1=m:=fun m=>by omega
  cases hp:pOk t[i].1 5 with
 |false =>
   rw [bad (by rw [sU,hA,hp];rfl)]
   rw [hp,zEi] at c50;refine mA 31 mixed (by kernel_rfl) (fun K hK K1 hK1=>?_);push_cast[yV,yU,hk0]
   refine qGo qWn c50 (.cons (.v _) (.cons (.v _) .nil)) ?_;with_reducible refine aS ?_;push_cast[yV,yU,hk0]
   refine hK1 _ ?_;(try clear hK1 K1);with_reducible refine aS ?_;push_cast[hk0]
   refine hK _ ?_;clear hK K;refine goK 3 ?_;push_cast;exact aQ rfl
 |true =>
  rw [hp,zEh] at c50
  cases hw:qZ t[i].2 with
 |false =>
   rw [bad (by rw [sU,hA,hp,hw];rfl)]
   rw [hw] at c17;refine mA 31 mixed (by kernel_rfl) (fun K hK K1 hK1=>?_);push_cast[yV,yU,hk0]
   refine qGo qWn c50 (.cons (.v _) (.cons (.v _) .nil)) ?_;with_reducible refine aS ?_;push_cast[yV,yU,hk0]
   refine qGo zS2 c17 (.cons (bJ (n:=t[i].2)) .nil) ?_;with_reducible refine aS ?_;push_cast[yV,yU,hk0]
   refine hK1 _ ?_;(try clear hK1 K1);with_reducible refine aS ?_;push_cast[hk0]
   refine hK _ ?_;clear hK K;refine goK 3 ?_;push_cast;exact aQ rfl
 |true =>
  rw [hw] at c17
  by_cases hk:t[i].2.1=0
  ·have hkd:decide (t[i].2.1=0)=true:=i7 hk
   rw [bad (by rw [sU,hA,hp,hw,hkd];rfl)]
   refine mA 31 mixed (by kernel_rfl) (fun K hK K1 hK1=>?_);push_cast[yV,yU,hk0]
   refine qGo qWn c50 (.cons (.v _) (.cons (.v _) .nil)) ?_;with_reducible refine aS ?_;push_cast[yV,yU,hk0]
   refine qGo zS2 c17 (.cons (bJ (n:=t[i].2)) .nil) ?_;with_reducible refine aS ?_;push_cast(disch:=omega)[yV,yU,hk0]
   refine hK1 _ ?_;(try clear hK1 K1);with_reducible refine aS ?_;push_cast[hk0]
   refine hK _ ?_;clear hK K;refine goK 3 ?_;push_cast;exact aQ rfl
  have hkd:decide (t[i].2.1=0)=false:=b9 hk
  rw [hp,hw,hkd] at hA;simp only [bB4,bDc] at hA
  cases hpv:(decide (i=0) || blt (atE t (i - 1)).1 t[i].1) with
 |false =>
   rw [bad (by rw [sU,hA,hpv];rfl)]
   simp only [bAx,bA3] at hpv;obtain ⟨m,rfl⟩:∃ m,i=m + 1:=⟨i - 1,by omega⟩
   have hm:m < t.length:=by omega
   have hb:Op.bytesLess t[m].1.toList t[m + 1].1.toList=false:=by
    have:=hpv.2
    rw [bCy,mH hm] at this;exact this
   refine mA 31 mixed (by kernel_rfl) (fun K hK K1 hK1=>?_);push_cast[yV,yU,hk0,yW hm,hb]
   refine qGo qWn c50 (.cons (.v _) (.cons (.v _) .nil)) ?_;with_reducible refine aS ?_;push_cast[yV,yU,hk0,yW hm,hb]
   refine qGo zS2 c17 (.cons (bJ (n:=t[m + 1].2)) .nil) ?_;with_reducible refine aS ?_;push_cast(disch:=omega)[yV,yU,hk0,yW hm,hb]
   refine hK1 _ ?_;(try clear hK1 K1);with_reducible refine aS ?_;push_cast[hk0,yW hm,hb]
   refine hK _ ?_;clear hK K;refine goK 3 ?_;push_cast;exact aQ rfl
 |true =>
  rw [hpv] at hA
  (repeat refine goQ ?_);refine goM (fun _:Unit=>⟨[(0,.lst false (aG t)),(3,.v (.int .i64 i)),(4,.ptr 32 3 0 0),(9,.lst false (aG t)),(10,.v (.int .i64 t.length)),(11,.v (.int .i64 i)),(46,.v (.bool false))],[(32,.bx true 44 [.v (.string t[i].1),.v (.int .i64 t[i].2.1),.v (.string t[i].2.2)])]⟩) (fun _=>True) [0,3,4,9,10,11,46] [32] ?_ ?_
  ·rcases bAo i with rfl|hpos
   ·skip
    refine goA 1 ?_;push_cast;refine mA 31 mixed (by kernel_rfl) (fun K hK K1 hK1=>?_);push_cast[yV,yU,hk0]
    refine qGo qWn c50 (.cons (.v _) (.cons (.v _) .nil)) ?_;with_reducible refine aS ?_;push_cast[yV,yU,hk0]
    refine qGo zS2 c17 (.cons (bJ (n:=t[0].2)) .nil) ?_;with_reducible refine aS ?_;push_cast(disch:=omega)[yV,yU,hk0]
    refine hK1 _ ?_;(try clear hK1 K1);with_reducible refine aS ?_;push_cast[hk0]
    refine hK _ ?_;clear hK K;push_cast;exact ⟨(),trivial⟩
   ·obtain ⟨m,rfl⟩:∃ m,i=m + 1:=⟨i - 1,by omega⟩
    have hm:m < t.length:=by omega
    have hb:Op.bytesLess t[m].1.toList t[m + 1].1.toList=true:=by
     simp only [w9,m7] at hpv
     rcases hpv with h|h
     ·omega
     ·rw [bCy,mH hm] at h;exact h
    refine goA 1 ?_;push_cast;refine mA 31 mixed (by kernel_rfl) (fun K hK K1 hK1=>?_);push_cast[yV,yU,hk0,yW hm,hb]
    refine qGo qWn c50 (.cons (.v _) (.cons (.v _) .nil)) ?_;with_reducible refine aS ?_;push_cast[yV,yU,hk0,yW hm,hb]
    refine qGo zS2 c17 (.cons (bJ (n:=t[m + 1].2)) .nil) ?_;with_reducible refine aS ?_;push_cast(disch:=omega)[yV,yU,hk0,yW hm,hb]
    refine hK1 _ ?_;(try clear hK1 K1);with_reducible refine aS ?_;push_cast[hk0,yW hm,hb]
    refine hK _ ?_;clear hK K;push_cast;exact ⟨(),trivial⟩
  intro S' _ hE _;refine yB [0,3,4,9,10,11,46] [32] hE ?_;clear hE
  have cp:=zPi t[i].1 hsz
  have cg:=mU (t.take i) (par t[i].1) hr (by rw [l7];omega)
  have hP:vD (t.take i) (atE t i)=(decide (par t[i].1={ data:=#[] }) || decide ((aV (t.take i) (par t[i].1)).1=1)):=by rw [vD,mH hlt]
  have hR:sU t i=vD (t.take i) (atE t i):=by rw [sU,hA,bB4]
  refine goA 3 ?_;push_cast(disch:=omega);refine cVt yKj cp (.cons (.v _) .nil) ?_;push_cast
  cases he:decide (par t[i].1={ data:=#[] }) with
 |true =>
   have hgood:sU t i=true:=by rw [hR,hP,he];rfl
   refine goA 5 ?_;push_cast(disch:=omega)[he];exact ⟨i + 1,rfl,⟨hlt,fun j hj=>if h:j=i then h ▸ hgood else ha j (by omega)⟩,by omega⟩
 |false =>
   have hk1:∀ b,decide ((aV (t.take i) (par t[i].1)).1=1)=b→sU t i=b:=fun b hb=>by rw [hR,hP,he,hb];rfl
   generalize hg:aV (t.take i) (par t[i].1)=n at cg hk1;obtain ⟨k,d⟩:=n;dsimp only at hk1
   by_cases hk1':k=1
   ·have hgood:=hk1 true (i7 hk1')
    refine goA 5 ?_;push_cast(disch:=omega)[he,yV,yU,wQ,bAf];refine cUt 456 uV cg (.cons (aD (yT _)) (.cons (.v _) .nil)) ?_;push_cast(disch:=omega)[he];exact ⟨i + 1,rfl,⟨hlt,fun j hj=>if h:j=i then h ▸ hgood else ha j (by omega)⟩,by omega⟩
   ·rw [bad (hk1 false (b9 hk1'))];refine goA 5 ?_;push_cast(disch:=omega)[he,yV,yU,wQ,bAf];refine cUt 456 uV cg (.cons (aD (yT _)) (.cons (.v _) .nil)) ?_;push_cast(disch:=omega)[he];exact aQ rfl
 ·have hne:i=t.length:=by omega
  subst hne
  have hok:zWi t=true:=kP.2 ha
  rw [hok];refine goA 5 ?_;push_cast(disch:=omega);exact aQ rfl
end Go.Proofs.Y
