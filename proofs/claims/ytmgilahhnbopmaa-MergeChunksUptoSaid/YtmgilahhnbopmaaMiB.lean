/-
  MergeChunks: the walk of the law.
-/
import Derived.Test.YtmgilahhnbopmaaMiA
import Derived.Test.YtmgilahhnbopmaaRcc
import Derived.Test.YtmgilahhnbopmaaGd
set_option linter.unusedSimpArgs false
set_option linter.unusedVariables false
set_option maxRecDepth 20000
namespace Go.Proofs.Ytmgilahhnbopmaa
open Go Go.Eng Go.RowKit Go.DiffM
def qTd:Nat→Code→Code
|0,c=>c
|n + 1,.seq _ b=>qTd n b
|_,c=>c
theorem zHr {F:List Leaf} {S:HS} {id:Nat} {T:List CkV} (hr:rlk S.st id=some (.hl true 33 4 (ckW T))) (hF:∀ f ∈ clv T,f ∈ F):LendF F S (.own id) (.lst false (qCv (T.map Prod.fst))):=by
 refine LendF.row hr (by simp [qCv,ckW]) (fun y hy=>by obtain ⟨s,-,rfl⟩:=List.mem_map.1 hy;rfl) (fun i k hi hk hi' hk'=>?_)
 have hiT:i < T.length:=by simpa [ckW] using hi
 have e1:(ckW T)[i]=qS0 T[i]:=by simp [ckW]
 have e2:(qCv (T.map Prod.fst))[i]=ckF T[i].1:=by simp [qCv]
 have hk4:k < 4:=by simpa [e1,qS0] using hk
 have m1:lf (hd T[i].2.1 T[i].1.b.length) T[i].1.b ∈ clv T:=List.mem_flatMap.2 ⟨T[i],List.getElem_mem hiT,by simp⟩
 have m2:lf (hd T[i].2.2.1 T[i].1.l.length) T[i].1.l ∈ clv T:=List.mem_flatMap.2 ⟨T[i],List.getElem_mem hiT,by simp⟩
 have m3:lf (hd T[i].2.2.2 T[i].1.r.length) T[i].1.r ∈ clv T:=List.mem_flatMap.2 ⟨T[i],List.getElem_mem hiT,by simp⟩
 simp only [e1,e2]
 match k,hk4 with
|0,_=>exact .v _
|1,_=>exact .leaf (hF _ m1) (zEe _ _)
|2,_=>exact .leaf (hF _ m2) (zEe _ _)
|3,_=>exact .leaf (hF _ m3) (zEe _ _)
def qX0 (p:CkV × CkV):List (List HV):=[[.v (hd p.1.2.1 p.1.1.b.length)],[.v (hd p.1.2.2.1 p.1.1.l.length)],[.v (hd p.1.2.2.2 p.1.1.r.length)],[.v (hd p.2.2.1 p.2.1.b.length)]]
def apL (Z:List (CkV × CkV)):List (List HV):=Z.flatMap qX0
theorem qEm (Z:List (CkV × CkV)):(apL Z).length=4 * Z.length:=by simp only [apL,qE4 qX0 4 (fun _=>rfl)]
theorem zF7 (Z:List (CkV × CkV)) (t u:CkV):apL Z ++ [[.v (hd t.2.1 t.1.b.length)],[.v (hd t.2.2.1 t.1.l.length)],[.v (hd t.2.2.2 t.1.r.length)],[.v (hd u.2.1 u.1.b.length)]]=apL (Z ++ [(t,u)]):=by simp [apL,qX0]
theorem zHc (Z:List (CkV × CkV)) (f:HV→HV) (hf:∀ x,f (.v x)=.v x):(apL Z).map (List.map f)=apL Z:=by
 induction Z with
|nil=>rfl
|cons z Z ih=>unfold apL at ih ⊢;rw [List.flatMap_cons,List.map_append,ih];simp [qX0,hf]
theorem zF8 (Z:List (CkV × CkV)) (p:Nat→Bool):(apL Z).map (List.map (HV.kill p))=apL Z:=zHc Z _ fun x=>by rw [HV.kill]
def qS7 (L j:Nat):Nat ⊕ Nat:=if j % 4 < 3 then .inr (3 * (j / 4) + j % 4) else .inr (3 * L + 3 * (j / 4))
theorem zCx {L n:Nat} (hn:n≤L) (i j:Nat) (hi:i < 4 * n) (hj:j < 4 * n) (h:qS7 L i=qS7 L j):i=j:=by
 unfold qS7 at h;split at h <;> split at h <;> simp only [Sum.inr.injEq] at h <;> omega
theorem qSx (T:List CkV):(clv T).length=3 * T.length:=qE4 (fun t:CkV=>[lf (hd t.2.1 t.1.b.length) t.1.b,lf (hd t.2.2.1 t.1.l.length) t.1.l,lf (hd t.2.2.2 t.1.r.length) t.1.r]) 3 (fun _=>rfl) T
theorem zAr {T:List CkV} {q r:Nat} (hq:q < T.length) (hr:r < 3):(clv T)[3 * q + r]?=[lf (hd T[q].2.1 T[q].1.b.length) T[q].1.b,lf (hd T[q].2.2.1 T[q].1.l.length) T[q].1.l,lf (hd T[q].2.2.2 T[q].1.r.length) T[q].1.r][r]? :=
 qE5 (fun t:CkV=>[lf (hd t.2.1 t.1.b.length) t.1.b,lf (hd t.2.2.1 t.1.l.length) t.1.l,lf (hd t.2.2.2 t.1.r.length) t.1.r]) 3 (fun _=>rfl) T q r hq hr
theorem zJi {T U:List CkV} {st:aB} {n:Nat} (hTU:T.length=U.length) (hn:n≤T.length)
  (hT:∀ t ∈ T,t.1.b.length≤1000000000∧t.1.l.length≤1000000000∧t.1.r.length≤1000000000) (hU:∀ t ∈ U,t.1.b.length≤1000000000) (j:Nat) (hj:j < (apL ((T.zip U).take n)).length) :
  ∃ e m,(apL ((T.zip U).take n))[j]=[e]∧ApAt (clv T ++ clv U) st 9 1 (qS7 T.length j) e m∧m≤1000000000:=by
 have hl:((T.zip U).take n).length=n:=by rw [List.length_take,List.length_zip];omega
 have hj':j < 4 * n:=by rw [qEm,hl] at hj;exact hj
 obtain ⟨q,hq⟩:∃ q,q=j / 4:=⟨_,rfl⟩;obtain ⟨r,hr⟩:∃ r,r=j % 4:=⟨_,rfl⟩
 have hqn:q < n:=by omega
 have hr4:r < 4:=by omega
 have hjq:j=4 * q + r:=by omega
 have hqT:q < T.length:=by omega
 have hqU:q < U.length:=by omega
 have hz:((T.zip U).take n)[q]'(by omega)=(T[q],U[q]):=by simp
 have hg:(apL ((T.zip U).take n))[j]?=(qX0 (T[q],U[q]))[r]?:=by
  rw [hjq];show (((T.zip U).take n).flatMap qX0)[4 * q + r]?=_
  rw [qE5 qX0 4 (fun _=>rfl) _ q r (by omega) hr4,hz]
 rw [List.getElem?_eq_getElem hj] at hg
 have hw:qS7 T.length j=if r < 3 then .inr (3 * q + r) else .inr (3 * T.length + 3 * q):=by
  unfold qS7;rw [← hq,← hr]
 have tb:=hT _ (List.getElem_mem hqT)
 have ub:=hU _ (List.getElem_mem hqU)
 have left:∀ s,s < 3→(clv T ++ clv U)[3 * q + s]?=[lf (hd T[q].2.1 T[q].1.b.length) T[q].1.b,lf (hd T[q].2.2.1 T[q].1.l.length) T[q].1.l,lf (hd T[q].2.2.2 T[q].1.r.length) T[q].1.r][s]?:=fun s hs=>by
  rw [List.getElem?_append_left (by rw [qSx];omega),zAr hqT hs]
 have right:(clv T ++ clv U)[3 * T.length + 3 * q]?=some (lf (hd U[q].2.1 U[q].1.b.length) U[q].1.b):=by
  rw [List.getElem?_append_right (by rw [qSx];omega),qSx,show 3 * T.length + 3 * q - 3 * T.length=3 * q + 0 by omega,zAr hqU (by omega)];rfl
 rw [hw]
 rcases (show r=0∨r=1∨r=2∨r=3 by omega) with rfl|rfl|rfl|rfl
 ·exact ⟨_,_,Option.some.inj hg,ApAt.leaf (left 0 (by omega)) rfl rfl,tb.1⟩
 ·exact ⟨_,_,Option.some.inj hg,ApAt.leaf (left 1 (by omega)) rfl rfl,tb.2.1⟩
 ·exact ⟨_,_,Option.some.inj hg,ApAt.leaf (left 2 (by omega)) rfl rfl,tb.2.2⟩
 ·exact ⟨_,_,Option.some.inj hg,ApAt.leaf right rfl rfl,ub⟩
theorem zFw {T:List CkV} {i:Nat} {d:List HV} (h:i < T.length):(ckW T).getD i d=qS0 T[i]:=by unfold ckW;rw [iG h]
section
variable {x y z:ByteArray}
set_option maxHeartbeats 16000000 in
theorem zCo (T U:List CkV) (hT:T.map Prod.fst=mL x y z) (hU:U.map Prod.fst=mL x y z) :
  HWF Try.prog 90 (qTd 5 (Try.f3.body.getD .skip)) (qSv Try.prog [.tmp 6] (.bool true)) (clv T ++ clv U) ⟨[(7,.own 152),(11,.own 264)],[(152,.hl true 33 4 (ckW T)),(264,.hl true 33 4 (ckW U))]⟩:=by
 unfold Try.f3;dsimp only [Option.getD_some,qTd]
 have hTl:T.length=(mL x y z).length:=by rw [← hT,List.length_map]
 have hUl:U.length=(mL x y z).length:=by rw [← hU,List.length_map]
 have hbl:=zEc (x:=x) (y:=y) (z:=z)
 have hsm:=zEb (x:=x) (y:=y) (z:=z)
 refine aP ?_;refine bD ?_;refine zJ (fun K hK=>?_);simp (disch:=omega) only [push_cast,↓iC9,simprocAttr];refine hK _ ?_;clear hK K
 refine aP ?_;refine aP ?_;refine bD ?_;refine qB0 13 9000 31 1 rfl (by simp only [sZ,yZ,qAb,mE,jZ,gK,fL,jN,gP,mA,gN,gM,oQ,mB,lZ,fR,iC,iE,iD,jM,oN,lX,Nat.reduceBEq,Nat.reduceEqDiff,reduceIte,cond_true,cond_false,List.map_cons,List.map_nil];exact rfl) ?_
 refine zGd 9000 rfl (by simp only [mK,kC,List.map_cons,List.map_nil,zFr,qMj,Nat.reduceEqDiff,reduceIte];exact rfl) ?_
 refine zJ (fun K hK=>?_);simp (disch:=omega) only [push_cast,↓iC9,simprocAttr,bS];refine hK _ ?_;clear hK K
 refine aC ?_;refine eM ?_;refine iW [7,11,13,14] [152,264,9000] (by simp only [zZ,zR,zP,zQ,zN,zS,zM,zX,zU,Nat.reduceEqDiff,reduceIte];exact rfl) ?_
 refine qW3 (fun i:Nat=>⟨[(7,.own 152),(11,.own 264),(13,.own 9000),(14,.v (.int .i64 i))],[(152,.hl true 33 4 (ckW T)),(264,.hl true 33 4 (ckW U)),(9000,.hl true 31 1 (apL ((T.zip U).take i)))]⟩) (fun _=>clv T ++ clv U) (fun i=>i≤T.length∧i≤8) (fun i=>T.length - i) [7,11,13,14] [152,264,9000] 0 (by simp only [zZ,zR,zP,zQ,zN,zS,zM,zX,zU,Nat.reduceEqDiff,reduceIte,bS];try rfl) rfl ⟨Nat.zero_le _,Nat.zero_le _⟩ ?_
 rintro i ⟨hi,hi8⟩
 by_cases hc:i < T.length∧i < 8
 ·obtain ⟨h1,h2⟩:=hc
  have h3:i < U.length:=by omega
  obtain ⟨t,ht⟩:∃ t,T[i]=t:=⟨_,rfl⟩;obtain ⟨u,hu⟩:∃ u,U[i]=u:=⟨_,rfl⟩
  have g1:∀ d,(ckW T).getD i d=[.v (.bool t.1.st),.v (.slice t.2.1.1 t.1.b.length t.2.1.2),.v (.slice t.2.2.1.1 t.1.l.length t.2.2.1.2),.v (.slice t.2.2.2.1 t.1.r.length t.2.2.2.2)]:=fun d=>by rw [zFw h1,ht];rfl
  have g2:∀ d,(ckW U).getD i d=[.v (.bool u.1.st),.v (.slice u.2.1.1 u.1.b.length u.2.1.2),.v (.slice u.2.2.1.1 u.1.l.length u.2.2.1.2),.v (.slice u.2.2.2.1 u.1.r.length u.2.2.2.2)]:=fun d=>by rw [zFw h3,hu];rfl
  have hzl:((T.zip U).take i).length=i:=by rw [List.length_take,List.length_zip];omega
  refine aP ?_;refine aP ?_;refine bD ?_;refine zJ (fun K hK=>?_);simp (disch:=omega) only [push_cast,↓iC9,simprocAttr,jQ];refine hK _ ?_;clear hK K
  refine aC ?_;refine bD ?_;refine yD rfl ?_;refine zC ?_;refine aP ?_;refine eM ?_;refine bD ?_;refine qNa 22 mixed (by kernel_rfl) (fun K hK K1 hK1=>?_);simp (disch:=omega) only [push_cast,↓iC9,simprocAttr,jQ,g1,g2]
  refine hK1 _ ?_;(try clear hK1 K1);with_reducible refine aH ?_;simp (disch:=omega) only [push_cast,↓iC9,simprocAttr,qEm,hzl,bS,zF8,List.map_append]
  refine ⟨by intro x hx;simp at hx;rcases hx with rfl|rfl|rfl|rfl <;> rfl,?_⟩
  refine hK _ ?_;clear hK K;refine cG ?_;refine aC ?_;refine bD ?_;refine zJ (fun K hK=>?_);simp (disch:=omega) only [push_cast,↓iC9,simprocAttr];refine hK _ ?_;clear hK K
  refine aC ?_;refine ⟨i + 1,?_,rfl,⟨h1,h2⟩,by omega⟩
  rw [List.take_succ_eq_append_getElem (by rw [List.length_zip];omega),List.getElem_zip,ht,hu,← zF7]
  simp only [zZ,zR,zP,zQ,zN,zS,zM,zX,zU,Nat.reduceEqDiff,reduceIte];exact rfl
 ·have go:HWF Try.prog 90 (qTd 7 (Try.f3.body.getD .skip)) (qSv Try.prog [.tmp 6] (.bool true)) (clv T ++ clv U) ⟨[(13,.own 9000)],[(9000,.hl true 31 1 (apL ((T.zip U).take i)))]⟩:=by
   unfold Try.f3;dsimp only [Option.getD_some,qTd]
   have hTb:∀ t ∈ T,t.1.b.length≤1000000000∧t.1.l.length≤1000000000∧t.1.r.length≤1000000000:=fun t ht=>by
    have:=hsm t.1 (hT ▸ List.mem_map_of_mem ht)
    omega
   have hUb:∀ t ∈ U,t.1.b.length≤1000000000:=fun t ht=>by
    have:=hsm t.1 (hU ▸ List.mem_map_of_mem ht)
    omega
   have hzl:((T.zip U).take i).length=i:=by rw [List.length_take,List.length_zip];omega
   refine aP ?_;refine qHj (fun K hK=>?_);refine qBb 1 ?_;refine pP ?_;simp (disch:=omega) only [push_cast,↓iC9,simprocAttr]
   refine qW7 (te:=9) (sz:=1) (lid:=9000) (tO:=31) qWw rfl (qS7 T.length) (zJi (by omega) hi hTb hUb) (fun j _ h=>by unfold qS7 at h;split at h <;> cases h) (fun p q hp hq h=>zCx hi p q (by rw [qEm,hzl] at hp;exact hp) (by rw [qEm,hzl] at hq;exact hq) h) (by rw [qEm,hzl];omega) [] (fun k x hk=>by simp [hlk] at hk) cl8 rfl rfl rfl rfl rfl ?_
   refine pP ?_;simp (disch:=omega) only [push_cast,↓iC9,simprocAttr];refine hK _ _ ?_;clear hK K;refine aC ?_;refine xR ?_;simp only [qSv,yH,yE,yK,zS,zM,Nat.reduceEqDiff,reduceIte,reduceCtorEq]
  by_cases h1:i < T.length
  ·have h2:¬ i < 8:=fun h=>hc ⟨h1,h⟩
   refine aP ?_;refine aP ?_;refine bD ?_;refine zJ (fun K hK=>?_);simp (disch:=omega) only [push_cast,↓iC9,simprocAttr,jQ];refine hK _ ?_;clear hK K
   refine aC ?_;refine bD ?_;refine yC rfl ?_;refine zT ?_
   (repeat refine nR ?_);refine nS ?_;refine aC ?_
   refine iW [13] [9000] (by simp only [zZ,zR,zP,zQ,zN,zS,zM,zX,zU,Nat.reduceEqDiff,reduceIte];exact rfl) ?_
   exact go
  ·refine aP ?_;refine aP ?_;refine bD ?_;refine zJ (fun K hK=>?_);simp (disch:=omega) only [push_cast,↓iC9,simprocAttr,jQ];refine hK _ ?_;clear hK K
   refine aC ?_;refine bD ?_;refine yC rfl ?_;refine zT ?_
   (repeat refine nR ?_);refine nS ?_;refine aC ?_
   refine iW [13] [9000] (by simp only [zZ,zR,zP,zQ,zN,zS,zM,zX,zU,Nat.reduceEqDiff,reduceIte];exact rfl) ?_
   exact go
set_option maxHeartbeats 16000000 in
theorem qG8 (hx:x.size≤4294967296) (hy:y.size≤4294967296) (hz:z.size≤4294967296):HFun Try.prog 3 [.v (.string x),.v (.string y),.v (.string z)] (fun h st=>h=.v (.bool true)∧st=[]):=by
 have hbl:=zEc (x:=x) (y:=y) (z:=z)
 have c7:=zFu (mL x y z) (by omega)
 have cF:=zCp x y z hx hy hz
 have cR:=zB1 x y z hx hy hz
 refine zKv (N:=90) Try.func3 rfl Try.ntmps3 Try.results3 (by simp) ?_
 refine aP ?_;refine bD ?_;refine zJ (fun K hK=>?_);simp (disch:=omega) only [push_cast,↓iC9,simprocAttr];refine hK _ ?_;clear hK K
 refine aP ?_;refine qHj (fun K hK=>?_);refine qBb 3 ?_;refine pP ?_;simp (disch:=omega) only [push_cast,↓iC9,simprocAttr]
 refine qRp 152 cl4 cF rfl rfl rfl rfl rfl (.cons (.v _) (.cons (.v _) (.cons (.v _) .nil))) ?_;rintro _ _ _ ⟨T,hT,rfl,rfl,rfl⟩;refine pP ?_;simp (disch:=omega) only [push_cast,↓iC9,simprocAttr,aE,bS];refine hK _ _ ?_;clear hK K;refine aP ?_;refine bD ?_;refine zJ (fun K hK=>?_);simp (disch:=omega) only [push_cast,↓iC9,simprocAttr]
 refine hat 208 cl5 cR (.cons (.v _) (.cons (.v _) (.cons (.v _) .nil))) ?_;rintro _ _ ⟨rfl,rfl⟩;with_reducible refine aH ?_;simp (disch:=omega) only [push_cast,↓iC9,simprocAttr,bS]
 refine hK _ ?_;clear hK K;refine aP ?_;refine qHj (fun K hK=>?_);refine qBb 3 ?_;refine pP ?_;simp (disch:=omega) only [push_cast,↓iC9,simprocAttr,bS]
 refine qRp 264 cl4 cF rfl rfl rfl rfl rfl (.cons (.v _) (.cons (.v _) (.cons (.v _) .nil))) ?_;rintro _ _ _ ⟨U,hU,rfl,rfl,rfl⟩;refine pP ?_;simp (disch:=omega) only [push_cast,↓iC9,simprocAttr,aE,bS];refine hK _ _ ?_;clear hK K;refine aC ?_;refine iW [7,8,9,10,11] [152,208,264] (by simp only [zZ,zR,zP,zQ,zN,zS,zM,zX,zU,Nat.reduceEqDiff,reduceIte];exact rfl) ?_
 generalize fK x y z=cc
 have e0:decide (cc=cc)=true:=decide_eq_true rfl
 refine aP ?_;refine aP ?_;refine qHj (fun K hK=>?_);refine qBb 10 ?_;refine pP ?_;simp (disch:=omega) only [push_cast,↓iC9,simprocAttr]
 refine tZ cl6 zEa .nil ?_;with_reducible refine aH ?_;simp (disch:=omega) only [push_cast,↓iC9,simprocAttr]
 refine qNc cl7 c7 rfl rfl rfl rfl rfl (.cons (hT ▸ zHr rfl (fun f hf=>List.mem_append_left _ hf)) (.cons (.of (zEf (qWo _) rfl)) .nil)) ?_
 refine qBb 5 ?_;refine pP ?_;simp (disch:=omega) only [push_cast,↓iC9,simprocAttr];refine qNc cl7 c7 rfl rfl rfl rfl rfl (.cons (hU ▸ zHr rfl (fun f hf=>List.mem_append_right _ hf)) (.cons (.of (zEf (qWo _) rfl)) .nil)) ?_
 refine pP ?_;simp (disch:=omega) only [push_cast,↓iC9,simprocAttr];refine hK _ _ ?_;clear hK K;refine aC ?_;refine bD ?_;refine yC rfl ?_;refine zC ?_;refine aC ?_;refine iW [7,11] [152,264] (by simp only [zZ,zR,zP,zQ,zN,zS,zM,zX,zU,Nat.reduceEqDiff,reduceIte];exact rfl) ?_
 exact zCo T U hT hU
end
theorem qNk (x y z:ByteArray) (hs0:x.size≤reachBytes) (hs1:y.size≤reachBytes) (hs2:z.size≤reachBytes) (hu:fw (.v (.string x)) + (fw (.v (.string y)) + (fw (.v (.string z)) + 0))≤1048576):HFun Try.prog 3 [.v (.string x),.v (.string y),.v (.string z)] (fun h st=>h=.v (.bool true)):=by
 have e:∀ s:ByteArray,fw (.v (.string s))=s.size + 1:=fun s=>by simp [fw]
 rw [e,e,e] at hu;exact (qG8 (by omega) (by omega) (by omega)).mono fun h st q=>q.1
end Go.Proofs.Ytmgilahhnbopmaa
