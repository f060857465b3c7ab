/-
  The reference's table of longest common rows, its cZ.
-/
import Derived.Test.YtmgilahhnbopmaaKept
import Derived.Test.YtmgilahhnbopmaaDiffD
set_option linter.unusedSimpArgs false
set_option linter.unusedVariables false
set_option maxRecDepth 20000
namespace Go.Proofs.Ytmgilahhnbopmaa
open Go Go.Eng Go.RowKit Go.DiffM

section
variable {α:Type} [DecidableEq α]
theorem qUp (x:α) (a b:List α):lcs (x :: a) b≤lcs a b + 1:=by
  obtain ⟨s,h1,h2,h3⟩:=qJ8 _ (x :: a) b (Nat.le_refl _)
  rcases List.sublist_cons_iff.1 h1 with h|⟨r,rfl,h⟩
  · have:=qY _ a b s (Nat.le_refl _) h h2;omega
  · have:=qY _ a b r (Nat.le_refl _) h ((List.sublist_cons_self _ _).trans h2)
    simp only [List.length_cons] at h3;omega
theorem qSk (y:α) (a b:List α):lcs a (y :: b)≤lcs a b + 1:=by
  obtain ⟨s,h1,h2,h3⟩:=qJ8 _ a (y :: b) (Nat.le_refl _)
  rcases List.sublist_cons_iff.1 h2 with h|⟨r,rfl,h⟩
  · have:=qY _ a b s (Nat.le_refl _) h1 h;omega
  · have:=qY _ a b r (Nat.le_refl _) ((List.sublist_cons_self _ _).trans h1) h
    simp only [List.length_cons] at h3;omega
theorem zF6 (a b:List α) (i j:Nat) (hi:i < a.length):at2 a b i j≤at2 a b (i + 1) j + 1:=by
  unfold at2;rw [List.drop_eq_getElem_cons hi];exact qUp _ _ _
theorem zCt (a b:List α) (i j:Nat) (hj:j < b.length):at2 a b i j≤at2 a b i (j + 1) + 1:=by
  unfold at2;rw [List.drop_eq_getElem_cons hj];exact qSk _ _ _
end
def zH3:List FV:=[.v (.slice none 0 0)]
def zBv (r:List Int):List FV:=[.lst true (gR r)]
def pB (a b:List ByteArray) (p:Nat):List Int:=(List.range (b.length + 1)).map fun q=>((at2 a b p q:Nat):Int)
def nE (a b:List ByteArray) (n:Nat):List (List Int):=((List.range (a.length + 1)).drop n).map (pB a b)
def uG (n:Nat) (rows:List (List Int)):List (List FV):=List.replicate n zH3 ++ rows.map zBv
def tab (a b:List ByteArray):List (List FV):=(nE a b 0).map zBv
theorem pT (a b:List ByteArray) (p:Nat):(pB a b p).length=b.length + 1:=by simp [pB]
theorem qBj (a b:List ByteArray) (p q:Nat) (h:q < (pB a b p).length):(pB a b p)[q]=((at2 a b p q:Nat):Int):=by simp [pB]
theorem sT (a b:List ByteArray) (n:Nat) (h:n≤a.length):nE a b n=pB a b n :: nE a b (n + 1):=by
  unfold nE;rw [List.drop_eq_getElem_cons (by simp;omega),List.map_cons,List.getElem_range]
theorem qTt (a b:List ByteArray):nE a b a.length=[pB a b a.length]:=by
  rw [sT a b _ (Nat.le_refl _)]
  congr 1
  unfold nE;rw [List.drop_eq_nil_of_le (by simp)];rfl
theorem mJ (n:Nat) (rows:List (List Int)):(uG n rows).length=n + rows.length:=by simp [uG]
theorem qB (n:Nat) (rows:List (List Int)):Wid 1 (uG n rows)=True:=eq_true fun x hx=>by
  simp only [uG,List.mem_append] at hx
  rcases hx with h|h
  · rw [(List.mem_replicate.1 h).2];rfl
  · obtain ⟨r,-,rfl⟩:=List.mem_map.1 h;rfl
theorem mY (n:Nat) (r:List Int) (rows:List (List Int)) {d:List FV}:(uG n (r :: rows)).getD n d=[.lst true (gR r)]:=by
  rw [gG (by simp [uG])]
  simp [uG,zBv]
theorem qTf (n:Nat) (rows:List (List Int)) {d:List FV}:(uG (n + 1) rows).getD n d=[.v (.slice none 0 0)]:=by
  rw [gG (by simp [uG];omega)]
  simp only [uG];rw [List.getElem_append_left (by simp)]
  simp [zH3]
theorem qTe (n:Nat) (r:List Int) (rows:List (List Int)):(uG (n + 1) rows).set n [.lst true (gR r)]=uG n (r :: rows):=by
  simp only [uG,List.replicate_succ',List.append_assoc];rw [List.set_append_right _ _ (by simp)]
  simp [zBv]
theorem zC4 (n:Nat):List.replicate n [FV.v (.slice none 0 0)]=uG n []:=by simp [uG,zH3]
theorem zBh (a b:List ByteArray):uG 0 (nE a b 0)=tab a b:=by simp [uG,tab]
theorem qUs (n:Nat):List.replicate n [FV.v (.int .i64 0)]=gR (List.replicate n 0):=by simp [gR,qSn]
theorem qAr (R:List Int) (k:Nat) (x:Int):(gR R).set k [.v (.int .i64 x)]=gR (R.set k x):=by simp [gR,List.map_set,qSn]
theorem nM {R:List Int} {k:Nat} {x:Int} {d:List FV} (h:k < R.length):(gR (R.set k x)).getD k d=[.v (.int .i64 x)]:=by rw [fP (by simpa using h)];simp
theorem qRx (a b:List ByteArray):(tab a b).length=a.length + 1:=by simp [tab,nE]
theorem qRy (a b:List ByteArray) {p:Nat} {d:List FV} (h:p < a.length + 1):(tab a b).getD p d=[.lst true (gR (pB a b p))]:=by
  unfold tab;rw [iG (by simpa [nE] using h)]
  simp [nE,zBv]
theorem qRw (a b:List ByteArray):Wid 1 (tab a b)=True:=eq_true (wP _ fun _=>rfl)
theorem zBg (a b:List ByteArray):∀ x ∈ tab a b,∀ f ∈ x,FreshF f:=fun x hx f hf=>by
  obtain ⟨r,-,rfl⟩:=List.mem_map.1 hx;simp [zBv] at hf;subst hf;exact .lst (xH r)
set_option maxHeartbeats 2000000 in
theorem zGk (a b:List ByteArray) (hA:a.length≤400) (hB:b.length≤400):HFun Try.prog 43 [.lst false (aD a),.lst false (aD b)] (fun h st=>h=.own 0∧st=[(0,.sl true 39 1 (tab a b))]):=by
  refine rT (N:=115) Try.func43 rfl Try.ntmps43 Try.results43 (by simp) ?_
  refine zE ?_;refine zJ (fun K hK=>?_);simp (disch:=omega) only [push_cast,↓iC9,simprocAttr];refine hK _ ?_;clear hK K
  refine zE ?_;refine zJ (fun K hK=>?_);simp (disch:=omega) only [push_cast,↓iC9,simprocAttr,aA,maxLen,zC4];refine hK _ ?_;clear hK K
  refine yB [0,1,5] [96] (by simp only [zZ,zR,zP,zQ,zN,zS,zM,zX,zU,Nat.reduceEqDiff,reduceIte];exact rfl) ?_
  refine zE ?_;refine zJ (fun K hK=>?_);simp (disch:=omega) only [push_cast,↓iC9,simprocAttr,aA,maxLen,mJ,qTf,qTe,qUs];refine hK _ ?_;clear hK K
  refine yB [0,1,5] [96] (by simp only [zZ,zR,zP,zQ,zN,zS,zM,zX,zU,Nat.reduceEqDiff,reduceIte];exact rfl) ?_
  refine zE ?_;refine zE ?_;refine zJ (fun K hK=>?_);simp (disch:=omega) only [push_cast,↓iC9,simprocAttr,aA];refine hK _ ?_;clear hK K
  refine yB [0,1,5,6] [96] (by simp only [zZ,zR,zP,zQ,zN,zS,zM,zX,zU,Nat.reduceEqDiff,reduceIte];exact rfl) ?_
  refine zD ?_;refine fS (fun i:Int=>⟨[(0,.lst false (aD a)),(1,.lst false (aD b)),(5,.own 96),(6,.v (.int .i64 i))],[(96,.sl true 39 1 (uG (i + 1).toNat (nE a b (i + 1).toNat)))]⟩)
    (fun i=>-1≤i∧i < a.length) (fun i=>(i + 1).toNat) [0,1,5,6] [96] ((a.length:Int) - 1) ?_ ⟨by omega,by omega⟩ ?_
  · have e:((a.length:Int) - 1 + 1).toNat=a.length:=by omega
    simp only [zZ,zR,zP,zQ,zN,zS,zM,zX,zU,Nat.reduceEqDiff,reduceIte,e,qTt]
    have e2:pB a b a.length=List.replicate (b.length + 1) 0:=by
      apply List.ext_getElem
      · simp [pB]
      · intro i h1 h2
        simp only [pB,List.getElem_map,List.getElem_range,List.getElem_replicate];rw [qS4 _ _ _ _ (.inl (Nat.le_refl _))];rfl
    rw [e2]
  rintro i ⟨hi1,hi2⟩;refine zE ?_;refine zE ?_;refine zJ (fun K hK=>?_);simp (disch:=omega) only [push_cast,↓iC9,simprocAttr];refine hK _ ?_;clear hK K
  refine zA ?_;refine lM rfl (fun hlt=>?_) (fun hge=>?_)
  · have h0:0≤i:=by simpa using hlt
    obtain ⟨p,rfl⟩:=Int.eq_ofNat_of_zero_le h0
    have hp:p < a.length:=by omega
    have e:((p:Int) + 1).toNat=p + 1:=by omega
    simp only [e];rw [sT a b (p + 1) (by omega)]
    refine zC ?_;refine zE ?_;refine zD ?_;refine zE ?_;refine zJ (fun K hK=>?_);simp (disch:=omega) only [push_cast,↓iC9,simprocAttr,aA,maxLen,qUs];refine hK _ ?_;clear hK K
    refine zE ?_;refine zE ?_;refine zJ (fun K hK=>?_);simp (disch:=omega) only [push_cast,↓iC9,simprocAttr,aA];refine hK _ ?_;clear hK K
    refine yB [0,1,5,6,7,8] [96,248] (by simp only [zZ,zR,zP,zQ,zN,zS,zM,zX,zU,Nat.reduceEqDiff,reduceIte];exact rfl) ?_
    refine zD ?_
    have hRn:=pT a b (p + 1)
    generalize hN:pB a b (p + 1)=Rn at *
    have hget:∀ q (h:q < Rn.length),Rn[q]=((at2 a b (p + 1) q:Nat):Int):=fun q h=>by subst hN;exact qBj a b (p + 1) q h
    refine fS (fun x:Int × List Int=>⟨[(0,.lst false (aD a)),(1,.lst false (aD b)),(5,.own 96),(6,.v (.int .i64 (p:Nat))),(7,.own 248),(8,.v (.int .i64 x.1))],[(96,.sl true 39 1 (uG (p + 1) (Rn :: nE a b (p + 1 + 1)))),(248,.sl true 3 1 (gR x.2))]⟩)
      (fun x=>-1≤x.1∧x.1 < b.length∧x.2.length=b.length + 1∧∀ q (h:q < x.2.length),x.1 < q→x.2[q]=((at2 a b p q:Nat):Int)) (fun x=>(x.1 + 1).toNat) [0,1,5,6,7,8] [96,248] ((b.length:Int) - 1,List.replicate (b.length + 1) 0) rfl ⟨by show -1≤(b.length:Int) - 1;omega,by show (b.length:Int) - 1 < b.length;omega,by simp,fun q h hq=>?_⟩ ?_
    · simp only [List.length_replicate] at h
      have:(b.length:Int) - 1 < q:=hq
      simp only [List.getElem_replicate];rw [qS4 a b p q (.inr (by omega))];rfl
    rintro ⟨j,R⟩ ⟨hj1,hj2,hR,hv⟩;simp only at hj1 hj2 hR hv;refine zE ?_;refine zE ?_;refine zJ (fun K hK=>?_);simp (disch:=omega) only [push_cast,↓iC9,simprocAttr];refine hK _ ?_;clear hK K
    refine zA ?_;refine lM rfl (fun hlt2=>?_) (fun hge2=>?_)
    · have hj0:0≤j:=by simpa using hlt2
      obtain ⟨k,rfl⟩:=Int.eq_ofNat_of_zero_le hj0
      have hk:k < b.length:=by omega
      have hx:R[k + 1]'(by omega)=((at2 a b p (k + 1):Nat):Int):=hv (k + 1) (by omega) (by omega)
      have hy:Rn[k]'(by omega)=((at2 a b (p + 1) k:Nat):Int):=hget k (by omega)
      have hz:Rn[k + 1]'(by omega)=((at2 a b (p + 1) (k + 1):Nat):Int):=hget (k + 1) (by omega)
      have hstep:=qWv a b p k hp hk
      have b1:=zF6 a b p (k + 1) hp
      have b2:=zCt a b (p + 1) k hk
      have b3:=qFc a b p (k + 1)
      have b4:=qFc a b (p + 1) k
      have b5:=qFc a b (p + 1) (k + 1)
      generalize hX:at2 a b p (k + 1)=X at *
      generalize hY:at2 a b (p + 1) k=Y at *
      generalize hZ:at2 a b (p + 1) (k + 1)=Z at *
      generalize hV:at2 a b p k=V at *
      have fin:∀ (v:Nat),v=V→∀ q (h:q < (R.set k (v:Int)).length),((k:Int) - 1) < q→(R.set k (v:Int))[q]=((at2 a b p q:Nat):Int):=fun v ev q h hq=>by
        rw [List.getElem_set];split
        · rename_i e;subst e;rw [hV,ev]
        · exact hv q (by simpa using h) (by omega)
      by_cases he:a[p]=b[k]
      · rw [if_pos he] at hstep
        have he':decide (a[p]=b[k])=true:=decide_eq_true he
        have hcs:(Y≤X∧X < Z + 1)∨(Y≤X∧X=Z + 1)∨(X < Y∧Y < Z + 1)∨(X < Y∧Y=Z + 1):=by omega
        rcases hcs with ⟨c1,c2⟩|⟨c1,c2⟩|⟨c1,c2⟩|⟨c1,c2⟩
        all_goals
          (repeat first|refine zE ?_|refine zA ?_|refine zC ?_|refine zB ?_|refine zD ?_);refine zJ (fun K hK=>?_);simp (disch:=omega) only [push_cast,↓iC9,simprocAttr,dJ,fP,eU,hx,qAr];refine hK _ ?_;clear hK K
          refine yB [0,1,5,6,7,8] [96,248] (by simp only [zZ,zR,zP,zQ,zN,zS,zM,zX,zU,Nat.reduceEqDiff,reduceIte];exact rfl) ?_
          (repeat first|refine zE ?_|refine zA ?_|refine zC ?_|refine zB ?_|refine zD ?_);refine HW_drw 13 mixed (by kernel_rfl) (fun K hK=>?_);simp (disch:=omega) only [push_cast,↓iC9,simprocAttr,dJ,fP,eU,mJ,mY,qB,hy,nM,List.length_set]
          with_reducible refine aH ?_;simp (disch:=omega) only [push_cast,↓iC9,simprocAttr]
          refine hK _ ?_;clear hK K;refine yB [0,1,5,6,7,8,59] [96,248] (by simp only [zZ,zR,zP,zQ,zN,zS,zM,zX,zU,Nat.reduceEqDiff,reduceIte];exact rfl) ?_
          (repeat first|refine zE ?_|refine zA ?_|refine zC ?_|refine zB ?_|refine zD ?_)
          first
           |(refine yC rfl ?_)
            | (refine yD rfl ?_
               (repeat first|refine zE ?_|refine zA ?_|refine zC ?_|refine zB ?_|refine zD ?_);refine zJ (fun K hK=>?_);simp (disch:=omega) only [push_cast,↓iC9,simprocAttr,dJ,fP,eU,mJ,mY,qB,hy,qAr,nM,List.length_set,List.set_set];refine hK _ ?_;clear hK K
               refine yB [0,1,5,6,7,8] [96,248] (by simp only [zZ,zR,zP,zQ,zN,zS,zM,zX,zU,Nat.reduceEqDiff,reduceIte];exact rfl) ?_)
          (repeat first|refine zE ?_|refine zA ?_|refine zC ?_|refine zB ?_|refine zD ?_);refine HW_drw 26 mixed (by kernel_rfl) (fun K hK=>?_);simp (disch:=omega) only [push_cast,↓iC9,simprocAttr,aA,bE,fT,he',dJ,fP,eU,mJ,mY,qB,hz,nM,List.length_set]
          with_reducible refine aH ?_;simp (disch:=omega) only [push_cast,↓iC9,simprocAttr]
          refine hK _ ?_;clear hK K;refine yB [0,1,5,6,7,8,96] [96,248] (by simp only [zZ,zR,zP,zQ,zN,zS,zM,zX,zU,Nat.reduceEqDiff,reduceIte];exact rfl) ?_
          (repeat first|refine zE ?_|refine zA ?_|refine zC ?_|refine zB ?_|refine zD ?_)
          first
           |(refine yC rfl ?_)
            | (refine yD rfl ?_
               (repeat first|refine zE ?_|refine zA ?_|refine zC ?_|refine zB ?_|refine zD ?_);refine zJ (fun K hK=>?_);simp (disch:=omega) only [push_cast,↓iC9,simprocAttr,dJ,fP,eU,mJ,mY,qB,hz,qAr,nM,List.length_set,List.set_set];refine hK _ ?_;clear hK K
               refine yB [0,1,5,6,7,8] [96,248] (by simp only [zZ,zR,zP,zQ,zN,zS,zM,zX,zU,Nat.reduceEqDiff,reduceIte];exact rfl) ?_)
          (repeat first|refine zK ?_|refine zG ?_|refine zH ?_|refine zF rfl ?_|refine zL ?_|refine zB ?_|refine zE ?_|refine zA ?_|refine zC ?_|refine zT ?_|refine zW ?_)
          (repeat first|refine zE ?_|refine zA ?_|refine zC ?_|refine zB ?_|refine zD ?_);refine zJ (fun K hK=>?_);simp (disch:=omega) only [push_cast,↓iC9,simprocAttr];refine hK _ ?_;clear hK K
          refine zA ⟨((k:Int) - 1,_),rfl,⟨by show -1≤(k:Int) - 1;omega,by show (k:Int) - 1 < b.length;omega,by simp [hR],fun q h hq=>?_⟩,by show ((k:Int) - 1 + 1).toNat < ((k:Int) + 1).toNat;omega⟩
          first
           |exact fin X (by omega) q h hq
           |exact fin Y (by omega) q h hq
           |exact fin (Z + 1) (by omega) q h hq
      · rw [if_neg he] at hstep
        have he':decide (a[p]=b[k])=false:=decide_eq_false he
        have hcs:(Y≤X)∨(X < Y):=by omega
        rcases hcs with c1|c1
        all_goals
          (repeat first|refine zE ?_|refine zA ?_|refine zC ?_|refine zB ?_|refine zD ?_);refine zJ (fun K hK=>?_);simp (disch:=omega) only [push_cast,↓iC9,simprocAttr,dJ,fP,eU,hx,qAr];refine hK _ ?_;clear hK K
          refine yB [0,1,5,6,7,8] [96,248] (by simp only [zZ,zR,zP,zQ,zN,zS,zM,zX,zU,Nat.reduceEqDiff,reduceIte];exact rfl) ?_
          (repeat first|refine zE ?_|refine zA ?_|refine zC ?_|refine zB ?_|refine zD ?_);refine HW_drw 13 mixed (by kernel_rfl) (fun K hK=>?_);simp (disch:=omega) only [push_cast,↓iC9,simprocAttr,dJ,fP,eU,mJ,mY,qB,hy,nM,List.length_set]
          with_reducible refine aH ?_;simp (disch:=omega) only [push_cast,↓iC9,simprocAttr]
          refine hK _ ?_;clear hK K;refine yB [0,1,5,6,7,8,59] [96,248] (by simp only [zZ,zR,zP,zQ,zN,zS,zM,zX,zU,Nat.reduceEqDiff,reduceIte];exact rfl) ?_
          (repeat first|refine zE ?_|refine zA ?_|refine zC ?_|refine zB ?_|refine zD ?_)
          first
           |(refine yC rfl ?_)
            | (refine yD rfl ?_
               refine zJ (fun K hK=>?_);simp (disch:=omega) only [push_cast,↓iC9,simprocAttr,dJ,fP,eU,mJ,mY,qB,hy,qAr,nM,List.length_set,List.set_set];refine hK _ ?_;clear hK K
               refine yB [0,1,5,6,7,8] [96,248] (by simp only [zZ,zR,zP,zQ,zN,zS,zM,zX,zU,Nat.reduceEqDiff,reduceIte];exact rfl) ?_)
          (repeat first|refine zE ?_|refine zA ?_|refine zC ?_|refine zB ?_|refine zD ?_);refine HW_drw 26 mixed (by kernel_rfl) (fun K hK=>?_);simp (disch:=omega) only [push_cast,↓iC9,simprocAttr,aA,bE,fT,he',dJ,fP,eU,mJ,mY,qB,hz,nM,List.length_set]
          with_reducible refine aH ?_;simp (disch:=omega) only [push_cast,↓iC9,simprocAttr]
          refine hK _ ?_;clear hK K;refine yB [0,1,5,6,7,8,96] [96,248] (by simp only [zZ,zR,zP,zQ,zN,zS,zM,zX,zU,Nat.reduceEqDiff,reduceIte];exact rfl) ?_
          (repeat first|refine zE ?_|refine zA ?_|refine zC ?_|refine zB ?_|refine zD ?_)
          refine yC rfl ?_
          (repeat first|refine zK ?_|refine zG ?_|refine zH ?_|refine zF rfl ?_|refine zL ?_|refine zB ?_|refine zE ?_|refine zA ?_|refine zC ?_|refine zT ?_|refine zW ?_)
          (repeat first|refine zE ?_|refine zA ?_|refine zC ?_|refine zB ?_|refine zD ?_);refine zJ (fun K hK=>?_);simp (disch:=omega) only [push_cast,↓iC9,simprocAttr];refine hK _ ?_;clear hK K
          refine zA ⟨((k:Int) - 1,_),rfl,⟨by show -1≤(k:Int) - 1;omega,by show (k:Int) - 1 < b.length;omega,by simp [hR],fun q h hq=>?_⟩,by show ((k:Int) - 1 + 1).toNat < ((k:Int) + 1).toNat;omega⟩
          first
           |exact fin X (by omega) q h hq
           |exact fin Y (by omega) q h hq
    · have hjm : j = -1 := by have : ¬ 0 ≤ j := by simpa using hge2
                              omega
      subst hjm
      have hRp:R=pB a b p:=by
        apply List.ext_getElem
        · rw [hR,pT]
        · intro q h1 h2
          rw [hv q h1 (by omega),qBj]
      subst hRp;refine zT ?_;refine zG ?_;refine zG ?_;refine zH ?_;refine zA ?_;refine zJ (fun K hK=>?_);simp (disch:=omega) only [push_cast,↓iC9,simprocAttr,mJ,qTf,qTe];refine hK _ ?_;clear hK K
      refine yB [0,1,5,6] [96] (by simp only [zZ,zR,zP,zQ,zN,zS,zM,zX,zU,Nat.reduceEqDiff,reduceIte];exact rfl) ?_
      skip
      refine zJ (fun K hK=>?_);simp (disch:=omega) only [push_cast,↓iC9,simprocAttr];refine hK _ ?_;clear hK K
      refine zA ⟨(p:Int) - 1,?_,⟨by omega,by omega⟩,by omega⟩
      have e3:((p:Int) - 1 + 1).toNat=p:=by omega
      simp only [zZ,zR,zP,zQ,zN,zS,zM,zX,zU,Nat.reduceEqDiff,reduceIte,e3,sT a b p (by omega),sT a b (p + 1) (by omega),hN]
  · have him : i = -1 := by have : ¬ 0 ≤ i := by simpa using hge
                            omega
    subst him;refine zT ?_;refine zG ?_;refine zG ?_;refine zH ?_;refine zE ?_;refine zJ (fun K hK=>?_);simp (disch:=omega) only [push_cast,↓iC9,simprocAttr];refine hK _ ?_;clear hK K
    refine zA ?_;refine zW ?_;simp only [yA,yM,yH,yE,aR,bT,yK,yJ,zS,zM,Nat.reduceEqDiff,reduceIte,reduceCtorEq];refine xK rfl ?_ ⟨rfl,?_⟩
    · exact zBg a b
    · show [(0,Row.sl true 39 1 (uG 0 (nE a b 0)))]=_
      rw [zBh]
end Go.Proofs.Ytmgilahhnbopmaa
