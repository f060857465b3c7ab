/-
  diff.Script over values; the walk of diff.Kept.
-/
import Derived.Test.YtdfjeokjmigkaaaGreatDiffM
import Derived.Test.YtdfjeokjmigkaaaGreatGc
import Derived.Test.YtdfjeokjmigkaaaGreatTyZ
import Derived.Test.YtdfjeokjmigkaaaGreatScript
set_option linter.unusedVariables false
set_option linter.unusedSimpArgs false
section
namespace Go.DiffM
variable {α:Type} [DecidableEq α]
def kW (l:List (Nat × Nat)):List Nat:=l.flatMap fun r=>List.replicate r.2 r.1
theorem rA (r:Nat × Nat) (l:List (Nat × Nat)):kW (r :: l)=List.replicate r.2 r.1 ++ kW l:=by simp [kW]
inductive Fine:List (Nat × Nat)→Prop
|nil:Fine []
|one (o n):1≤n→Fine [(o,n)]
|cons (o n p m t):1≤n→o≠p→Fine ((p,m) :: t)→Fine ((o,n) :: (p,m) :: t)
theorem qSb {l:List (Nat × Nat)} (h:Fine l) (op:Nat):Fine (gX l op)∧kW (gX l op)=kW l ++ [op]∧(∀ o n t,l=(o,n) :: t→∃ n' t',gX l op=(o,n') :: t'):=by
 induction h with
|nil=>exact ⟨.one _ _ (by omega),by simp [gX,kW],fun _ _ _ h=>by cases h⟩
|one o n hn =>
  by_cases he:o=op
  ·subst he;rw [gX,if_pos rfl];refine ⟨.one _ _ (by omega),?_,fun o' n' t h=>by cases h;exact ⟨_,_,rfl⟩⟩
   simp [kW,List.replicate_succ']
  ·rw [gX,if_neg he];exact ⟨.cons _ _ _ _ _ hn he (.one _ _ (by omega)),by simp [kW],fun o' n' t h=>by cases h;exact ⟨_,_,rfl⟩⟩
|cons o n p m t hn hne ht ih =>
  rw [gX];obtain ⟨h1,h2,h3⟩:=ih;obtain ⟨n',t',e⟩:=h3 p m t rfl;rw [e] at h1 h2 ⊢;refine ⟨.cons _ _ _ _ _ hn hne h1,?_,fun o' n'' t'' h=>by cases h;exact ⟨_,_,rfl⟩⟩
  rw [rA,h2,rA (o,n) ((p,m) :: t),List.append_assoc]
theorem zAt (l:List Nat):∀ (acc:List (Nat × Nat)),Fine acc→Fine (l.foldl gX acc)∧kW (l.foldl gX acc)=kW acc ++ l:=by
 induction l with
|nil=>intro acc h;exact ⟨h,by simp⟩
|cons x t ih =>
  intro acc h;obtain ⟨h1,h2,-⟩:=qSb h x;obtain ⟨h3,h4⟩:=ih _ h1;exact ⟨h3,by rw [List.foldl_cons,h4,h2];simp⟩
theorem qJj (a b:List α):Fine (iF a b)∧kW (iF a b)=steps a b:=by
 have:=zAt (steps a b) [] .nil
 simpa [iF,zHo,kW] using this
theorem Fine.tail {r:Nat × Nat} {l:List (Nat × Nat)} (h:Fine (r :: l)):Fine l:=by
 cases h with
|one=>exact .nil
|cons _ _ _ _ _ _ _ h=>exact h
theorem Fine.head {r:Nat × Nat} {l:List (Nat × Nat)} (h:Fine (r :: l)):1≤r.2:=by
 cases h with
|one _ _ h=>exact h
|cons _ _ _ _ _ h _ _=>exact h
theorem Fine.drop {l:List (Nat × Nat)} (h:Fine l):∀ k,Fine (l.drop k)
|0=>by simpa using h
|k + 1=>by
  have ih:=Fine.drop h k
  by_cases hk:k < l.length
  ·rw [List.drop_eq_getElem_cons hk] at ih;exact ih.tail
  ·rw [List.drop_eq_nil_of_le (by omega)];exact .nil
theorem Fine.next {l:List (Nat × Nat)} (h:Fine l) (k:Nat) (hk:k + 1 < l.length):l[k].1≠l[k + 1].1:=by
 have:=Fine.drop h k
 rw [List.drop_eq_getElem_cons (by omega),List.drop_eq_getElem_cons hk] at this
 cases hh:l[k] with
|mk o n =>
  cases hh2:l[k + 1] with
 |mk p m =>
   rw [hh,hh2] at this
   cases this with
  |cons _ _ _ _ _ _ h _=>exact h
theorem zC5 (a b:List α) (i j op:Nat) (rest:List Nat) (h:steps (a.drop i) (b.drop j)=op :: rest) :
  (op=0∧∃ (hi:i < a.length) (hj:j < b.length),a[i]=b[j]∧rest=steps (a.drop (i + 1)) (b.drop (j + 1)))∨(op=1∧i < a.length∧rest=steps (a.drop (i + 1)) (b.drop j))∨(op=2∧j < b.length∧rest=steps (a.drop i) (b.drop (j + 1))):=by
 by_cases hi:i < a.length
 ·by_cases hj:j < b.length
  ·by_cases he:a[i]=b[j]
   ·rw [qEu a b i j hi hj he] at h
    cases h
    exact .inl ⟨rfl,hi,hj,he,rfl⟩
   ·by_cases hc:at2 a b i (j + 1)≤at2 a b (i + 1) j
    ·rw [pB a b i j hi (.inr ⟨hj,he,hc⟩)] at h
     cases h
     exact .inr (.inl ⟨rfl,hi,rfl⟩)
    ·rw [sC a b i j hj (.inr ⟨hi,he,by omega⟩)] at h
     cases h
     exact .inr (.inr ⟨rfl,hj,rfl⟩)
  ·rw [pB a b i j hi (.inl (by omega))] at h
   cases h
   exact .inr (.inl ⟨rfl,hi,rfl⟩)
 ·by_cases hj:j < b.length
  ·rw [sC a b i j hj (.inl (by omega))] at h
   cases h
   exact .inr (.inr ⟨rfl,hj,rfl⟩)
  ·rw [qHa a b i j (by omega) (by omega)] at h
   cases h
theorem nG:∀ (n:Nat) (a b:List α),a.length + b.length≤n→(steps a b).length≤a.length + b.length
|n,[],[],_=>by simp [steps]
|0,x :: xs,_,h=>by simp at h
|0,_,y :: ys,h=>by simp at h
|n + 1,x :: xs,[],h=>by
  have:=nG n xs [] (by simp at h ⊢;omega)
  rw [steps];simp at this ⊢;omega
|n + 1,[],y :: ys,h=>by
  have:=nG n [] ys (by simp at h ⊢;omega)
  rw [steps];simp at this ⊢;omega
|n + 1,x :: xs,y :: ys,h=>by
  simp only [List.length_cons] at h
  have h1:=nG n xs ys (by omega)
  have h2:=nG n xs (y :: ys) (by simp only [List.length_cons];omega)
  have h3:=nG n (x :: xs) ys (by simp only [List.length_cons];omega)
  rw [steps];simp only [List.length_cons] at *
  split
  ·simp only [List.length_cons];omega
  ·split <;> simp only [List.length_cons] <;> omega
theorem Fine.len {l:List (Nat × Nat)} (h:Fine l):l.length≤(kW l).length:=by
 induction h with
|nil=>simp
|one o n hn=>simp [kW];omega
|cons o n p m t hn hne ht ih=>rw [rA];simp at ih ⊢;omega
theorem zAu {l:List (Nat × Nat)} (k:Nat) (hk:k < l.length):l[k].2≤(kW l).length:=by
 induction l generalizing k with
|nil=>simp at hk
|cons r t ih =>
  rw [rA]
  cases k with
 |zero=>simp
 |succ k=>have:=ih k (by simpa using hk);simp at this ⊢;omega
theorem qXd (a b:List α):(iF a b).length≤a.length + b.length∧∀ k (hk:k < (iF a b).length),(iF a b)[k].2≤a.length + b.length:=by
 obtain ⟨h1,h2⟩:=qJj a b
 have h3:=nG _ a b (Nat.le_refl _)
 rw [← h2] at h3;exact ⟨Nat.le_trans h1.len h3,fun k hk=>Nat.le_trans (zAu k hk) h3⟩
end Go.DiffM
end
section
set_option maxRecDepth 20000
namespace Go.Proofs.YtdfjeokjmigkaaaGreat
open Go Go.Eng Go.RowKit Go.DiffM

def zCd (r:Nat × Nat):List FV:=[.v (.int .i64 r.1),.v (.int .i64 r.2)]
def qBz (l:List (Nat × Nat)):List (List FV):=l.map zCd
theorem qD1 (l:List (Nat × Nat)):(qBz l).length=l.length:=by simp [qBz]
theorem zF9 {l:List (Nat × Nat)} {i:Nat} {d:List FV} (h:i < l.length):(qBz l).getD i d=[.v (.int .i64 (l[i].1:Nat)),.v (.int .i64 (l[i].2:Nat))]:=by unfold qBz;rw [jT h];rfl
theorem zDq {w:World} {v:Value} {fr:Bool} {a:List ByteArray} {A:Nat→Prop} {n0:Nat} (h:RepF w A n0 v (.lst fr (aK a))):SlS w v a:=by
  cases h with
 |lst sz vals hn hc hm hnil hsz ha h1 hr =>
  rw [aF] at hn;subst hn;refine ⟨_,_,rfl,hc,hm,fun h0=>?_⟩
  obtain ⟨b,off,rfl,-,-,-,hcell⟩:=ha h0;refine ⟨b,off,rfl,fun j hj=>?_⟩
  have hj':j < a.length:=by omega
  have hsz1:sz=1:=by rw [← hsz _ (List.getElem_mem (show 0 < (aK a).length by rw [aF];omega))];simp [aK,qB1]
  subst hsz1
  have:=hcell j 0 hj' (by omega)
  simp only [Nat.mul_one,Nat.add_zero] at this;rw [this]
  have hr':=hr j 0 (by rw [aF];exact hj') (by simp [aK,qB1])
  simp only [aK,List.getElem_map,qB1,List.getElem_cons_zero] at hr'
  have e:vals j 0=.string a[j]:=by
    generalize vals j 0=u at hr'
    cases hr';rfl
  rw [e];simp [List.getD_eq_getElem?_getD,hj']
theorem qTm {w:World} {v:Value} {fr:Bool} {a:List ByteArray} {A:Nat→Prop} {n0:Nat} {ρ:Nat→Value} (h:RepH w A n0 ρ v (.lst fr (aK a))):SlS w v a:=by
  cases h with
 |lst h=>exact zDq h
theorem zHm (a b:List ByteArray):HFun Tryz.prog 109 [.lst false (aK a),.lst false (aK b)] (fun h st =>
    (400 < a.length∨400 < b.length)∧h=.tup [.v (.slice none 0 0),.v (.int .i64 4)]∧st=[] ∨
    a.length≤400∧b.length≤400∧h=.tup [.own 0,.v (.int .i64 0)]∧st=[(0,.sl true 143 2 (qBz (iF a b)))]):=by
  intro w vs R;obtain ⟨v1,v2,rfl⟩:∃ v1 v2,vs=[v1,v2]:=by
    match vs,R.1 with
   |[x,y],_=>exact ⟨x,y,rfl⟩
  refine Ret.mono (qRc w v1 v2 a b (qTm (R.2 0 (by simp) (by simp))) (qTm (R.2 1 (by simp) (by simp)))) fun v w' ⟨B,h⟩=>⟨B,?_⟩
  rcases h with ⟨h1,rfl⟩|⟨h1,h2,x,rfl,hE⟩
  · refine ⟨_,_,fun i r hi=>?_,.inl ⟨h1,rfl,rfl⟩,fun _=>undef,fun _=>[],⟨fun id r hr=>by simp [rlk] at hr,fun i j r s b hne hi=>by simp [rlk] at hi,fun k x hk=>by simp [hlk] at hk,⟨B.os,B.tape,B.output,B.size,fun b hlt _=>B.block b hlt⟩,fun b hb=>⟨hb,fun h=>h⟩⟩,?_⟩
    · simp [rlk] at hi
    · exact .tup rfl fun j p q=>by
        match j,q with
       |0,_=>exact .v _
       |1,_=>exact .v _
  · obtain ⟨ρ,xs,G,hρ⟩:=zBp (P:=Tryz.prog) (els:=qBz (iF a b)) B (show Own w' w.heap.size 143 2 x (qBz (iF a b)).length (lX (iF a b)) by rw [qD1];exact hE) (fun y hy=>by
      obtain ⟨r,-,rfl⟩:=List.mem_map.1 hy;rfl) (fun i k hi hk=>by
      rw [qD1] at hi
      have h1:=qE5 (iF a b) i hi
      have hk':k < 2:=by simpa [qBz,zCd] using hk
      have:k=0∨k=1:=by omega
      rcases this with rfl|rfl
      · exact ⟨_,h1.1,rfl,by simp [qBz,zCd]⟩
      · exact ⟨_,h1.2,rfl,by simp [qBz,zCd]⟩)
    refine ⟨_,_,fun i r hi=>?_,.inr ⟨h1,h2,rfl,rfl⟩,ρ,xs,G,?_⟩
    · simp only [rlk] at hi
      split at hi
      · omega
      · cases hi
    · refine .tup rfl fun j p q=>?_
      match j,q with
     |0,_ =>
        have hs:x.oneCell'=true:=by obtain ⟨a,c,e⟩:=eZ (base:=w.heap.size) hE;rw [e];rfl
        have:=RepH.own (w:=w') (A:=Ctx.A (cx w (fun _=>False) (fun b=>b < w.heap.size)) ρ [(0,.sl true 143 2 (qBz (iF a b)))]) (n0:=w.heap.size) (ρ:=ρ) 0 (by rw [hρ];exact hs)
        rw [hρ] at this;exact this
     |1,_=>exact .v _
def vV:List (Nat × Nat)→Nat→Nat→List (Int × Int)
 |[],_,_=>[]
 |(op,n) :: r,i,j=>if op=0 then (List.range n).map (fun (k:Nat)=>(((i + k:Nat):Int),((j + k:Nat):Int))) ++ vV r (i + n) (j + n) else if op=1 then vV r (i + n) j else if op=2 then vV r i (j + n) else vV r i j
def qP3 (a b:List ByteArray):List (Int × Int):=vV (iF a b) 0 0
abbrev zRd (l:List (Nat × Nat)):Row:=.sl true 143 2 (qBz l)
abbrev qHe (l:List (Int × Int)):Row:=.sl true 112 2 (nN l)
set_option maxHeartbeats 1000000 in
theorem zSq (a b:List ByteArray):HFun Tryz.prog 82 [.lst false (aK a),.lst false (aK b)] (fun h st =>
    (400 < a.length∨400 < b.length)∧h=.tup [.v (.slice none 0 0),.v (.int .i64 4)]∧st=[] ∨
    a.length≤400∧b.length≤400∧h=.tup [.own 0,.v (.int .i64 0)]∧st=[(0,qHe (qP3 a b))]):=by
  refine eF (N:=72) Tryz.func82 rfl Tryz.ntmps82 Tryz.results82 (by simp) ?_
  refine zE ?_;refine zJ (fun K hK=>?_);simp (disch:=omega) only [push_cast,↓Int.cast_ofNat_Int,simprocAttr];refine hK _ ?_
  refine zE ?_;refine zJ (fun K hK=>?_);simp (disch:=omega) only [push_cast,↓Int.cast_ofNat_Int,simprocAttr]
  refine hat 136 zWa (zHm a b) (.cons (aH (aN _)) (.cons (aH (aN _)) .nil)) ?_;rintro _ _ (⟨hlim,rfl,rfl⟩|⟨h1,h2,rfl,rfl⟩)
  · with_reducible refine aB ?_;simp (disch:=omega) only [push_cast,↓Int.cast_ofNat_Int,simprocAttr]
    refine hK _ ?_;refine zE ?_;refine zE ?_;refine zJ (fun K hK=>?_);simp (disch:=omega) only [push_cast,↓Int.cast_ofNat_Int,simprocAttr];refine hK _ ?_
    refine zA ?_;refine yD rfl ?_;refine zE ?_;refine zJ (fun K hK=>?_);simp (disch:=omega) only [push_cast,↓Int.cast_ofNat_Int,simprocAttr];refine hK _ ?_
    refine zA ?_;refine zW ?_;refine zK ?_;simp only [yA,yM,yH,yE,aA,aC,yK,yJ,zS,zM,Nat.reduceEqDiff,reduceIte,reduceCtorEq];exact mT (.inl ⟨hlim,rfl,rfl⟩)
  · with_reducible refine aB ?_;simp (disch:=omega) only [push_cast,↓Int.cast_ofNat_Int,simprocAttr]
    refine hK _ ?_;refine zE ?_;refine zE ?_;refine zJ (fun K hK=>?_);simp (disch:=omega) only [push_cast,↓Int.cast_ofNat_Int,simprocAttr];refine hK _ ?_
    refine zA ?_;refine yC rfl ?_;refine zC ?_;refine zE ?_;refine zJ (fun K hK=>?_);simp (disch:=omega) only [push_cast,↓Int.cast_ofNat_Int,simprocAttr];refine hK _ ?_
    refine zE ?_;refine zJ (fun K hK=>?_);simp (disch:=omega) only [push_cast,↓Int.cast_ofNat_Int,simprocAttr];refine hK _ ?_
    refine zE ?_;refine zE ?_;refine zJ (fun K hK=>?_);simp (disch:=omega) only [push_cast,↓Int.cast_ofNat_Int,simprocAttr,qD1];refine hK _ ?_
    obtain ⟨hlen,hcnt⟩:=qXd a b
    have hd:qP3 a b=[] ++ vV ((iF a b).drop 0) 0 0:=rfl
    generalize iF a b=l at *
    have hcnt:∀ k (hk:k < l.length),l[k].2≤800:=fun k hk=>by have:=hcnt k hk;omega
    have hlen:l.length≤800:=by omega
    generalize qP3 a b=P at *
    refine zA ?_;refine zD ?_;refine bR (fun x:Nat × Nat × Nat × List (Int × Int)=>⟨[(8,.own 184),(9,.v (.int .i64 x.2.1)),(10,.v (.int .i64 x.2.2.1)),(24,.own 136),(25,.v (.int .i64 l.length)),(26,.v (.int .i64 x.1))],[(136,zRd l),(184,qHe x.2.2.2)]⟩)
      (fun x=>x.1≤l.length∧x.2.1≤x.1 * 800∧x.2.2.1≤x.1 * 800∧x.2.2.2.length≤x.1 * 800∧P=x.2.2.2 ++ vV (l.drop x.1) x.2.1 x.2.2.1) (fun x=>l.length - x.1) [8,9,10,24,25,26] [136,184] (0,0,0,[]) rfl
      ⟨Nat.zero_le _,Nat.zero_le _,Nat.zero_le _,Nat.zero_le _,hd⟩ ?_
    rintro ⟨n,i,j,out⟩ ⟨hn,hi,hj,ho,hP⟩;simp only at hn hi hj ho hP;refine zE ?_;refine zJ (fun K hK=>?_);simp (disch:=omega) only [push_cast,↓Int.cast_ofNat_Int,simprocAttr];refine hK _ ?_
    refine zE ?_;refine eQ rfl (fun hlt=>?_) (fun hge=>?_)
    · have hnl:n < l.length:=by simpa using hlt
      have hc:=hcnt n hnl
      rw [List.drop_eq_getElem_cons hnl] at hP;obtain ⟨op,c,hx⟩:∃ op c,l[n]=(op,c):=⟨l[n].1,l[n].2,rfl⟩;rw [hx] at hP hc;simp only at hc;refine zC ?_;refine zE ?_;refine zD ?_;refine zE ?_;refine zJ (fun K hK=>?_);simp (disch:=omega) only [push_cast,↓Int.cast_ofNat_Int,simprocAttr,qD1,zF9,hx];refine hK _ ?_
      refine zE ?_;refine zJ (fun K hK=>?_);simp (disch:=omega) only [push_cast,↓Int.cast_ofNat_Int,simprocAttr];refine hK _ ?_
      by_cases o0:op=0
      · subst o0
        refine zA ?_;refine zD ?_;refine zE ?_;refine zJ (fun K hK=>?_);simp (disch:=omega) only [push_cast,↓Int.cast_ofNat_Int,simprocAttr];refine hK _ ?_
        refine zA ?_;refine yD rfl ?_;refine zE ?_;refine zE ?_;refine zJ (fun K hK=>?_);simp (disch:=omega) only [push_cast,↓Int.cast_ofNat_Int,simprocAttr];refine hK _ ?_
        refine yB [8,9,10,12,24,25,26,35,36] [96,136,184] (by simp only [zZ,zR,zP,zQ,zN,zS,zM,zX,zU,Nat.reduceEqDiff,reduceIte];exact rfl) ?_
        refine zD ?_;refine bR (fun x:Nat × List (Int × Int)=>⟨[(8,.own 184),(9,.v (.int .i64 i)),(10,.v (.int .i64 j)),(12,.ptr 96 2 0 0),(24,.own 136),(25,.v (.int .i64 l.length)),(26,.v (.int .i64 n)),(35,.v (.int .i64 c)),(36,.v (.int .i64 x.1))],[(96,.bx true 143 [.v (.int .i64 (0:Nat)),.v (.int .i64 c)]),(136,zRd l),(184,qHe x.2)]⟩)
          (fun x=>x.1≤c∧x.2=out ++ (List.range x.1).map (fun (k:Nat)=>(((i + k:Nat):Int),((j + k:Nat):Int)))) (fun x=>c - x.1) [8,9,10,12,24,25,26,35,36] [96,136,184] (0,out) rfl
          ⟨Nat.zero_le _,by simp⟩ ?_
        rintro ⟨k,out'⟩ ⟨hk,hout⟩;simp only at hk hout
        have hol:out'.length≤640000 + 800:=by rw [hout];simp;omega
        refine zE ?_;refine zJ (fun K hK=>?_);simp (disch:=omega) only [push_cast,↓Int.cast_ofNat_Int,simprocAttr];refine hK _ ?_
        refine zE ?_;refine eQ rfl (fun hlt2=>?_) (fun hge2=>?_)
        · have hkc:k < c:=by simpa using hlt2
          refine zC ?_;refine zE ?_;refine zD ?_;refine zE ?_;refine zJ (fun K hK=>?_);simp (disch:=omega) only [push_cast,↓Int.cast_ofNat_Int,simprocAttr];refine hK _ ?_
          refine zA ?_;refine zJ (fun K hK=>?_);simp (disch:=omega) only [push_cast,↓Int.cast_ofNat_Int,simprocAttr,pQ,qL9];refine hK _ ?_
          refine zB ?_;refine zA ?_;refine zJ (fun K hK=>?_);simp (disch:=omega) only [push_cast,↓Int.cast_ofNat_Int,simprocAttr];refine hK _ ?_
          refine zA ⟨(k + 1,out' ++ [((i:Int) + (k:Int),(j:Int) + (k:Int))]),rfl,⟨hkc,?_⟩,by show c - (k + 1) < c - k;omega⟩
          rw [hout,List.range_succ,List.map_append,List.append_assoc];rfl
        · have hkc : k = c := by have : c ≤ k := by simpa using hge2
                                 omega
          subst hkc;refine zT ?_;refine zG ?_;refine zG ?_;refine zH ?_;refine zE ?_;refine zJ (fun K hK=>?_);simp (disch:=omega) only [push_cast,↓Int.cast_ofNat_Int,simprocAttr];refine hK _ ?_
          refine zA ?_;refine zJ (fun K hK=>?_);simp (disch:=omega) only [push_cast,↓Int.cast_ofNat_Int,simprocAttr];refine hK _ ?_
          refine zB ?_;refine zB ?_;refine zA ?_;refine zJ (fun K hK=>?_);simp (disch:=omega) only [push_cast,↓Int.cast_ofNat_Int,simprocAttr];refine hK _ ?_
          refine zA ⟨(n + 1,i + k,j + k,out'),rfl,⟨hnl,by show i + k≤(n + 1) * 800;omega,by show j + k≤(n + 1) * 800;omega,by show out'.length≤(n + 1) * 800;rw [hout];simp;omega,?_⟩,by show l.length - (n + 1) < l.length - n;omega⟩
          rw [hP,vV,if_pos rfl,hout,List.append_assoc]
      · refine zA ?_;refine zD ?_;refine zE ?_;refine zJ (fun K hK=>?_);simp (disch:=omega) only [push_cast,↓Int.cast_ofNat_Int,simprocAttr];refine hK _ ?_
        refine zA ?_;refine yC rfl ?_
        by_cases o1:op=1
        · subst o1
          refine zE ?_;refine zJ (fun K hK=>?_);simp (disch:=omega) only [push_cast,↓Int.cast_ofNat_Int,simprocAttr];refine hK _ ?_
          refine zA ?_;refine yD rfl ?_;refine zJ (fun K hK=>?_);simp (disch:=omega) only [push_cast,↓Int.cast_ofNat_Int,simprocAttr];refine hK _ ?_
          refine zB ?_;refine zB ?_;refine zA ?_;refine zJ (fun K hK=>?_);simp (disch:=omega) only [push_cast,↓Int.cast_ofNat_Int,simprocAttr];refine hK _ ?_
          refine zA ⟨(n + 1,i + c,j,out),rfl,⟨hnl,by show i + c≤(n + 1) * 800;omega,by show j≤(n + 1) * 800;omega,by show out.length≤(n + 1) * 800;omega,?_⟩,by show l.length - (n + 1) < l.length - n;omega⟩
          rw [hP,vV,if_neg (by omega),if_pos rfl]
        · refine zE ?_;refine zJ (fun K hK=>?_);simp (disch:=omega) only [push_cast,↓Int.cast_ofNat_Int,simprocAttr];refine hK _ ?_
          refine zA ?_;refine yC rfl ?_
          by_cases o2:op=2
          · subst o2
            refine zE ?_;refine zJ (fun K hK=>?_);simp (disch:=omega) only [push_cast,↓Int.cast_ofNat_Int,simprocAttr];refine hK _ ?_
            refine zA ?_;refine yD rfl ?_;refine zJ (fun K hK=>?_);simp (disch:=omega) only [push_cast,↓Int.cast_ofNat_Int,simprocAttr];refine hK _ ?_
            refine zB ?_;refine zB ?_;refine zA ?_;refine zJ (fun K hK=>?_);simp (disch:=omega) only [push_cast,↓Int.cast_ofNat_Int,simprocAttr];refine hK _ ?_
            refine zA ⟨(n + 1,i,j + c,out),rfl,⟨hnl,by show i≤(n + 1) * 800;omega,by show j + c≤(n + 1) * 800;omega,by show out.length≤(n + 1) * 800;omega,?_⟩,by show l.length - (n + 1) < l.length - n;omega⟩
            rw [hP,vV,if_neg (by omega),if_neg (by omega),if_pos rfl]
          · refine zE ?_;refine zJ (fun K hK=>?_);simp (disch:=omega) only [push_cast,↓Int.cast_ofNat_Int,simprocAttr];refine hK _ ?_
            refine zA ?_;refine yC rfl ?_;refine zC ?_;refine zB ?_;refine zB ?_;refine zA ?_;refine zJ (fun K hK=>?_);simp (disch:=omega) only [push_cast,↓Int.cast_ofNat_Int,simprocAttr];refine hK _ ?_
            refine zA ⟨(n + 1,i,j,out),rfl,⟨hnl,by show i≤(n + 1) * 800;omega,by show j≤(n + 1) * 800;omega,by show out.length≤(n + 1) * 800;omega,?_⟩,by show l.length - (n + 1) < l.length - n;omega⟩
            rw [hP,vV,if_neg o0,if_neg o1,if_neg o2]
    · have hge' : n = l.length := by have : l.length ≤ n := by simpa using hge
                                     omega
      subst hge';refine zT ?_;refine zG ?_;refine zG ?_;refine zH ?_;refine zE ?_;refine zJ (fun K hK=>?_);simp (disch:=omega) only [push_cast,↓Int.cast_ofNat_Int,simprocAttr];refine hK _ ?_
      refine zA ?_;refine zW ?_;simp only [yA,yM,yH,yE,aA,aC,yK,yJ,zS,zM,Nat.reduceEqDiff,reduceIte,reduceCtorEq];refine qBk rfl (qJp _) (.inr ⟨h1,h2,rfl,?_⟩);rw [hP,List.drop_eq_nil_of_le (Nat.le_refl _),vV,List.append_nil]
end Go.Proofs.YtdfjeokjmigkaaaGreat
end
