/-
  slices.Clone and slices.Equal of texts.
-/
import Derived.Test.YtmgilahhnbopmaaSmH
import Derived.Test.YtmgilahhnbopmaaShpM
set_option linter.unusedSimpArgs false
set_option linter.unusedVariables false
set_option maxRecDepth 20000
namespace Go.Proofs.Ytmgilahhnbopmaa
open Go Go.Eng Go.RowKit

theorem pM (a:List ByteArray) (ha:a.length≤1000000000000):HFun Try.prog 23 [.lst false (aD a)] (fun h st=>h=.own 0∧st=[(0,.sl true 9 1 (aD a))]):=by
 intro w vs R;obtain ⟨v,rfl⟩:∃ v,vs=[v]:=by
  match vs,R.1 with
 |[v],_=>exact ⟨v,rfl⟩
 have hv:=R.2 0 (by simp) (by simp)
 simp only [List.getElem_cons_zero] at hv
 cases hv with
|lst hF =>
 cases hF with
|lst sz vals hn hc hm hnil hsz hadd h1 hr =>
 rename_i ad n cap
 have hn':a.length=n:=by rw [← hn,aA]
 subst hn'
 have fin:∀ {v':Value} {w':World} {l:List Value},Own w' w.heap.size 9 1 v' a.length l→Below w.heap.size w w'→(∀ i (hi:i < a.length),l[i]?=some (.string a[i])) →
   Below w.heap.size w w'∧∃ h st',(∀ i r,rlk st' i=some r→i < 8)∧(h=.own 0∧st'=[(0,Row.sl true 9 1 (aD a))])∧InvV (cx w (fun _=>False) (fun b=>b < w.heap.size)) ⟨[],st'⟩ h v' (fun _=>none) w':=by
  intro v' w' l hO hB hl;obtain ⟨ρ,xs,G,e⟩:=qY9 (P:=Try.prog) (ty:=9) (sz:=1) (els:=aD a) (v:=v') (l:=l) hB (by rw [aA];exact hO) (fun x hx=>by simp [aD,tW] at hx;obtain ⟨b,_,rfl⟩:=hx;rfl) (fun i k hi hk=>by
   have hi':i < a.length:=by rw [aA] at hi;exact hi
   have hk':k=0:=by simpa [aD,tW] using hk
   subst hk';refine ⟨.string a[i],by rw [Nat.mul_one,Nat.add_zero];exact hl i hi',rfl,?_⟩
   simp [aD,tW])
  refine ⟨hB,.own 0,_,fun i r hi=>?_,⟨rfl,rfl⟩,ρ,xs,G,?_⟩
  ·simp only [rlk] at hi;split at hi
   ·omega
   ·cases hi
  ·rw [← e];refine .own 0 ?_;rw [e];obtain ⟨_,_,rfl⟩:=dC hO;rfl
 by_cases h0:a.length=0
 ·have:a=[]:=List.eq_nil_of_length_eq_zero h0
  subst this
  cases ad with
 |none =>
   refine (Try.slices_Clone_string_nil 0 cap w).mono ?_;rintro e w' ⟨rfl,rfl⟩;exact qAa (fin (World.ownsRow_nil _ _ 9 1) (Below.refl _ _) (fun i hi=>absurd hi (Nat.not_lt_zero _)))
 |some ad =>
   refine (Try.slices_Clone_string_zero ad cap w).mono ?_;rintro e w' ⟨v',rfl,hO,-,hB⟩;exact qAa (fin hO hB (fun i hi=>absurd hi (Nat.not_lt_zero _)))
 ·obtain ⟨bk,off,rfl,-,hbk,-,hcell⟩:=hadd (by omega)
  have hszz:sz=1:=by
   have:=hsz ((aD a)[0]'(by rw [aA];omega)) (List.getElem_mem _)
   rw [← this];simp [aD,tW]
  subst hszz
  have hcl:∀ j,j < a.length→w.cell? ⟨bk,off + j,none⟩=some (.string (a.getD j ByteArray.empty)):=fun j hj=>by
   have h3:=hcell j 0 hj (by omega)
   rw [show off + (j * 1 + 0)=off + j by omega] at h3
   rw [h3]
   have h4:=hr j 0 (by rw [aA];exact hj) (by simp [aD,tW])
   simp only [aD,tW,List.getElem_map,List.getElem_cons_zero] at h4;generalize vals j 0=u at h4
   cases h4
   rw [List.getD_eq_getElem?_getD,List.getElem?_eq_getElem hj];rfl
  refine (Try.slices_Clone_string bk off a.length cap a w (Nat.le_refl _) (by omega) hcl).mono ?_
  rintro e w' ⟨v',rfl,hO,hB⟩;exact qAa (fin hO hB.2 (fun i hi=>by rw [List.take_length];simp [hi]))
def seE (a b:List ByteArray) (i:Nat):HS:=⟨[(0,.lst false (aD a)),(1,.lst false (aD b)),(11,.lst false (aD a)),(12,.v (.int .i64 a.length)),(13,.v (.int .i64 i))],[]⟩
set_option maxHeartbeats 4000000 in
theorem qH5 (a b:List ByteArray) (ha:a.length≤140737488355328) (hb:b.length≤140737488355328):HFun Try.prog 25 [.lst false (aD a),.lst false (aD b)] (fun h st=>h=.v (.bool (decide (a=b)))):=by
 refine rT (N:=26) Try.func25 rfl Try.ntmps25 Try.results25 (by simp) ?_
 refine zE ?_;refine zJ (fun K hK=>?_);simp (disch:=omega) only [push_cast,↓iC9,simprocAttr];refine hK _ ?_;clear hK K
 by_cases h:a.length=b.length
 ·refine zE ?_;refine zE ?_;refine zJ (fun K hK=>?_);simp (disch:=omega) only [push_cast,↓iC9,simprocAttr,aA];refine hK _ ?_;clear hK K
  refine yC rfl ?_;refine zC ?_;refine zE ?_;refine zE ?_;refine zJ (fun K hK=>?_);simp (disch:=omega) only [push_cast,↓iC9,simprocAttr,aA];refine hK _ ?_;clear hK K
  refine zA ?_;refine zD ?_;refine fS (seE a b) (fun i=>i≤a.length∧a.take i=b.take i) (fun i=>a.length - i) [0,1,11,12,13] [] 0 (by simp only [zZ,zR,zP,zQ,zN,zS,zM,zX,zU,Nat.reduceEqDiff,reduceIte,seE];rfl) ⟨Nat.zero_le _,by simp⟩ ?_
  rintro i ⟨hi,he⟩;simp only [seE]
  by_cases hlt:i < a.length
  ·have hlt2:i < b.length:=by omega
   refine zE ?_;refine zJ (fun K hK=>?_);simp (disch:=omega) only [push_cast,↓iC9,simprocAttr,aA];refine hK _ ?_;clear hK K
   refine zE ?_;refine yD rfl ?_;refine zC ?_;refine zE ?_;refine zD ?_;refine zE ?_;refine zJ (fun K hK=>?_);simp (disch:=omega) only [push_cast,↓iC9,simprocAttr];refine hK _ ?_;clear hK K
   by_cases heq:a[i]=b[i]
   ·have hd:decide (a[i]=b[i])=true:=decide_eq_true heq
    refine zE ?_;refine HW_drw 9 mixed (by kernel_rfl) (fun K hK=>?_);simp (disch:=omega) only [push_cast,↓iC9,simprocAttr,aA,fT,bE,hd]
    with_reducible refine aH ?_;simp (disch:=omega) only [push_cast,↓iC9,simprocAttr]
    refine hK _ ?_;clear hK K;refine yC rfl ?_;refine zC ?_;refine zB ?_;refine zA ?_;refine zJ (fun K hK=>?_);simp (disch:=omega) only [push_cast,↓iC9,simprocAttr];refine hK _ ?_;clear hK K
    refine zA ?_;refine ⟨i + 1,by simp only [zZ,zR,zP,zQ,zN,zS,zM,zX,zU,Nat.reduceEqDiff,reduceIte,seE];try rfl,⟨hlt,?_⟩,by omega⟩
    rw [List.take_succ_eq_append_getElem hlt,List.take_succ_eq_append_getElem hlt2,he,heq]
   ·have hd:decide (a[i]=b[i])=false:=decide_eq_false heq
    have hne:decide (a=b)=false:=decide_eq_false (fun e=>heq (by subst e;rfl))
    rw [hne];refine zE ?_;refine HW_drw 9 mixed (by kernel_rfl) (fun K hK=>?_);simp (disch:=omega) only [push_cast,↓iC9,simprocAttr,aA,fT,bE,hd]
    with_reducible refine aH ?_;simp (disch:=omega) only [push_cast,↓iC9,simprocAttr]
    refine hK _ ?_;clear hK K;refine yD rfl ?_;refine zE ?_;refine zJ (fun K hK=>?_);simp (disch:=omega) only [push_cast,↓iC9,simprocAttr];refine hK _ ?_;clear hK K
    refine zA ?_;refine zW ?_;refine zL ?_;refine zK ?_;refine zK ?_;refine zL ?_;refine zK ?_;simp only [yA,yM,yH,yE,aR,bT,yK,yJ,zS,zM,Nat.reduceEqDiff,reduceIte,reduceCtorEq];exact jK rfl
  ·have hab:a=b:=by
    rw [List.take_of_length_le (by omega),List.take_of_length_le (by omega)] at he;exact he
   rw [decide_eq_true hab];refine zE ?_;refine zJ (fun K hK=>?_);simp (disch:=omega) only [push_cast,↓iC9,simprocAttr,aA];refine hK _ ?_;clear hK K
   refine zE ?_;refine yC rfl ?_;refine zT ?_;refine zG ?_;refine zG ?_;refine zH ?_;refine zE ?_;refine zJ (fun K hK=>?_);simp (disch:=omega) only [push_cast,↓iC9,simprocAttr];refine hK _ ?_;clear hK K
   refine zA ?_;refine zW ?_;simp only [yA,yM,yH,yE,aR,bT,yK,yJ,zS,zM,Nat.reduceEqDiff,reduceIte,reduceCtorEq];exact jK rfl
 ·have hne:decide (a=b)=false:=decide_eq_false (fun e=>h (by rw [e]))
  rw [hne];refine zE ?_;refine zE ?_;refine zJ (fun K hK=>?_);simp (disch:=omega) only [push_cast,↓iC9,simprocAttr,aA];refine hK _ ?_;clear hK K
  refine yD rfl ?_;refine zE ?_;refine zJ (fun K hK=>?_);simp (disch:=omega) only [push_cast,↓iC9,simprocAttr];refine hK _ ?_;clear hK K
  refine zA ?_;refine zW ?_;refine zK ?_;simp only [yA,yM,yH,yE,aR,bT,yK,yJ,zS,zM,Nat.reduceEqDiff,reduceIte,reduceCtorEq];exact jK rfl
end Go.Proofs.Ytmgilahhnbopmaa
