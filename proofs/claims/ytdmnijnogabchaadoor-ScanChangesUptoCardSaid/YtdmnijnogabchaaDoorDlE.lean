/-
  The disk's calls: List.
-/
import Derived.Test.YtdmnijnogabchaaDoorPln
import Derived.Test.YtdmnijnogabchaaDoorUsK
set_option linter.unusedSimpArgs false
set_option linter.unusedVariables false
set_option maxRecDepth 20000
namespace Go.Proofs.YtdmnijnogabchaaDoor
open Go Go.Eng Go.RowKit Go.Tr Go.Dk
structure LiI (L:List (ByteArray × Itm)) (p:ByteArray) (left:List UInt8→Bool) (os:List ByteArray):Prop where
 nd:os.Nodup
 iff:∀ s,s ∈ os↔(bM L s).isSome=true∧left s.data.toList=false∧par s=p
theorem qYe {q s:ByteArray} (h:q≠s):(q.data.toList == s.data.toList)=false:=by
 rw [beq_eq_false_iff_ne];intro e;exact h (by rw [← gP q,e,gP])
theorem LiI.skip {L:List (ByteArray × Itm)} {p s:ByteArray} {left:List UInt8→Bool} {os:List ByteArray} (h:LiI L p left os) (hn:par s≠p):LiI L p (fun q=>left q && !(q == s.data.toList)) os :=
 ⟨h.nd,fun q=>by
  rw [h.iff q]
  by_cases hq:q=s
  ·subst hq;exact ⟨fun a=>absurd a.2.2 hn,fun a=>absurd a.2.2 hn⟩
  ·simp only [qYe hq,Bool.not_false,Bool.and_true]⟩
theorem LiI.push {L:List (ByteArray × Itm)} {p s:ByteArray} {left:List UInt8→Bool} {os:List ByteArray} {x:Itm} (h:LiI L p left os) (hx:bM L s=some x) (hl:left s.data.toList=true) (hp:par s=p):LiI L p (fun q=>left q && !(q == s.data.toList)) (os ++ [s]):=by
 have hno:s ∉ os:=fun hm=>by
  have:=((h.iff s).1 hm).2.1
  rw [hl] at this
  cases this
 refine ⟨?_,fun q=>?_⟩
 ·rw [List.nodup_append];exact ⟨h.nd,by simp,fun a ha b hb=>by
   rw [List.mem_singleton] at hb;subst hb;intro e;subst e;exact hno ha⟩
 ·rw [List.mem_append,List.mem_singleton,h.iff q]
  by_cases hq:q=s
  ·subst hq;simp [hx,hp]
  ·simp only [qYe hq,Bool.not_false,Bool.and_true,hq,or_false]
theorem zFb (s:ByteArray):∀ (L:List (ByteArray × Itm)),(del s L).length≤L.length
|[]=>Nat.le_refl _
|(k,x) :: r=>by
  have:=zFb s r
  rw [del];split <;> simp only [List.length_cons] <;> omega
theorem zFa (s:ByteArray):∀ (L:List (ByteArray × Itm)),(bM L s).isSome=true→(del s L).length + 1≤L.length
|[],h=>by cases h
|(k,x) :: r,h=>by
  have h1:=zFb s r
  have h2:=zFa s r
  rw [bM] at h;rw [del];split <;> rename_i hk
  ·simp only [List.length_cons];omega
  ·rw [if_neg hk] at h
   have:=h2 h
   simp only [List.length_cons];omega
theorem qYa:∀ (os:List ByteArray) (L:List (ByteArray × Itm)),os.Nodup→(∀ s ∈ os,(bM L s).isSome=true)→os.length≤L.length
|[],_,_,_=>Nat.zero_le _
|s :: r,L,hn,h=>by
  rw [List.nodup_cons] at hn
  have h1:=qYa r (del s L) hn.2 fun q hq=>by
   have hqs:q≠s:=fun e=>hn.1 (e ▸ hq)
   rw [qGk,if_neg hqs];exact h q (List.mem_cons_of_mem _ hq)
  have h2:=zFa s L (h s (List.mem_cons_self ..))
  simp only [List.length_cons];omega
theorem LiI.len {L:List (ByteArray × Itm)} {p:ByteArray} {left:List UInt8→Bool} {os:List ByteArray} (h:LiI L p left os):os.length≤L.length:=qYa os L h.nd fun s hs=>((h.iff s).1 hs).1
theorem qWo {L:List (ByteArray × Itm)} (hr:pM L) (p:ByteArray):((L.filter fun e=>decide (par e.1=p)).map fun e=>e.1).Pairwise fun a b=>blt a b=true:=by
 rw [List.pairwise_map];exact List.Pairwise.filter _ hr
theorem zGk {L:List (ByteArray × Itm)} {p:ByteArray} {left:List UInt8→Bool} {os:List ByteArray} (hr:pM L) (h:LiI L p left os) (hz:∀ s,left s=false):tU os=(L.filter fun e=>decide (par e.1=p)).map fun e=>e.1:=by
 have h1:=qWo hr p
 refine (qEw (h1.imp fun {a b} h=>?_) ?_).symm
 ·exact jN h
 ·refine (List.perm_ext_iff_of_nodup (h1.imp fun {a b} h e=>?_) h.nd).2 fun q=>?_
  ·subst e
   have:=jN h
   rw [h] at this
   cases this
  ·rw [h.iff q];simp only [List.mem_map,List.mem_filter,decide_eq_true_eq,hz,true_and];constructor
   ·rintro ⟨⟨k,x⟩,⟨hm,hp⟩,rfl⟩;exact ⟨by rw [jE hr hm];rfl,hp⟩
   ·rintro ⟨hs,hp⟩;obtain ⟨x,hx⟩:=Option.isSome_iff_exists.1 hs;exact ⟨(q,x),⟨fX hx,hp⟩,rfl⟩
set_option maxHeartbeats 1000000 in
theorem zH7 (d:Dk) (B:Int) (hd:d.Ok B) (hB:B≤1099511627776) (p:ByteArray) (hp:p.size≤1048576) (hl:d.L.length≤4194304) (r1 r2:Nat) :
  HFunM Tryd.prog 42 [.ptr 0 6 0 0,.v (.string p)] [(0,.bx false 50 (d.cells r1 r2))] (d.maps kS r1 r2) (fun h st g=>h=.own 1∧st=[(0,.bx false 50 (d.cells r1 r2)),(1,.sl true 9 1 (bZ (xT d p)))]∧g=d.maps kS r1 r2):=by
 refine nH (N:=31) Tryd.func42 rfl Tryd.ntmps42 Tryd.results42 (by simp) ?_
 obtain ⟨hri,hke,hto,-,-,-,-,-⟩:=hd;obtain ⟨L,R,steps,stamps,armed,down,n,m⟩:=d;simp only at hri hke hto hl;simp only [bW,eE];refine aA ?_;refine aD (fun K hK=>?_);simp (disch:=omega) only [push_cast,↓iC9,simprocAttr];refine hK _ ?_;clear hK K
 refine aA ?_;refine aD (fun K hK=>?_);simp (disch:=omega) only [push_cast,↓iC9,simprocAttr];refine hK _ ?_;clear hK K
 refine aA ?_;refine aA ?_;refine aD (fun K hK=>?_);simp (disch:=omega) only [push_cast,↓iC9,simprocAttr];refine hK _ ?_;clear hK K
 refine aB ?_;refine bT rfl ?_;refine aY ?_;refine aA ?_;refine aA ?_;refine bK ?_;refine aQ 4 (fun K1 hK1=>?_);simp (disch:=omega) only [push_cast,↓iC9,simprocAttr];refine hK1 _ ?_;(try clear hK1 K1)
 refine qPy (i:=0) mtI rfl rfl rfl rfl rfl fun it cnt=>?_
 refine bA ?_;refine aB ?_;refine bR ?_;rw [show ([]:List (List FV))=bZ [] from rfl]
 refine sN (ι:=((List UInt8→Bool) × Nat × Option (ByteArray × Value)) × List ByteArray) (fun q=>⟨[(0,.ptr 0 6 0 0),(1,.v (.string p)),(5,.own 56),(15,.v (.pointer (some ⟨it,0,none⟩)))],[(0,.bx false 50 [.v (.map (some r1)),.v (.map (some r2)),.v (.int .i64 steps),.v (.int .i64 stamps),.v (.int .i64 armed),.v (.bool down)]),(56,.sl true 9 1 (bZ q.2))]⟩)
  (fun q=>[.itr it r1 kS n (tab Itm.val L) q.1.1 q.1.2.1 q.1.2.2,.map r2 kS m (tab gN R)]) (fun q=>LiI L p q.1.1 q.2) (fun q=>q.1.2.1) [0,1,5,15] [0,56] ((fun s=>(tab Itm.val L s).isSome,cnt,none),[]) rfl rfl ?_ ?_
 ·refine ⟨List.nodup_nil,fun s=>⟨fun h=>(List.not_mem_nil h).elim,fun h=>?_⟩⟩
  have h1:(tab Itm.val L s.data.toList).isSome=false:=h.2.1
  rw [rW,h.1] at h1
  cases h1
 ·rintro ⟨⟨left,cn,cur⟩,os⟩ hI;dsimp only at hI ⊢;refine aA ?_;refine bK ?_;refine qVm (i:=0) mtI rfl rfl rfl rfl rfl (fun hz=>?_) (fun s w c' hle hM hsz hlt=>?_)
  ·refine aQ 1 (fun K1 hK1=>?_);simp (disch:=omega) only [push_cast,↓iC9,simprocAttr,aF,aE];refine hK1 _ ?_;(try clear hK1 K1)
   refine bA ?_;refine aA ?_;refine bT rfl ?_;refine kL ?_;refine eJ ?_;refine eJ ?_;refine kC ?_;refine aA ?_;refine qZ2 (i:=0) rfl ?_
   have hol:=hI.len
   refine aD (fun K hK=>?_);simp (disch:=omega) only [push_cast,↓iC9,simprocAttr]
   refine zB7 (l:=os) (by omega) rfl ?_
   with_reducible refine aP ?_;simp (disch:=omega) only [push_cast,↓iC9,simprocAttr]
   refine hK _ ?_;clear hK K;refine aA ?_;refine aD (fun K hK=>?_);simp (disch:=omega) only [push_cast,↓iC9,simprocAttr];refine hK _ ?_;clear hK K
   refine aB ?_;refine bN ?_;simp only [aN,aU,yH,yE,yK,yJ,aW,zS,zM,Nat.reduceEqDiff,reduceIte,reduceCtorEq];refine dA [0,56] [] (by first|rfl|simp [bsL,MO.bs]) (by decide) (by decide) (by simp only [push_cast,simprocAttr]) (by simp only [push_cast,simprocAttr]) (by simp only [push_cast,simprocAttr];rfl) (by simp only [push_cast,simprocAttr];rfl) ?_
   refine ⟨rfl,?_,rfl⟩;rw [zGk hri hI hz];rfl
  ·obtain ⟨x,hx,rfl⟩:∃ x,bM L s=some x∧w=x.val:=by
    rw [uK] at hM
    cases hx:bM L s with
   |none=>rw [hx] at hM;cases hM
   |some x=>rw [hx] at hM;exact ⟨x,rfl,(Option.some.inj hM).symm⟩
   have hss:=hke _ (fX hx)
   refine aQ 1 (fun K1 hK1=>?_);simp (disch:=omega) only [push_cast,↓iC9,simprocAttr,aF,aE,qRa,mG];refine hK1 _ ?_;(try clear hK1 K1)
   refine bA ?_;refine aA ?_;refine dP rfl ?_;refine aY ?_;refine aB ?_;refine bR ?_;refine aA ?_;refine bK ?_;refine qPz (i:=0) rfl rfl rfl rfl rfl ?_;refine aQ 2 (fun K1 hK1=>?_);simp (disch:=omega) only [push_cast,↓iC9,simprocAttr,aF,aE,qRa,mG];refine hK1 _ ?_;(try clear hK1 K1)
   refine bA ?_;refine aA ?_;refine aD (fun K hK=>?_);simp (disch:=omega) only [push_cast,↓iC9,simprocAttr]
   refine cU zLk (qSh s hss) (.cons (.v _) .nil) ?_;with_reducible refine aP ?_;simp (disch:=omega) only [push_cast,↓iC9,simprocAttr]
   refine hK _ ?_;clear hK K;refine aB ?_
   by_cases hv:par s=p
   ·refine bS rfl (fun _=>?_) (fun hf=>by simp [hv] at hf)
    have hol:=hI.len
    refine aD (fun K hK=>?_);simp (disch:=omega) only [push_cast,↓iC9,simprocAttr,aM]
    (repeat refine ⟨by first|omega|decide|((repeat' apply And.intro) <;> first|omega|decide),?_⟩)
    refine hK _ ?_;clear hK K;refine bP ?_;refine aB ?_;refine ⟨((fun q=>left q && !(q == s.data.toList),c',some (s,x.val)),os ++ [s]),?_,rfl,hI.push hx hle hv,hlt⟩
    simp only [bZ,List.map_append,List.map_cons,List.map_nil];rfl
   ·refine bS rfl (fun ht=>by simp [hv] at ht) (fun _=>?_)
    refine aY ?_;refine bP ?_;refine aB ?_;exact ⟨((fun q=>left q && !(q == s.data.toList),c',some (s,x.val)),os),rfl,rfl,hI.skip hv,hlt⟩
end Go.Proofs.YtdmnijnogabchaaDoor
