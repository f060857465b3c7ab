/-
  The statements' first facts: a zRi that goes to the spoke; xX lists that are trees.
-/
import Derived.Test.YtbdomkfdkfdfgaaGreatDoorRcG
import Derived.Test.YtbdomkfdkfdfgaaGreatDoorMu
import Derived.Test.YtbdomkfdkfdfgaaGreatDoorTrQ
import Derived.Test.YtbdomkfdkfdfgaaGreatDoorSrs
set_option linter.unusedSimpArgs false
set_option linter.unusedVariables false
section
set_option maxRecDepth 20000
namespace Go.Rc
open Go Go.Eng Go.RowKit Go.Tr Go.Dk
theorem zFq (L:LN):∀ x ∈ itl L,∀ f ∈ x,FreshF f:=fun x hx f hf=>by
 obtain ⟨h,-,rfl⟩:=List.mem_map.1 hx;simp only [List.mem_cons,List.not_mem_nil,or_false] at hf
 rcases hf with rfl|rfl
 ·exact .v _
 ·exact .v _
def qA8 (mg:(Int × ByteArray)→(Int × ByteArray)→(Int × ByteArray)→Bool) (A H S:List Ent):LN:=dQ mg A H S 1048577 { data:=#[] }
theorem zGq:TB []:=⟨List.Pairwise.nil,by simp,(fun e he=>by cases he),fun e he=>by cases he⟩
abbrev rcA:ByteArray:={ data:=#[97] }
abbrev zS4:ByteArray:={ data:=#[104,105] }
abbrev rcT:List Ent:=[(rcA,2,zS4)]
theorem tb_rcT:TB rcT:=⟨by simp [rise],by simp,(fun e he=>by simp at he;subst he;decide),fun e he=>by simp at he;subst he;decide⟩
theorem zG4 {mg:(Int × ByteArray)→(Int × ByteArray)→(Int × ByteArray)→Bool} (k:Nat):dQ mg [] rcT [] (k + 1) { data:=#[] }=[(rcA,2)]:=by
 rw [dQ]
 have h1:(lD { data:=#[] } ([] ++ rcT ++ [])).map (fun e=>e.1)=[rcA]:=by decide +kernel
 rw [h1,List.flatMap_cons,List.flatMap_nil,List.append_nil]
 have h2:qD1 rcT rcA=rcT:=by decide +kernel
 have h3:qD1 ([]:List Ent) rcA=[]:=rfl
 have h4:aF rcT rcA=(2,zS4):=by decide +kernel
 unfold oA;rw [h2,h3,h4,if_neg (by simp),if_neg (by simp),if_neg (by simp),if_pos rfl]
theorem qT7 {mg:(Int × ByteArray)→(Int × ByteArray)→(Int × ByteArray)→Bool}:qA8 mg [] rcT []=[(rcA,2)]:=zG4 1048576
end Go.Rc
namespace Go.Proofs.YtbdomkfdkfdfgaaGreatDoor
open Go Go.Eng Go.RowKit Go.Tr Go.Dk Go.Rc
theorem zGd {mg:(Int × ByteArray)→(Int × ByteArray)→(Int × ByteArray)→Bool} {A H S:List Ent} (hA:TB A) (hH:TB H) (hS:TB S) (hm:(H=S∨H=A∨S=A)∨zLt mg) :
  ∀ (k:Nat) (top:ByteArray),top.size≤1048576→(∀ e ∈ A ++ H ++ S,e.1.size < top.size + k)→∀ out:LN,out.length + (dQ mg A H S k top).length≤1000000 →
   HFunS Tryz.prog 50 [.ptr 0 4 0 0,.v (.string top)] (wgS A H S out) (fun h st=>h=.tup []∧st=wgS A H S (out ++ dQ mg A H S k top)):=by
 have sz:∀ e ∈ A ++ H ++ S,e.1.size≤1048576:=fun e he=>by
  rcases List.mem_append.1 he with he|he
  ·rcases List.mem_append.1 he with he|he
   ·exact hA.sz e he
   ·exact hH.sz e he
  ·exact hS.sz e he
 have nm:∀ top:ByteArray,∀ p ∈ (lD top (A ++ H ++ S)).map (fun e=>e.1),top.size < p.size∧p.size≤1048576:=fun top p hp=>by
  obtain ⟨q,hq,rfl⟩:=List.mem_map.1 hp
  rcases wX (A ++ H ++ S) [] hq with h0|⟨e,he,hn⟩
  ·cases h0
  ·have h1:=wY hn
   have h2:=sz e he
   exact ⟨h1.1,by omega⟩
 intro k
 induction k with
|zero =>
  intro top htop hk out hout
  have hn:lD top (A ++ H ++ S)=[]:=qZt fun e he=>by have:=hk e he;omega
  have hb:dQ mg A H S 1 top=dQ mg A H S 0 top:=by rw [dQ,dQ,hn];rfl
  rw [← hb] at hout ⊢;exact qN5 hA hH hS 0 top htop (fun p hp=>by rw [hn] at hp;cases hp) out hout
|succ k ih =>
  intro top htop hk out hout;refine qN5 hA hH hS k top htop (fun p hp o ho=>?_) out hout
  have h1:=nm top p hp
  exact qY1 hA hH hS hm k p h1.2 (fun o2 h2=>ih p h1.2 (fun e he=>by have:=hk e he;omega) o2 h2) o ho
set_option maxHeartbeats 1000000 in
theorem zMx {mg:(Int × ByteArray)→(Int × ByteArray)→(Int × ByteArray)→Bool} {A H S:List Ent} (hA:TB A) (hH:TB H) (hS:TB S) (hm:(H=S∨H=A∨S=A)∨zLt mg) :
  HFun Tryz.prog 30 [.lst false (aL A),.lst false (aL H),.lst false (aL S)] (fun h st=>h=.own 0∧st=[(0,.sl true 71 2 (itl (qA8 mg A H S)))]):=by
 refine fJ (N:=15) Tryz.func30 rfl Tryz.ntmps30 Tryz.results30 (by simp) ?_
 have hb:(qA8 mg A H S).length≤3000:=by
  have h1:=qYn (mg:=mg) A H S 1048577 { data:=#[] }
  have:=hA.len
  have:=hH.len
  have:=hS.len
  rw [qA8];omega
 have hz:∀ e ∈ A ++ H ++ S,e.1.size < ({ data:=#[] }:ByteArray).size + 1048577:=fun e he=>by
  have h0:({ data:=#[] }:ByteArray).size=0:=rfl
  have:e.1.size≤1048576:=by
   rcases List.mem_append.1 he with he|he
   ·rcases List.mem_append.1 he with he|he
    ·exact hA.sz e he
    ·exact hH.sz e he
   ·exact hS.sz e he
  omega
 have cb:=zGd (mg:=mg) hA hH hS hm 1048577 { data:=#[] } (by decide) hz [] (by rw [← qA8,List.length_nil];omega)
 rw [← qA8,List.nil_append] at cb;refine zE ?_;refine zJ (fun K hK=>?_);simp (disch:=omega) only [push_cast,↓Int.cast_ofNat_Int,simprocAttr];refine hK _ ?_;clear hK K
 refine zE ?_;refine zJ (fun K hK=>?_);simp (disch:=omega) only [push_cast,↓Int.cast_ofNat_Int,simprocAttr];refine hK _ ?_;clear hK K
 refine zNi 56 3 9000 71 2 (by decide) rfl rfl (by simp only [push_cast,List.set_cons_succ,List.set_cons_zero,Nat.reduceEqDiff,reduceIte,Nat.reduceBEq,cond_false,cond_true];exact rfl) ?_
 refine zE ?_;refine zJ (fun K hK=>?_);simp (disch:=omega) only [push_cast,↓Int.cast_ofNat_Int,simprocAttr]
 refine qHf 96 [56,9000] zRo (cb) rfl (by decide) (by decide) (by simp only [push_cast,simprocAttr];try rfl) (by simp only [push_cast,simprocAttr];try rfl) ?_
 rintro _ _ ⟨rfl,rfl⟩;refine aC ?_;simp (disch:=omega) only [push_cast,↓Int.cast_ofNat_Int,simprocAttr];refine hK _ ?_;clear hK K;refine zE ?_;refine zJ (fun K hK=>?_);simp (disch:=omega) only [push_cast,↓Int.cast_ofNat_Int,simprocAttr];refine hK _ ?_;clear hK K
 refine zA ?_;refine zW ?_;simp only [yA,yM,yH,yE,aA,aD,yK,yJ,zS,zM,Nat.reduceEqDiff,reduceIte,reduceCtorEq];exact rC rfl (zFq _) ⟨rfl,rfl⟩
end Go.Proofs.YtbdomkfdkfdfgaaGreatDoor
end
section
set_option maxRecDepth 20000
namespace Go.Proofs.YtbdomkfdkfdfgaaGreatDoor
open Go Go.Eng Go.RowKit Go.Tr Go.Rc Go.Dk
theorem zJq {S:HS} {a b c:Nat} {x:T3} {u v:Value} {Q:HV→aB→Prop} (h0:rlk S.st a=some (fW x.1)) (h1:rlk S.st b=some (fW x.2.1)) (h2:rlk S.st c=some (fW x.2.2)) (hab:a≠b) (hac:a≠c) (hbc:b≠c)
  (q:Q (.tup [.agg [.own 0,.own 1,.own 2,.v u],.v v]) [(0,fW x.1),(1,fW x.2.1),(2,fW x.2.2)]):qB5 S (.tup [.agg [.own a,.own b,.own c,.v u],.v v]) Q:=by
 refine ⟨[a,b,c],by simp,by simp [dup,hab.symm,hac.symm,hbc.symm,hab,hac,hbc],.tup fun x hx=>?_,fun id hid r hr=>?_,?_⟩
 ·simp only [List.mem_cons,List.not_mem_nil,or_false] at hx
  rcases hx with rfl|rfl
  ·refine .agg fun y hy=>?_
   simp only [List.mem_cons,List.not_mem_nil,or_false] at hy
   rcases hy with rfl|rfl|rfl|rfl <;> first|exact .own _|exact .v _
  ·exact .v _
 ·simp only [List.mem_cons,List.not_mem_nil,or_false] at hid
  rcases hid with rfl|rfl|rfl
  ·rw [h0] at hr;cases hr;exact ⟨rfl,fG _⟩
  ·rw [h1] at hr;cases hr;exact ⟨rfl,fG _⟩
  ·rw [h2] at hr;cases hr;exact ⟨rfl,fG _⟩
 ·have e:iR (pos [a,b,c]) S.st 0 [a,b,c]=[(0,fW x.1),(1,fW x.2.1),(2,fW x.2.2)]:=by
   simp only [iR,h0,h1,h2,Row.ren]
  rw [e]
  have:(HV.tup [.agg [.own a,.own b,.own c,.v u],.v v]).ren (pos [a,b,c])=.tup [.agg [.own 0,.own 1,.own 2,.v u],.v v]:=by
   simp [HV.ren,pos,hab,hac,hbc]
  rw [this];exact q
theorem qDv {t:List Ent} (h:TB t):B3 t:=⟨by have:=h.len;omega,h.sz⟩
set_option maxHeartbeats 8000000 in
theorem zMw {mg:(Int × ByteArray)→(Int × ByteArray)→(Int × ByteArray)→Bool} {A H S:List Ent} {p:ByteArray} (hA:TB A) (hH:TB H) (hS:TB S) (hq:H=S∨H=A∨S=A) (hi:qA8 mg A H S=[(p,2)]) (sp:p.size≤1048576)
  {x:T3} (hp:pR p (H.filter fun e=>eK e.1 p) [1,2] (H,S,A)=(x,0)) :
  HFun Tryz.prog 11 [.lst false (aL A),.lst false (aL H),.lst false (aL S)] (fun h st=>h=.tup [.agg [.own 0,.own 1,.own 2,.v (.slice none 0 0)],.v (.int .i64 0)]∧st=[(0,fW x.1),(1,fW x.2.1),(2,fW x.2.2)]):=by
 refine fJ (N:=39) Tryz.func11 rfl Tryz.ntmps11 Tryz.results11 (by simp) ?_
 have ci:=zMx (mg:=mg) hA hH hS (.inl hq)
 rw [hi] at ci
 have bx:BT (H,S,A):=fun k=>by
  match k with
 |0=>exact qDv hH
 |1=>exact qDv hS
 |k + 2=>exact qDv hA
 have cs:=zL9 p A H S (.slice none 0 0) (H,S,A) sp (qDv hA) (qDv hH) (qDv hS) hA.rise hH.rise hS.rise bx
 rw [hp] at cs
 have nA:=qUn A (qDv hA).len
 have nH:=qUn H (qDv hH).len
 have nS:=qUn S (qDv hS).len
 refine zE ?_;refine zJ (fun K hK=>?_);simp (disch:=omega) only [push_cast,↓Int.cast_ofNat_Int,simprocAttr];refine hK _ ?_;clear hK K
 refine zE ?_;refine zJ (fun K hK=>?_);simp (disch:=omega) only [push_cast,↓Int.cast_ofNat_Int,simprocAttr]
 refine hat 104 zRp nH (.cons (aT (yT _)) .nil) ?_;rintro _ _ ⟨rfl,rfl⟩;with_reducible refine aC ?_;simp (disch:=omega) only [push_cast,↓Int.cast_ofNat_Int,simprocAttr]
 refine hat 120 zRp nS (.cons (aT (yT _)) .nil) ?_;rintro _ _ ⟨rfl,rfl⟩;with_reducible refine aC ?_;simp (disch:=omega) only [push_cast,↓Int.cast_ofNat_Int,simprocAttr]
 refine hat 136 zRp nA (.cons (aT (yT _)) .nil) ?_;rintro _ _ ⟨rfl,rfl⟩;with_reducible refine aC ?_;simp (disch:=omega) only [push_cast,↓Int.cast_ofNat_Int,simprocAttr]
 refine hK _ ?_;clear hK K;refine yB [0,1,2,6,7,8] [48,64,104,120,136] (by simp only [zZ,zR,zP,zQ,zN,zS,zM,zX,zU,Nat.reduceEqDiff,reduceIte];exact rfl) ?_
 refine zE ?_;refine zE ?_;refine zJ (fun K hK=>?_);simp (disch:=omega) only [push_cast,↓Int.cast_ofNat_Int,simprocAttr]
 refine hat 176 zVo ci (.cons (aT (yT _)) (.cons (aT (yT _)) (.cons (aT (yT _)) .nil))) ?_;rintro _ _ ⟨rfl,rfl⟩;with_reducible refine aC ?_;simp (disch:=omega) only [push_cast,↓Int.cast_ofNat_Int,simprocAttr,zCd]
 refine hK _ ?_;clear hK K;refine zA ?_;refine zD ?_;refine cH (fun z:Nat × T3=>⟨[(0,.lst false (aL A)),(1,.lst false (aL H)),(2,.lst false (aL S)),(6,.ptr 48 4 0 0),(8,.ptr 64 4 0 0),(22,.own 176),(23,.v (.int .i64 1)),(24,.v (.int .i64 z.1))],[(48,.bx true 28 [.v (.slice none 0 0),.v (.slice none 0 0),.v (.slice none 0 0),.v (.slice none 0 0)]),(64,.bx true 28 [.own 104,.own 120,.own 136,.v (.slice none 0 0)]),(104,fW z.2.1),(120,fW z.2.2.1),(136,fW z.2.2.2),(176,.sl true 71 2 (itl [(p,2)]))]⟩) (fun z=>(z.1=0∧z.2=(H,S,A))∨(z.1=1∧z.2=x)) (fun z=>1 - z.1) [0,1,2,6,8,22,23,24] [48,64,104,120,136,176] (0,(H,S,A)) (by simp only [zZ,zR,zP,zQ,zN,zS,zM,zX,zU,Nat.reduceEqDiff,reduceIte];rfl) (.inl ⟨rfl,rfl⟩) ?_
 have hln:(itl [(p,2)]).length=1:=rfl
 have hg:∀ d,(itl [(p,2)]).getD 0 d=[.v (.string p),.v (.int .i64 2)]:=fun d=>rfl
 rintro ⟨i,y⟩ (⟨h1,h2⟩|⟨h1,h2⟩)
 ·simp only at h1 h2;subst h1;subst h2;refine zE ?_;refine zJ (fun K hK=>?_);simp (disch:=omega) only [push_cast,↓Int.cast_ofNat_Int,simprocAttr];refine hK _ ?_;clear hK K
  refine zE ?_;refine yD rfl ?_;refine zC ?_;refine zE ?_;refine zD ?_;refine zE ?_;refine zJ (fun K hK=>?_);simp (disch:=omega) only [push_cast,↓Int.cast_ofNat_Int,simprocAttr,hln,zCc,hg];refine hK _ ?_;clear hK K
  refine zE ?_;refine zJ (fun K hK=>?_);simp (disch:=omega) only [push_cast,↓Int.cast_ofNat_Int,simprocAttr]
  refine qHf 256 [64,104,120,136] zVn (cs) rfl (by decide) (by decide) (by simp only [push_cast,simprocAttr];try rfl) (by simp only [push_cast,simprocAttr];try rfl) ?_
  rintro _ _ ⟨rfl,rfl⟩;refine aC ?_;simp (disch:=omega) only [push_cast,↓Int.cast_ofNat_Int,simprocAttr];refine hK _ ?_;clear hK K;refine zE ?_;refine zJ (fun K hK=>?_);simp (disch:=omega) only [push_cast,↓Int.cast_ofNat_Int,simprocAttr];refine hK _ ?_;clear hK K
  refine yC rfl ?_;refine zC ?_;refine zB ?_;refine zA ?_;refine zJ (fun K hK=>?_);simp (disch:=omega) only [push_cast,↓Int.cast_ofNat_Int,simprocAttr];refine hK _ ?_;clear hK K
  refine zA ?_;exact ⟨(1,x),by simp only [zZ,zR,zP,zQ,zN,zS,zM,zX,zU,Nat.reduceEqDiff,reduceIte];rfl,.inr ⟨rfl,rfl⟩,by show 1 - 1 < 1 - 0;decide⟩
 ·simp only at h1 h2;subst h1;subst h2;refine zE ?_;refine zJ (fun K hK=>?_);simp (disch:=omega) only [push_cast,↓Int.cast_ofNat_Int,simprocAttr];refine hK _ ?_;clear hK K
  refine zE ?_;refine yC rfl ?_;refine zT ?_;refine zG ?_;refine zG ?_;refine zH ?_;refine zE ?_;refine zJ (fun K hK=>?_);simp (disch:=omega) only [push_cast,↓Int.cast_ofNat_Int,simprocAttr];refine hK _ ?_;clear hK K
  refine zA ?_;refine zW ?_;simp (disch:=omega) only [yA,yM,yH,yE,aA,aD,yK,yJ,push_cast,↓Int.cast_ofNat_Int,Nat.reduceBEq,Nat.reduceAdd,Nat.reduceLT,Nat.reduceEqDiff,reduceIte,reduceCtorEq,Nat.reduceLeDiff,Nat.reduceSub,List.reduceReplicate,Nat.reduceMul,Int.reduceToNat,Int.toNat_natCast,Nat.reducePow,reduceIte];exact zJq (a:=104) (b:=120) (c:=136) rfl rfl rfl (by decide) (by decide) (by decide) ⟨rfl,rfl⟩
end Go.Proofs.YtbdomkfdkfdfgaaGreatDoor
end
section
set_option maxRecDepth 20000
namespace Go.Tr
open Go Go.Rc
theorem wR:lV [] rcA rcT=0∧tL [] rcA rcT=rcT:=by decide +kernel
theorem qZi:pR rcA (rcT.filter fun e=>eK e.1 rcA) [1,2] (rcT,[],[])=((rcT,rcT,rcT),0):=by
 have h:(rcT.filter fun e=>eK e.1 rcA)=rcT:=by decide +kernel
 rw [h,rR (show lV (t3 (rcT,[],[]) 1) rcA rcT=0 from wR.1)]
 have h1:qFq (rcT,[],[]) (tL (t3 (rcT,[],[]) 1) rcA rcT) 1=(rcT,rcT,[]):=by show (rcT,tL [] rcA rcT,([]:List Ent))=_;rw [wR.2]
 rw [h1,rR (show lV (t3 (rcT,rcT,[]) 2) rcA rcT=0 from wR.1)]
 have h2:qFq (rcT,rcT,[]) (tL (t3 (rcT,rcT,[]) 2) rcA rcT) 2=(rcT,rcT,rcT):=by show (rcT,rcT,tL [] rcA rcT)=_;rw [wR.2]
 rw [h2];rfl
theorem zAs:zLo 3 [] rcT=[(3,rcA,2,{ data:=#[104,105] })]:=by decide +kernel
end Go.Tr
namespace Go.Proofs.YtbdomkfdkfdfgaaGreatDoor
open Go Go.Eng Go.RowKit Go.Tr Go.Rc Go.Dk
theorem zUr:Tryz.prog.stoodInHeld 64=false:=by kernel_rfl
theorem zTt (r r':Int) (p p':ByteArray) (k k':Int) (d d':ByteArray):EqR Tryz.prog 64 [.int .i64 r,.string p,.int .i64 k,.string d].toArray [.int .i64 r',.string p',.int .i64 k',.string d'].toArray (decide ((r,p,k,d)=(r',p',k',d'))):=by
 refine ⟨by kernel_rfl,fun w=>?_⟩
 unfold Op.equal Op.maxDepth Op.equalIn;simp [run_underlying Tryz.underlying64,zUr,i3,i9,i24,part,bE kt3,bE kt9,cZ qT6,zDy,qX8,wA,Sem.run_bind]
 by_cases h0:r=r' <;> by_cases h1:p=p' <;> by_cases h2:k=k' <;> by_cases h3:d=d' <;> simp [h0,h1,h2,h3]
set_option maxHeartbeats 8000000 in
theorem qKg:HFun Tryz.prog 8 [] (fun h st=>h=.v (.bool true)):=by
 refine fJ (N:=45) Tryz.func8 rfl Tryz.ntmps8 Tryz.results8 (by simp) ?_
 have cm:=zMw (mg:=fun _ _ _=>false) zGq tb_rcT zGq (.inr (.inr rfl)) qT7 (by decide) qZi
 have ca:=zGf 3 [] rcT List.Pairwise.nil tb_rcT.rise (by decide) (by decide)
 rw [zAs] at ca;refine zE ?_;refine zJ (fun K hK=>?_);simp (disch:=omega) only [push_cast,↓Int.cast_ofNat_Int,simprocAttr];refine hK _ ?_;clear hK K
 refine zE ?_;refine zJ (fun K hK=>?_);simp (disch:=omega) only [push_cast,↓Int.cast_ofNat_Int,simprocAttr];(repeat refine ⟨by first|omega|decide|((repeat' apply And.intro) <;> first|omega|decide),?_⟩);refine hK _ ?_;clear hK K
 have he:[[FV.v (.string { data:=#[97] }),.v (.int .i64 2),.v (.string { data:=#[104,105] })]]=aL rcT:=rfl
 rw [he];refine tE 56 rfl (by simp only [pQ,mK,jU,lU,jN,vT,mG,mH,jR,mF,mE,qB,mJ,mD,pK,pM,pN,Nat.reduceEqDiff,reduceIte,List.map_cons,List.map_nil,List.map_append];exact rfl) ?_
 refine zE ?_;refine zJ (fun K hK=>?_);simp (disch:=omega) only [push_cast,↓Int.cast_ofNat_Int,simprocAttr]
 refine hat 80 zVr cm (.cons .nil (.cons (aT (yT _)) (.cons .nil .nil))) ?_;rintro _ _ ⟨rfl,rfl⟩;with_reducible refine aC ?_;simp (disch:=omega) only [push_cast,↓Int.cast_ofNat_Int,simprocAttr]
 refine hK _ ?_;clear hK K;refine zE ?_;refine zJ (fun K hK=>?_);simp (disch:=omega) only [push_cast,↓Int.cast_ofNat_Int,simprocAttr]
 refine hat 112 zVp ca (.cons (.v _) (.cons .nil (.cons (aT (yT _)) .nil))) ?_;rintro _ _ ⟨rfl,rfl⟩;with_reducible refine aC ?_;simp (disch:=omega) only [push_cast,↓Int.cast_ofNat_Int,simprocAttr]
 refine hK _ ?_;clear hK K
 have cS:=zMg rcT rcT (by decide)
 rw [decide_eq_true rfl] at cS
 have gA:∀ d,(qDx [(3,rcA,2,{ data:=#[104,105] })]).getD 0 d=[.v (.int .i64 3),.v (.string rcA),.v (.int .i64 2),.v (.string { data:=#[104,105] })]:=fun d=>rfl
 have gE:∀ d,(aL rcT).getD 0 d=[.v (.string rcA),.v (.int .i64 2),.v (.string { data:=#[104,105] })]:=fun d=>rfl
 have lA:(qDx [(3,rcA,2,{ data:=#[104,105] })]).length=1:=rfl
 have lE:(aL rcT).length=1:=rfl
 refine zE ?_;refine yB [0,1,2,3,4] [16,80,81,82,112] (by simp only [zZ,zR,zP,zQ,zN,zS,zM,zX,zU,Nat.reduceEqDiff,reduceIte];exact rfl) ?_
 refine dY 30 mixed (by kernel_rfl) (fun K hK K1 hK1=>?_);simp (disch:=omega) only [push_cast,↓Int.cast_ofNat_Int,simprocAttr,gA,gE,lA,lE,sZ,yU]
 refine qE5 zT1 cS (.cons (pX (yT _) rfl) (.cons (aT (yT _)) .nil)) ?_;with_reducible refine aC ?_;simp (disch:=omega) only [push_cast,↓Int.cast_ofNat_Int,simprocAttr,gA,gE,lA,lE,sZ,yU]
 refine qE5 zT1 cS (.cons (pX (yT _) rfl) (.cons (aT (yT _)) .nil)) ?_;with_reducible refine aC ?_;simp (disch:=omega) only [push_cast,↓Int.cast_ofNat_Int,simprocAttr,gA,gE,lA,lE,sZ,yU]
 refine ⟨_,zTt _ _ _ _ _ _ _ _,?_⟩;with_reducible refine aC ?_;simp (disch:=omega) only [push_cast,↓Int.cast_ofNat_Int,simprocAttr,gA,gE,lA,lE,sZ,yU]
 refine hK1 _ ?_;(try clear hK1 K1);with_reducible refine aC ?_;simp (disch:=omega) only [push_cast,↓Int.cast_ofNat_Int,simprocAttr]
 refine hK _ ?_;clear hK K;refine zA ?_;refine zW ?_;simp only [yA,yM,yH,yE,aA,aD,yK,yJ,zS,zM,Nat.reduceEqDiff,reduceIte,reduceCtorEq];exact aM rfl
end Go.Proofs.YtbdomkfdkfdfgaaGreatDoor
end
