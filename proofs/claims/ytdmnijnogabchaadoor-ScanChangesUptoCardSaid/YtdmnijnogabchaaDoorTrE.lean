/-
  The search in a tree: slices.BinarySearchFunc, tree.find, tree.Get.
-/
import Derived.Test.YtdmnijnogabchaaDoorSwD
import Derived.Test.YtdmnijnogabchaaDoorDlE
import Derived.Test.YtdmnijnogabchaaDoorItq
import Derived.Test.YtdmnijnogabchaaDoorUpe
import Derived.Test.YtdmnijnogabchaaDoorDkB
set_option linter.unusedSimpArgs false
set_option linter.unusedVariables false
section
set_option maxRecDepth 20000
namespace Go.Eng
open Go Go.RowKit Go.Maps
section
variable {P:Program}
theorem zCh (w:World) (A:Nat→Prop) (n:Nat) (ρ:Nat→Value):RepH w A n ρ (.slice none 0 0) (.lst false []) :=
 .lst (.lst 0 (fun _ _=>.bool false) rfl (Nat.le_refl _) (Nat.zero_le _) (fun _=>rfl) (by simp) (fun h=>absurd h (Nat.lt_irrefl _)) (fun i k hi=>absurd hi (Nat.not_lt_zero _)) (fun i k hi=>absurd hi (by simp)))
theorem zBv {f:FuncId} {args args':List HV} {st:aC} {g:MS} {R:HV→aC→MS→Prop} (hlen:args'.length=args.length) (harg:∀ i (a:i < args.length) (b:i < args'.length),(args[i]=.v (.slice none 0 0)∧args'[i]=.lst false [])∨args'[i]=args[i])
  (H:HFunM P f args' st g R):HFunM P f args st g R:=fun c w ρ xs vs hw G M hr=>H c w ρ xs vs hw G M ⟨by rw [hlen];exact hr.1,fun i h1 h2=>by
   have h3:i < args.length:=by rw [← hlen];exact h2
   have hv:=hr.2 i h1 h3
   rcases harg i h3 h2 with ⟨e1,e2⟩|e
   ·rw [e1] at hv
    have hv:=bB hv
    rw [e2,hv];exact zCh _ _ _ _
   ·rw [e];exact hv⟩
end
end Go.Eng
namespace Go.Proofs.YtdmnijnogabchaaDoor
open Go Go.Eng Go.RowKit Go.Maps Go.Tr Go.Dk Go.Sw
theorem zAp (d:Dk) (B:Int) (hd:d.Ok B) (hB:B≤1099511627776) (hl:d.L.length≤4194304) (hst:∀ e ∈ d.L,0≤e.2.stamp∧e.2.stamp≤1099511627776) (v:ByteArray) (hv:v.size≤1048576) (hvis:pOk v 1=true→(vis d 1048577 v).length≤1099511627776) (r1 r2:Nat) :
  HFunM Tryd.prog 25 [.ptr 0 6 0 0,.v (.string v),.v (.slice none 0 0)] [(0,.bx false 50 (d.cells r1 r2))] (d.maps kS r1 r2)
   (fun h st g=>g=d.maps kS r1 r2∧if xD d v=0 then h=.tup [.own 1,.own 2,.v (.int .i64 (qN d v []).reads),.v (.int .i64 0)]∧st=[(0,.bx false 50 (d.cells r1 r2)),(1,.sl true 42 3 (cX (qN d v []).F)),(2,.sl true 68 4 (nA (qGb (qN d v []))))]
    else h=.tup [.v (.slice none 0 0),.v (.slice none 0 0),.v (.int .i64 0),.v (.int .i64 (xD d v))]∧st=[(0,.bx false 50 (d.cells r1 r2))]):=by
 have h0:=zHz d B hd hB hl hst v hv [] false (fun x hx=>by simp at hx) (by decide) hvis r1 r2
 rw [show nA []=[] from rfl] at h0
 refine zBv (args':=[.ptr 0 6 0 0,.v (.string v),.lst false []]) rfl (fun i a b=>?_) h0
 match i,a with
|0,_=>exact .inr rfl
|1,_=>exact .inr rfl
|2,_=>exact .inl ⟨rfl,rfl⟩
set_option maxHeartbeats 1000000 in
theorem zHu (d:Dk) (B:Int) (hd:d.Ok B) (hB:B≤1099511627776) (hl:d.L.length≤4194304) (hst:∀ e ∈ d.L,0≤e.2.stamp∧e.2.stamp≤1099511627776) (v:ByteArray) (hv:v.size≤1048576) (hvis:pOk v 1=true→(vis d 1048577 v).length≤1099511627776) (r1 r2:Nat) :
  HFunM Tryd.prog 14 [.ptr 0 6 0 0,.v (.string v)] [(0,.bx false 50 (d.cells r1 r2))] (d.maps kS r1 r2)
   (fun h st g=>g=d.maps kS r1 r2∧if xD d v=0 then h=.tup [.own 1,.v (.int .i64 0)]∧st=[(0,.bx false 50 (d.cells r1 r2)),(1,.sl true 42 3 (cX (qN d v []).F))]
    else h=.tup [.v (.slice none 0 0),.v (.int .i64 (xD d v))]∧st=[(0,.bx false 50 (d.cells r1 r2))]):=by
 refine nH (N:=20) Tryd.func14 rfl Tryd.ntmps14 Tryd.results14 (by simp) ?_
 have hs:=zAp d B hd hB hl hst v hv hvis r1 r2
 simp only [bW,eE] at hs ⊢;refine aA ?_;refine aD (fun K hK=>?_);simp (disch:=omega) only [push_cast,↓iC9,simprocAttr];refine hK _ ?_;clear hK K
 by_cases h0:xD d v=0
 ·simp only [h0,if_true] at hs ⊢;refine aA ?_;refine bK ?_;refine aQ 2 (fun K1 hK1=>?_);simp (disch:=omega) only [push_cast,↓iC9,simprocAttr];refine hK1 _ ?_;(try clear hK1 K1)
  refine dF 104 [0] zLl (hs) rfl rfl rfl rfl (by simp only [push_cast,simprocAttr];exact rfl) (by decide) (by decide) (by decide) (by simp only [push_cast,simprocAttr];try rfl) (by simp only [push_cast,simprocAttr];try rfl) ?_
  rintro _ _ _ ⟨rfl,rfl,rfl⟩;refine aQ 9 (fun K1 hK1=>?_);simp (disch:=omega) only [push_cast,↓iC9,simprocAttr,aF,aE];refine hK1 _ ?_;(try clear hK1 K1)
  refine bA ?_;refine aA ?_;refine aD (fun K hK=>?_);simp (disch:=omega) only [push_cast,↓iC9,simprocAttr];refine hK _ ?_;clear hK K
  refine aB ?_;refine bN ?_;simp only [aN,aU,yH,yE,yK,yJ,aW,zS,zM,Nat.reduceEqDiff,reduceIte,reduceCtorEq];refine dA [0,105] [] (by first|rfl|simp [bsL,MO.bs]) (by decide) (by decide) (by simp only [push_cast,simprocAttr]) (by simp only [push_cast,simprocAttr]) (by simp only [push_cast,simprocAttr];rfl) (by simp only [push_cast,simprocAttr];rfl) ?_
  exact ⟨rfl,rfl,rfl⟩
 ·simp only [h0,if_false] at hs ⊢;refine aA ?_;refine bK ?_;refine aQ 2 (fun K1 hK1=>?_);simp (disch:=omega) only [push_cast,↓iC9,simprocAttr];refine hK1 _ ?_;(try clear hK1 K1)
  refine dF 104 [0] zLl (hs) rfl rfl rfl rfl (by simp only [push_cast,simprocAttr];exact rfl) (by decide) (by decide) (by decide) (by simp only [push_cast,simprocAttr];try rfl) (by simp only [push_cast,simprocAttr];try rfl) ?_
  rintro _ _ _ ⟨rfl,rfl,rfl⟩;refine aQ 9 (fun K1 hK1=>?_);simp (disch:=omega) only [push_cast,↓iC9,simprocAttr,aF,aE];refine hK1 _ ?_;(try clear hK1 K1)
  refine bA ?_;refine aA ?_;refine aD (fun K hK=>?_);simp (disch:=omega) only [push_cast,↓iC9,simprocAttr];refine hK _ ?_;clear hK K
  refine aB ?_;refine bN ?_;simp only [aN,aU,yH,yE,yK,yJ,aW,zS,zM,Nat.reduceEqDiff,reduceIte,reduceCtorEq];refine dA [0] [] (by first|rfl|simp [bsL,MO.bs]) (by decide) (by decide) (by simp only [push_cast,simprocAttr]) (by simp only [push_cast,simprocAttr]) (by simp only [push_cast,simprocAttr];rfl) (by simp only [push_cast,simprocAttr];rfl) ?_
  exact ⟨rfl,rfl,rfl⟩
end Go.Proofs.YtdmnijnogabchaaDoor
end
section
namespace Go.Proofs.YtdmnijnogabchaaDoor
open Go Go.Eng Go.RowKit Go.Tr Go.Dk
def scH:ByteArray:={ data:=#[104,117,98] }
def scHA:ByteArray:={ data:=#[104,117,98,47,97] }
def scHAx:ByteArray:={ data:=#[104,117,98,47,97,47,120] }
def scA:ByteArray:={ data:=#[97] }
def zF4:ByteArray:={ data:=#[97,47,120] }
def scHi:ByteArray:={ data:=#[104,105] }
def scX:Itm:=⟨false,scHi,ByteArray.empty,true,true,1⟩
def dS1:Dk:=⟨[(scH,qS5)],[],1,0,-1,false,1,0⟩
def dS2:Dk:=⟨[(scH,qS5),(scHA,qS5)],[],2,0,-1,false,2,0⟩
def dS3:Dk:=⟨[(scH,qS5),(scHA,qS5),(scHAx,scX)],[],3,1,-1,false,3,0⟩
theorem sc1:mD Dk.new scH=(0,dS1):=by kernel_rfl
theorem sc2:mD dS1 scHA=(0,dS2):=by kernel_rfl
theorem sc3:jW dS2 scHAx scHi=(0,dS3):=by kernel_rfl
theorem zKq:dS1.Ok 1099511627776:=⟨by simp [pM,dS1],by intro e he;simp only [dS1,List.mem_cons,List.not_mem_nil,or_false] at he;subst he;decide,by decide,by decide,by decide,by decide,by decide,by decide⟩
theorem zF3:pM dS2.L:=by
 refine List.pairwise_cons.2 ⟨fun y hy=>?_,List.pairwise_singleton _ _⟩
 simp only [List.mem_cons,List.not_mem_nil,or_false] at hy;subst hy;rw [← qAn];decide
theorem zF2:pM dS3.L:=by
 refine List.pairwise_cons.2 ⟨fun y hy=>?_,List.pairwise_cons.2 ⟨fun y hy=>?_,List.pairwise_singleton _ _⟩⟩
 ·simp only [List.mem_cons,List.not_mem_nil,or_false] at hy
  rcases hy with rfl|rfl <;> (rw [← qAn];decide)
 ·simp only [List.mem_cons,List.not_mem_nil,or_false] at hy;subst hy;rw [← qAn];decide
theorem zKp:dS2.Ok 1099511627776:=⟨zF3,by intro e he;simp only [dS2,List.mem_cons,List.not_mem_nil,or_false] at he;rcases he with rfl|rfl <;> decide,by decide,by decide,by decide,by decide,by decide,by decide⟩
theorem zKo:dS3.Ok 1099511627776:=⟨zF2,by intro e he;simp only [dS3,List.mem_cons,List.not_mem_nil,or_false] at he;rcases he with rfl|rfl|rfl <;> decide,by decide,by decide,by decide,by decide,by decide,by decide⟩
end Go.Proofs.YtdmnijnogabchaaDoor
end
section
set_option maxRecDepth 20000
namespace Go.Proofs.YtdmnijnogabchaaDoor
open Go Go.Eng Go.RowKit Go.Tr
end Go.Proofs.YtdmnijnogabchaaDoor
end
