/-
  Scan: the law's first look, at the one disk that it makes (for seats without what XSwN wants).
-/
import Derived.Test.YtdmnijnogabchaaDoorTrE
import Derived.Test.YtdmnijnogabchaaDoorTrJ
set_option linter.unusedSimpArgs false
set_option linter.unusedVariables false
section
set_option maxRecDepth 20000
namespace Go.Proofs.YtdmnijnogabchaaDoor
open Go Go.Eng Go.RowKit Go.Tr
theorem i3:(sizeOf 3).run Tryd.prog=fun w=>.ok 1 w:=by funext w;kernel_rfl
theorem i9:(sizeOf 9).run Tryd.prog=fun w=>.ok 1 w:=by funext w;kernel_rfl
theorem i24:(sizeOf 29).run Tryd.prog=fun w=>.ok 2 w:=by funext w;kernel_rfl
theorem zHp (d:Nat) (x y:Int) (w:World):(Op.equalIn (d + 1) 3 (.int .i64 x) (.int .i64 y)).run Tryd.prog w=.ok (decide (x=y)) w:=by
 simp [Op.equalIn,run_underlying Tryd.underlying3]
 by_cases h:x=y <;> simp [h]
theorem zL3:Tryd.prog.stoodInHeld 29=false:=by kernel_rfl
theorem zL2:Tryd.prog.stoodInHeld 42=false:=by kernel_rfl
theorem zE0 (d:Nat) (x y:ByteArray) (w:World):(Op.equalIn (d + 1) 9 (.string x) (.string y)).run Tryd.prog w=.ok (decide (x=y)) w:=by
 unfold Op.equalIn;simp [run_underlying Tryd.underlying9];obtain ⟨a⟩:=x;obtain ⟨b⟩:=y;show (a == b)=_
 by_cases h:a=b <;> simp [h]
theorem zE1 (d:Nat) (x y:Int) (s t:ByteArray) (w:World):(Op.equalIn (d + 2) 29 (.agg #[.int .i64 x,.string s]) (.agg #[.int .i64 y,.string t])).run Tryd.prog w=.ok (decide (x=y∧s=t)) w:=by
 unfold Op.equalIn;simp [run_underlying Tryd.underlying29,zL3,i3,i9,part,cA kt3,cA kt9,zHp,zE0,Sem.run_bind]
 have hr:List.range' 0 2=[0,1]:=rfl
 try rw [hr]
 try simp [cA kt3,cA kt9,zHp,zE0,Sem.run_bind]
 by_cases h1:x=y <;> by_cases h2:s=t <;> simp [h1,h2]
theorem eqN (x y:Int) (s t:ByteArray):EqR Tryd.prog 29 [.int .i64 x,.string s].toArray [.int .i64 y,.string t].toArray (decide (x=y∧s=t)):=⟨by kernel_rfl,fun w=>zE1 _ x y s t w⟩
theorem eqE (p q:ByteArray) (x y:Int) (s t:ByteArray):EqR Tryd.prog 42 [.string p,.int .i64 x,.string s].toArray [.string q,.int .i64 y,.string t].toArray (decide ((p,x,s)=(q,y,t))):=by
 refine ⟨by kernel_rfl,fun w=>?_⟩
 unfold Op.equal Op.maxDepth Op.equalIn;simp [run_underlying Tryd.underlying42,zL2,i9,i24,part,cA kt9,gK zH8,zE0,zE1,Sem.run_bind]
 by_cases h0:p=q <;> by_cases h1:x=y <;> by_cases h2:s=t <;> simp [h0,h1,h2]
end Go.Proofs.YtdmnijnogabchaaDoor
end
section
set_option maxRecDepth 20000
namespace Go.Proofs.YtdmnijnogabchaaDoor
open Go Go.Eng Go.RowKit Go.Maps Go.Tr Go.Dk Go.Sw
theorem zL5:xD dS3 scH=0:=by kernel_rfl
theorem zCb:vis dS3 1048577 scH=[scHA,scHAx]:=by kernel_rfl
theorem zL4:(qN dS3 scH []).F=[(scA,(1,ByteArray.empty)),(zF4,(2,scHi))]:=by
 unfold qN;rw [zCb]
 kernel_rfl
theorem zL1:scH.size≤1048576∧scHA.size≤1048576∧scHAx.size≤1048576∧scHi.size≤1048576:=by decide
theorem zKi:∀ e ∈ dS3.L,0≤e.2.stamp∧e.2.stamp≤1099511627776:=by
 intro e he;simp only [dS3,List.mem_cons,List.not_mem_nil,or_false] at he
 rcases he with rfl|rfl|rfl <;> decide
set_option maxHeartbeats 2000000 in
theorem qZ:HFun Tryd.prog 4 [] (fun h st=>h=.v (.bool true)):=by
 refine kG (N:=42) Tryd.func4 rfl Tryd.ntmps4 Tryd.results4 (by simp) ?_
 obtain ⟨z1,z2,z3,z4⟩:=zL1;refine zJv ?_;refine aA ?_;refine aD (fun K hK=>?_);simp (disch:=omega) only [push_cast,↓iC9,simprocAttr];refine hK _ ?_;clear hK K
 refine aA ?_;refine bK ?_;refine dF 32 [] zMv (zKs) rfl rfl rfl rfl (by simp only [push_cast,simprocAttr];exact rfl) (by decide) (by decide) (by decide) (by simp only [push_cast,simprocAttr];try rfl) (by simp only [push_cast,simprocAttr];try rfl) ?_
 rintro _ _ _ ⟨r1,r2,rfl,rfl,rfl⟩
 have ok_new:Dk.new.Ok 1099511627776:=⟨List.Pairwise.nil,by simp [Dk.new],by decide,by decide,by decide,by decide,by decide,by decide⟩
 have c1:=qYf Dk.new 1099511627776 ok_new (Int.le_refl _) scH r1 r2 z1
 have c2:=qYf dS1 1099511627776 zKq (Int.le_refl _) scHA r1 r2 z2
 have c3:=zFv dS2 1099511627776 zKp (Int.le_refl _) scHAx r1 r2 z3 scHi z4
 rw [sc1] at c1;rw [sc2] at c2;rw [sc3] at c3
 have c4:=zHu dS3 1099511627776 zKo (Int.le_refl _) (by decide) zKi scH z1 (fun _=>by rw [zCb];decide) r1 r2
 rw [zL5,zL4] at c4;simp only [if_true] at c4;simp only [bW] at c1 c2 c3 c4;refine aQ 1 (fun K1 hK1=>?_);simp (disch:=omega) only [push_cast,↓iC9,simprocAttr,aF,aE,bW];refine hK1 _ ?_;(try clear hK1 K1)
 refine bA ?_;refine aA ?_;refine aA ?_;refine bK ?_;refine aQ 4 (fun K1 hK1=>?_);simp (disch:=omega) only [push_cast,↓iC9,simprocAttr];refine hK1 _ ?_;(try clear hK1 K1)
 refine dF 72 [32] zLo (c1) rfl rfl rfl rfl (by simp only [push_cast,simprocAttr];exact rfl) (by decide) (by decide) (by decide) (by simp only [push_cast,simprocAttr];try rfl) (by simp only [push_cast,simprocAttr];try rfl) ?_
 rintro _ _ _ ⟨rfl,rfl,rfl⟩;refine aQ 4 (fun K1 hK1=>?_);simp (disch:=omega) only [push_cast,↓iC9,simprocAttr,aF,aE];refine hK1 _ ?_;(try clear hK1 K1)
 refine dF 112 [32] zLo (c2) rfl rfl rfl rfl (by simp only [push_cast,simprocAttr];exact rfl) (by decide) (by decide) (by decide) (by simp only [push_cast,simprocAttr];try rfl) (by simp only [push_cast,simprocAttr];try rfl) ?_
 rintro _ _ _ ⟨rfl,rfl,rfl⟩;refine aQ 4 (fun K1 hK1=>?_);simp (disch:=omega) only [push_cast,↓iC9,simprocAttr,aF,aE];refine hK1 _ ?_;(try clear hK1 K1)
 refine dF 152 [32] zMu (c3) rfl rfl rfl rfl (by simp only [push_cast,simprocAttr];exact rfl) (by decide) (by decide) (by decide) (by simp only [push_cast,simprocAttr];try rfl) (by simp only [push_cast,simprocAttr];try rfl) ?_
 rintro _ _ _ ⟨rfl,rfl,rfl⟩;refine aQ 2 (fun K1 hK1=>?_);simp (disch:=omega) only [push_cast,↓iC9,simprocAttr,aF,aE];refine hK1 _ ?_;(try clear hK1 K1)
 refine bA ?_;refine aB ?_;refine bT rfl ?_;refine aY ?_;refine aA ?_;refine cP [0,1] [32] (by simp only [zZ,zR,zP,zQ,zN,zS,zM,zX,zU,Nat.reduceEqDiff,reduceIte];exact rfl) ?_
 refine bK ?_;refine aQ 1 (fun K1 hK1=>?_);simp (disch:=omega) only [push_cast,↓iC9,simprocAttr];refine hK1 _ ?_;(try clear hK1 K1)
 refine dF 192 [32] zMt (c4) rfl rfl rfl rfl (by simp only [push_cast,simprocAttr];exact rfl) (by decide) (by decide) (by decide) (by simp only [push_cast,simprocAttr];try rfl) (by simp only [push_cast,simprocAttr];try rfl) ?_
 rintro _ _ _ ⟨rfl,rfl,rfl⟩;refine aQ 5 (fun K1 hK1=>?_);simp (disch:=omega) only [push_cast,↓iC9,simprocAttr,aF,aE];refine hK1 _ ?_;(try clear hK1 K1)
 refine bA ?_;refine cP [0,1,2,3] [32,193] (by simp only [zZ,zR,zP,zQ,zN,zS,zM,zX,zU,Nat.reduceEqDiff,reduceIte];exact rfl) ?_
 have hg1:∀ x,(cX [(scA,1,ByteArray.empty),(zF4,2,scHi)]).getD 1 x=[.v (.string zF4),.v (.int .i64 2),.v (.string scHi)]:=fun _=>rfl
 have hh:decide ((zF4,(2:Int),scHi)=({ data:=#[97,47,120] },2,{ data:=#[104,105] }))=true:=by decide
 refine aA ?_;refine bK ?_;refine aQ 14 (fun K1 hK1=>?_);simp (disch:=omega) only [push_cast,↓iC9,simprocAttr,yV,yU,hg1]
 refine ⟨_,eqE _ _ _ _ _ _,?_⟩;with_reducible refine aP ?_;simp (disch:=omega) only [push_cast,↓iC9,simprocAttr,hh]
 refine hK1 _ ?_;(try clear hK1 K1);refine aQ 2 (fun K1 hK1=>?_);simp (disch:=omega) only [push_cast,↓iC9,simprocAttr,aF,aE];refine hK1 _ ?_;(try clear hK1 K1)
 refine bA ?_;refine aB ?_;refine bN ?_;simp only [yA,yM,yH,yE,aH,aT,yK,yJ,zS,zM,Nat.reduceEqDiff,reduceIte,reduceCtorEq];exact bD rfl
end Go.Proofs.YtdmnijnogabchaaDoor
end
