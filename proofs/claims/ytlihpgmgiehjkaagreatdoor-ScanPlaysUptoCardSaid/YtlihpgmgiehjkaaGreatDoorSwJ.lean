/-
  The law's turn: a change of the program's disk and of the reference's: walked.
-/
import Derived.Test.YtlihpgmgiehjkaaGreatDoorDsA
set_option linter.unusedSimpArgs false
set_option linter.unusedVariables false
set_option maxRecDepth 20000
namespace Go.Sw
open Go Go.Eng Go.Tr Go.Dk
def kT (k:Int):Int:=if k=1 then 1 else if k=2 then 2 else if k=3 then 6 else if k=4 then 5 else if k=5 then 3 else if k=6 then 9 else if k=7 then 10 else 0
theorem zB7 {k:Int} (h1:¬ k=1) (h2:¬ k=2) (h3:¬ k=3) (h4:¬ k=4) (h5:¬ k=5) (h6:¬ k=6) (h7:¬ k=7):kT k=0:=by
 unfold kT;rw [if_neg h1,if_neg h2,if_neg h3,if_neg h4,if_neg h5,if_neg h6,if_neg h7]
end Go.Sw
namespace Go.Proofs.YtlihpgmgiehjkaaGreatDoor
open Go Go.Eng Go.RowKit Go.Tr Go.Dk Go.Sw
set_option maxHeartbeats 16000000 in
theorem zNg (d:Dk) (R:LN) (fr nw:Bool) (B:Int) (ok:d.Ok B) (hB30:B≤1073741824) (rok:ROk d R) (hlo:Lo d) (hlen:d.L.length≤1000) (k:Int) (P Q:ByteArray) (M:Int) (hP:P.size≤1048576) (hQ:Q.size≤1048576) (hM1:-9223372036854775808≤M) (hM2:M≤9223372036854775807) (r1 r2:Nat) :
  HFunM Tryz.prog 8 [.ptr 0 6 0 0,.ptr 1 6 0 0,.agg [.v (.int .i64 k),.v (.string P),.v (.string Q),.v (.int .i64 M)]] [(0,.bx false 64 (d.cells r1 r2)),(1,.bx false 68 (rcj d fr 2)),(2,.sl nw 126 2 (rms R))] (d.maps kS r1 r2)
   (fun h st g=>h=.v (.bool true)∧∃ R' fr' nw',Rel (vX d (kT k) P Q M) R' (R.length + 1)∧st=[(0,.bx false 64 ((vX d (kT k) P Q M).cells r1 r2)),(1,.bx false 68 (rcj (vX d (kT k) P Q M) fr' 2)),(2,.sl nw' 126 2 (rms R'))]∧g=(vX d (kT k) P Q M).maps kS r1 r2):=by
 refine kC (N:=102) Tryz.func8 rfl Tryz.ntmps8 Tryz.results8 (by simp) ?_
 have hB:B≤1099511627776:=by omega
 have hl4:d.L.length≤4194304:=by omega
 have hst:0≤d.stamps∧d.stamps≤1073741824:=⟨ok.stamps.1,by have:=ok.stamps.2;omega⟩
 simp only [bM,rcj];refine aA ?_;refine aC (fun K hK=>?_);simp (disch:=omega) only [push_cast,↓iC9,simprocAttr];refine hK _ ?_;clear hK K
 refine aA ?_;refine aA ?_;refine aC (fun K hK=>?_);simp (disch:=omega) only [push_cast,↓iC9,simprocAttr];refine hK _ ?_;clear hK K
 refine aX [0,1,5,8] [0,1,2,40] (by simp only [zZ,zR,zP,zQ,zN,zS,zM,zX,zU,Nat.reduceEqDiff,reduceIte];exact rfl) ?_
 refine bL ?_;refine aA ?_
 by_cases h1:k=1
 ·subst h1;refine aC (fun K hK=>?_);simp (disch:=omega) only [push_cast,↓iC9,simprocAttr];refine hK _ ?_;clear hK K
  refine aB ?_;refine bW rfl ?_
  have hxx:decide ((eG d P).1=(eG d P).1)=true:=decide_eq_true rfl
  rw [show kT 1=1 from rfl]
  have c1:=qT5 d B ok hB P r1 r2 hP
  have c2:=zG4 d R fr nw rok P hP
  simp only [bM,rst,iX] at c1 c2;refine aX [0,1,5] [0,1,2,40] (by simp only [zZ,zR,zP,zQ,zN,zS,zM,zX,zU,Nat.reduceEqDiff,reduceIte];exact rfl) ?_
  refine aA ?_;refine qG 7 3 5 40 14 112 [.mv 11 0,.fa 12 1,.ld 13 1 1,.go,.mv 15 1,.fa 16 1,.ld 17 5 1] [0] (cells:=[.int .i64 1,.string P,.string Q,.int .i64 M]) mixed (by kernel_rfl) (by decide) rfl rfl rfl ⟨⟨_,rfl,rfl,rfl,rfl,rfl⟩,⟨_,_,_,rfl,rfl,rfl,rfl,lV⟩,⟨_,_,_,rfl,rfl,rfl,rfl,kt9,rfl,by simp,by decide⟩,trivial,⟨_,rfl,rfl,rfl,rfl,rfl⟩,⟨_,_,_,rfl,rfl,rfl,rfl,lV⟩,⟨_,_,_,rfl,rfl,rfl,rfl,kt9,rfl,by simp,by decide⟩,trivial⟩ (by kernel_rfl) (by kernel_rfl) (by kernel_rfl) rfl rfl rfl rfl rfl rfl rfl zQ0 rfl (c1) (by decide) (by decide) (by decide) (by simp only [push_cast,simprocAttr];try rfl) (by simp only [push_cast,simprocAttr];try rfl) (by rintro _ _ _ ⟨rfl,rfl,rfl⟩;constructor <;> simp (disch:=omega) only [push_cast,↓iC9,simprocAttr,aE,aD] <;> rfl) ?_
  rintro _ _ _ ⟨rfl,rfl,rfl⟩;refine aG 3 (fun K1 hK1=>?_);simp (disch:=omega) only [push_cast,↓iC9,simprocAttr,aE,aD,wF,wG,qBu,qBt,tR,nD,nE]
  refine gW 144 [1,2] zUw (c2) rfl (by decide) (by decide) (by simp only [push_cast,simprocAttr];try rfl) (by simp only [push_cast,simprocAttr];try rfl) ?_
  rintro _ _ ⟨rfl,fr2,rfl⟩;refine aM ?_;simp (disch:=omega) only [push_cast,↓iC9,simprocAttr,hxx];refine hK1 _ ?_;(try clear hK1 K1);refine aV ?_;refine aB ?_;refine bB ?_;refine dK ?_;refine bR ?_;simp only [aF,aN,yH,yE,yK,yJ,aH,zS,zM,Nat.reduceEqDiff,reduceIte,reduceCtorEq];refine bV [0,1,2] [] (by first|rfl|simp [bsL,MO.bs]) (by decide) (by decide) (by simp only [push_cast,simprocAttr]) (by simp only [push_cast,simprocAttr]) (by simp only [push_cast,simprocAttr];rfl) (by simp only [push_cast,simprocAttr];rfl) ?_
  exact ⟨rfl,R,fr2,nw,nG rok (zT4 d P),rfl,rfl⟩
 have e1:decide (k=1)=false:=decide_eq_false h1
 refine aC (fun K hK=>?_);simp (disch:=omega) only [push_cast,↓iC9,simprocAttr,e1];refine hK _ ?_;clear hK K
 refine aB ?_;refine bA rfl ?_;refine aA ?_
 by_cases h2:k=2
 ·subst h2;refine aC (fun K hK=>?_);simp (disch:=omega) only [push_cast,↓iC9,simprocAttr];refine hK _ ?_;clear hK K
  refine aB ?_;refine bW rfl ?_
  have hxx:decide ((dR d P Q).1=(dR d P Q).1)=true:=decide_eq_true rfl
  rw [show kT 2=2 from rfl]
  have c1:=zAn d B ok hB P r1 r2 hP Q hQ
  have c2:=zGy d R fr nw rok P Q hP hQ
  simp only [bM,rst,iX] at c1 c2;refine aX [0,1,5] [0,1,2,40] (by simp only [zZ,zR,zP,zQ,zN,zS,zM,zX,zU,Nat.reduceEqDiff,reduceIte];exact rfl) ?_
  refine aA ?_;refine qG 11 5 5 40 27 216 [.mv 22 0,.fa 23 1,.ld 24 1 1,.fa 25 2,.ld 26 3 2,.go,.mv 28 1,.fa 29 1,.ld 30 7 1,.fa 31 2,.ld 32 9 2] [0] (cells:=[.int .i64 2,.string P,.string Q,.int .i64 M]) mixed (by kernel_rfl) (by decide) rfl rfl rfl ⟨⟨_,rfl,rfl,rfl,rfl,rfl⟩,⟨_,_,_,rfl,rfl,rfl,rfl,lV⟩,⟨_,_,_,rfl,rfl,rfl,rfl,kt9,rfl,by simp,by decide⟩,⟨_,_,_,rfl,rfl,rfl,rfl,xA⟩,⟨_,_,_,rfl,rfl,rfl,rfl,kt9,rfl,by simp,by decide⟩,trivial,⟨_,rfl,rfl,rfl,rfl,rfl⟩,⟨_,_,_,rfl,rfl,rfl,rfl,lV⟩,⟨_,_,_,rfl,rfl,rfl,rfl,kt9,rfl,by simp,by decide⟩,⟨_,_,_,rfl,rfl,rfl,rfl,xA⟩,⟨_,_,_,rfl,rfl,rfl,rfl,kt9,rfl,by simp,by decide⟩,trivial⟩ (by kernel_rfl) (by kernel_rfl) (by kernel_rfl) rfl rfl rfl rfl rfl rfl rfl zTa rfl (c1) (by decide) (by decide) (by decide) (by simp only [push_cast,simprocAttr];try rfl) (by simp only [push_cast,simprocAttr];try rfl) (by rintro _ _ _ ⟨rfl,rfl,rfl⟩;constructor <;> simp (disch:=omega) only [push_cast,↓iC9,simprocAttr,aE,aD] <;> rfl) ?_
  rintro _ _ _ ⟨rfl,rfl,rfl⟩;refine aG 3 (fun K1 hK1=>?_);simp (disch:=omega) only [push_cast,↓iC9,simprocAttr,aE,aD,wF,wG,qBu,qBt,tR,nD,nE]
  refine gW 264 [1,2] zUv (c2) rfl (by decide) (by decide) (by simp only [push_cast,simprocAttr];try rfl) (by simp only [push_cast,simprocAttr];try rfl) ?_
  rintro _ _ ⟨rfl,fr2,rfl⟩;refine aM ?_;simp (disch:=omega) only [push_cast,↓iC9,simprocAttr,hxx];refine hK1 _ ?_;(try clear hK1 K1);refine aV ?_;refine aB ?_;refine bB ?_;refine dK ?_;refine bR ?_;simp only [aF,aN,yH,yE,yK,yJ,aH,zS,zM,Nat.reduceEqDiff,reduceIte,reduceCtorEq];refine bV [0,1,2] [] (by first|rfl|simp [bsL,MO.bs]) (by decide) (by decide) (by simp only [push_cast,simprocAttr]) (by simp only [push_cast,simprocAttr]) (by simp only [push_cast,simprocAttr];rfl) (by simp only [push_cast,simprocAttr];rfl) ?_
  exact ⟨rfl,R,fr2,nw,nG rok (zTt d P Q),rfl,rfl⟩
 have e2:decide (k=2)=false:=decide_eq_false h2
 refine aC (fun K hK=>?_);simp (disch:=omega) only [push_cast,↓iC9,simprocAttr,e2];refine hK _ ?_;clear hK K
 refine aB ?_;refine bA rfl ?_;refine aA ?_
 by_cases h3:k=3
 ·subst h3;refine aC (fun K hK=>?_);simp (disch:=omega) only [push_cast,↓iC9,simprocAttr];refine hK _ ?_;clear hK K
  refine aB ?_;refine bW rfl ?_
  have hxx:decide ((dA d P).1=(dA d P).1)=true:=decide_eq_true rfl
  rw [show kT 3=6 from rfl]
  have c1:=zHa d B ok hB P r1 r2 hP hl4
  have c2:=zEl d R fr nw rok P hP
  simp only [bM,rst,iX] at c1 c2;refine aX [0,1,5] [0,1,2,40] (by simp only [zZ,zR,zP,zQ,zN,zS,zM,zX,zU,Nat.reduceEqDiff,reduceIte];exact rfl) ?_
  refine aA ?_;refine qG 7 3 5 40 40 320 [.mv 37 0,.fa 38 1,.ld 39 1 1,.go,.mv 41 1,.fa 42 1,.ld 43 5 1] [0] (cells:=[.int .i64 3,.string P,.string Q,.int .i64 M]) mixed (by kernel_rfl) (by decide) rfl rfl rfl ⟨⟨_,rfl,rfl,rfl,rfl,rfl⟩,⟨_,_,_,rfl,rfl,rfl,rfl,lV⟩,⟨_,_,_,rfl,rfl,rfl,rfl,kt9,rfl,by simp,by decide⟩,trivial,⟨_,rfl,rfl,rfl,rfl,rfl⟩,⟨_,_,_,rfl,rfl,rfl,rfl,lV⟩,⟨_,_,_,rfl,rfl,rfl,rfl,kt9,rfl,by simp,by decide⟩,trivial⟩ (by kernel_rfl) (by kernel_rfl) (by kernel_rfl) rfl rfl rfl rfl rfl rfl rfl zUu rfl (c1) (by decide) (by decide) (by decide) (by simp only [push_cast,simprocAttr];try rfl) (by simp only [push_cast,simprocAttr];try rfl) (by rintro _ _ _ ⟨rfl,rfl,rfl⟩;constructor <;> simp (disch:=omega) only [push_cast,↓iC9,simprocAttr,aE,aD] <;> rfl) ?_
  rintro _ _ _ ⟨rfl,rfl,rfl⟩;refine aG 3 (fun K1 hK1=>?_);simp (disch:=omega) only [push_cast,↓iC9,simprocAttr,aE,aD,wF,wG,qBu,qBt,tR,nD,nE]
  refine gW 352 [1,2] zUt (c2) rfl (by decide) (by decide) (by simp only [push_cast,simprocAttr];try rfl) (by simp only [push_cast,simprocAttr];try rfl) ?_
  rintro _ _ ⟨rfl,fr2,rfl⟩;refine aM ?_;simp (disch:=omega) only [push_cast,↓iC9,simprocAttr,hxx];refine hK1 _ ?_;(try clear hK1 K1);refine aV ?_;refine aB ?_;refine bB ?_;refine dK ?_;refine bR ?_;simp only [aF,aN,yH,yE,yK,yJ,aH,zS,zM,Nat.reduceEqDiff,reduceIte,reduceCtorEq];refine bV [0,1,2] [] (by first|rfl|simp [bsL,MO.bs]) (by decide) (by decide) (by simp only [push_cast,simprocAttr]) (by simp only [push_cast,simprocAttr]) (by simp only [push_cast,simprocAttr];rfl) (by simp only [push_cast,simprocAttr];rfl) ?_
  exact ⟨rfl,R,fr2,nw,nG rok (zT1 d P),rfl,rfl⟩
 have e3:decide (k=3)=false:=decide_eq_false h3
 refine aC (fun K hK=>?_);simp (disch:=omega) only [push_cast,↓iC9,simprocAttr,e3];refine hK _ ?_;clear hK K
 refine aB ?_;refine bA rfl ?_;refine aA ?_
 by_cases h4:k=4
 ·subst h4;refine aC (fun K hK=>?_);simp (disch:=omega) only [push_cast,↓iC9,simprocAttr];refine hK _ ?_;clear hK K
  refine aB ?_;refine bW rfl ?_
  have hxx:decide ((eC d P Q).1=(eC d P Q).1)=true:=decide_eq_true rfl
  rw [show kT 4=5 from rfl]
  have c1:=zG9 d B ok hB P Q r1 r2 hP hQ
  have c2:=zEk d R fr nw rok P Q hP hQ
  simp only [bM,rst,iX] at c1 c2;refine aX [0,1,5] [0,1,2,40] (by simp only [zZ,zR,zP,zQ,zN,zS,zM,zX,zU,Nat.reduceEqDiff,reduceIte];exact rfl) ?_
  refine aA ?_;refine qG 11 5 5 40 53 424 [.mv 48 0,.fa 49 1,.ld 50 1 1,.fa 51 2,.ld 52 3 2,.go,.mv 54 1,.fa 55 1,.ld 56 7 1,.fa 57 2,.ld 58 9 2] [0] (cells:=[.int .i64 4,.string P,.string Q,.int .i64 M]) mixed (by kernel_rfl) (by decide) rfl rfl rfl ⟨⟨_,rfl,rfl,rfl,rfl,rfl⟩,⟨_,_,_,rfl,rfl,rfl,rfl,lV⟩,⟨_,_,_,rfl,rfl,rfl,rfl,kt9,rfl,by simp,by decide⟩,⟨_,_,_,rfl,rfl,rfl,rfl,xA⟩,⟨_,_,_,rfl,rfl,rfl,rfl,kt9,rfl,by simp,by decide⟩,trivial,⟨_,rfl,rfl,rfl,rfl,rfl⟩,⟨_,_,_,rfl,rfl,rfl,rfl,lV⟩,⟨_,_,_,rfl,rfl,rfl,rfl,kt9,rfl,by simp,by decide⟩,⟨_,_,_,rfl,rfl,rfl,rfl,xA⟩,⟨_,_,_,rfl,rfl,rfl,rfl,kt9,rfl,by simp,by decide⟩,trivial⟩ (by kernel_rfl) (by kernel_rfl) (by kernel_rfl) rfl rfl rfl rfl rfl rfl rfl zUs rfl (c1) (by decide) (by decide) (by decide) (by simp only [push_cast,simprocAttr];try rfl) (by simp only [push_cast,simprocAttr];try rfl) (by rintro _ _ _ ⟨rfl,rfl,rfl⟩;constructor <;> simp (disch:=omega) only [push_cast,↓iC9,simprocAttr,aE,aD] <;> rfl) ?_
  rintro _ _ _ ⟨rfl,rfl,rfl⟩;refine aG 3 (fun K1 hK1=>?_);simp (disch:=omega) only [push_cast,↓iC9,simprocAttr,aE,aD,wF,wG,qBu,qBt,tR,nD,nE]
  refine gW 472 [1,2] zUr (c2) rfl (by decide) (by decide) (by simp only [push_cast,simprocAttr];try rfl) (by simp only [push_cast,simprocAttr];try rfl) ?_
  rintro _ _ ⟨rfl,fr2,rfl⟩;refine aM ?_;simp (disch:=omega) only [push_cast,↓iC9,simprocAttr,hxx];refine hK1 _ ?_;(try clear hK1 K1);refine aV ?_;refine aB ?_;refine bB ?_;refine dK ?_;refine bR ?_;simp only [aF,aN,yH,yE,yK,yJ,aH,zS,zM,Nat.reduceEqDiff,reduceIte,reduceCtorEq];refine bV [0,1,2] [] (by first|rfl|simp [bsL,MO.bs]) (by decide) (by decide) (by simp only [push_cast,simprocAttr]) (by simp only [push_cast,simprocAttr]) (by simp only [push_cast,simprocAttr];rfl) (by simp only [push_cast,simprocAttr];rfl) ?_
  exact ⟨rfl,R,fr2,nw,nG rok (zT2 d P Q),rfl,rfl⟩
 have e4:decide (k=4)=false:=decide_eq_false h4
 refine aC (fun K hK=>?_);simp (disch:=omega) only [push_cast,↓iC9,simprocAttr,e4];refine hK _ ?_;clear hK K
 refine aB ?_;refine bA rfl ?_;refine aA ?_
 by_cases h5:k=5
 ·subst h5;refine aC (fun K hK=>?_);simp (disch:=omega) only [push_cast,↓iC9,simprocAttr];refine hK _ ?_;clear hK K
  refine aB ?_;refine bW rfl ?_
  have hxx:decide ((append d P Q).1=(append d P Q).1)=true:=decide_eq_true rfl
  rw [show kT 5=3 from rfl]
  have c1:=zL8 d B ok hB P r1 r2 hP Q hQ
  have c2:=zEz d R fr nw rok P Q hP hQ
  simp only [bM,rst,iX] at c1 c2;refine aX [0,1,5] [0,1,2,40] (by simp only [zZ,zR,zP,zQ,zN,zS,zM,zX,zU,Nat.reduceEqDiff,reduceIte];exact rfl) ?_
  refine aA ?_;refine qG 11 5 5 40 68 544 [.mv 63 0,.fa 64 1,.ld 65 1 1,.fa 66 2,.ld 67 3 2,.go,.mv 69 1,.fa 70 1,.ld 71 7 1,.fa 72 2,.ld 73 9 2] [0] (cells:=[.int .i64 5,.string P,.string Q,.int .i64 M]) mixed (by kernel_rfl) (by decide) rfl rfl rfl ⟨⟨_,rfl,rfl,rfl,rfl,rfl⟩,⟨_,_,_,rfl,rfl,rfl,rfl,lV⟩,⟨_,_,_,rfl,rfl,rfl,rfl,kt9,rfl,by simp,by decide⟩,⟨_,_,_,rfl,rfl,rfl,rfl,xA⟩,⟨_,_,_,rfl,rfl,rfl,rfl,kt9,rfl,by simp,by decide⟩,trivial,⟨_,rfl,rfl,rfl,rfl,rfl⟩,⟨_,_,_,rfl,rfl,rfl,rfl,lV⟩,⟨_,_,_,rfl,rfl,rfl,rfl,kt9,rfl,by simp,by decide⟩,⟨_,_,_,rfl,rfl,rfl,rfl,xA⟩,⟨_,_,_,rfl,rfl,rfl,rfl,kt9,rfl,by simp,by decide⟩,trivial⟩ (by kernel_rfl) (by kernel_rfl) (by kernel_rfl) rfl rfl rfl rfl rfl rfl rfl zUq rfl (c1) (by decide) (by decide) (by decide) (by simp only [push_cast,simprocAttr];try rfl) (by simp only [push_cast,simprocAttr];try rfl) (by rintro _ _ _ ⟨rfl,rfl,rfl⟩;constructor <;> simp (disch:=omega) only [push_cast,↓iC9,simprocAttr,aE,aD] <;> rfl) ?_
  rintro _ _ _ ⟨rfl,rfl,rfl⟩;refine aG 3 (fun K1 hK1=>?_);simp (disch:=omega) only [push_cast,↓iC9,simprocAttr,aE,aD,wF,wG,qBu,qBt,tR,nD,nE]
  refine gW 592 [1,2] zUp (c2) rfl (by decide) (by decide) (by simp only [push_cast,simprocAttr];try rfl) (by simp only [push_cast,simprocAttr];try rfl) ?_
  rintro _ _ ⟨rfl,fr2,rfl⟩;refine aM ?_;simp (disch:=omega) only [push_cast,↓iC9,simprocAttr,hxx];refine hK1 _ ?_;(try clear hK1 K1);refine aV ?_;refine aB ?_;refine bB ?_;refine dK ?_;refine bR ?_;simp only [aF,aN,yH,yE,yK,yJ,aH,zS,zM,Nat.reduceEqDiff,reduceIte,reduceCtorEq];refine bV [0,1,2] [] (by first|rfl|simp [bsL,MO.bs]) (by decide) (by decide) (by simp only [push_cast,simprocAttr]) (by simp only [push_cast,simprocAttr]) (by simp only [push_cast,simprocAttr];rfl) (by simp only [push_cast,simprocAttr];rfl) ?_
  exact ⟨rfl,R,fr2,nw,nG rok (zU2 d P Q),rfl,rfl⟩
 have e5:decide (k=5)=false:=decide_eq_false h5
 refine aC (fun K hK=>?_);simp (disch:=omega) only [push_cast,↓iC9,simprocAttr,e5];refine hK _ ?_;clear hK K
 refine aB ?_;refine bA rfl ?_;refine aA ?_
 by_cases h6:k=6
 ·subst h6;refine aC (fun K hK=>?_);simp (disch:=omega) only [push_cast,↓iC9,simprocAttr];refine hK _ ?_;clear hK K
  refine aB ?_;refine bW rfl ?_;rw [show kT 6=9 from rfl]
  have c1:=zEq d B ok hB30 hlo hlen M r1 r2
  have c2:=qZi d R fr nw ok.rise hlen hst hlo M
  simp only [bM,rst,iX] at c1 c2;refine aX [0,1,5] [0,1,2,40] (by simp only [zZ,zR,zP,zQ,zN,zS,zM,zX,zU,Nat.reduceEqDiff,reduceIte];exact rfl) ?_
  refine aA ?_;refine qG 7 3 5 40 81 648 [.mv 78 0,.fa 79 3,.ld 80 1 3,.go,.mv 82 1,.fa 83 3,.ld 84 5 3] [0] (cells:=[.int .i64 6,.string P,.string Q,.int .i64 M]) mixed (by kernel_rfl) (by decide) rfl rfl rfl ⟨⟨_,rfl,rfl,rfl,rfl,rfl⟩,⟨_,_,_,rfl,rfl,rfl,rfl,qFl⟩,⟨_,_,_,rfl,rfl,rfl,rfl,kt3,rfl,by simp,by decide⟩,trivial,⟨_,rfl,rfl,rfl,rfl,rfl⟩,⟨_,_,_,rfl,rfl,rfl,rfl,qFl⟩,⟨_,_,_,rfl,rfl,rfl,rfl,kt3,rfl,by simp,by decide⟩,trivial⟩ (by kernel_rfl) (by kernel_rfl) (by kernel_rfl) rfl rfl rfl rfl rfl rfl rfl zUy rfl (c1) (by decide) (by decide) (by decide) (by simp only [push_cast,simprocAttr];try rfl) (by simp only [push_cast,simprocAttr];try rfl) (by rintro _ _ _ ⟨rfl,rfl,rfl⟩;constructor <;> simp (disch:=omega) only [push_cast,↓iC9,simprocAttr,aE,aD] <;> rfl) ?_
  rintro _ _ _ ⟨rfl,rfl,rfl⟩;refine aG 3 (fun K1 hK1=>?_);simp (disch:=omega) only [push_cast,↓iC9,simprocAttr,aE,aD,wF,wG,qBu,qBt,tR,nD,nE]
  refine gW 680 [1,2] zUo (c2) rfl (by decide) (by decide) (by simp only [push_cast,simprocAttr];try rfl) (by simp only [push_cast,simprocAttr];try rfl) ?_
  rintro _ _ ⟨rfl,fr2,rfl⟩;refine aM ?_;simp (disch:=omega) only [push_cast,↓iC9,simprocAttr];refine hK1 _ ?_;(try clear hK1 K1);refine aV ?_;refine aB ?_;refine bB ?_;refine dK ?_;refine bR ?_;simp only [aF,aN,yH,yE,yK,yJ,aH,zS,zM,Nat.reduceEqDiff,reduceIte,reduceCtorEq];refine bV [0,1,2] [] (by first|rfl|simp [bsL,MO.bs]) (by decide) (by decide) (by simp only [push_cast,simprocAttr]) (by simp only [push_cast,simprocAttr]) (by simp only [push_cast,simprocAttr];rfl) (by simp only [push_cast,simprocAttr];rfl) ?_
  exact ⟨rfl,R,fr2,nw,nG rok (zTz d M),rfl,rfl⟩
 have e6:decide (k=6)=false:=decide_eq_false h6
 refine aC (fun K hK=>?_);simp (disch:=omega) only [push_cast,↓iC9,simprocAttr,e6];refine hK _ ?_;clear hK K
 refine aB ?_;refine bA rfl ?_;refine aA ?_
 by_cases h7:k=7
 ·subst h7;refine aC (fun K hK=>?_);simp (disch:=omega) only [push_cast,↓iC9,simprocAttr];refine hK _ ?_;clear hK K
  refine aB ?_;refine bW rfl ?_
  have hxx:decide ((rZ (fun s=>dM s M) d P).1=(rZ (fun s=>dM s M) d P).1)=true:=decide_eq_true rfl
  rw [show kT 7=10 from rfl]
  have c1:=zR3 d B ok hB P M r1 r2 hP hM1 hM2 hlo
  have c2:=zP5 d R fr nw rok P M hP hM1 hM2 hlo
  simp only [bM,rst,iX] at c1 c2;refine aX [0,1,5] [0,1,2,40] (by simp only [zZ,zR,zP,zQ,zN,zS,zM,zX,zU,Nat.reduceEqDiff,reduceIte];exact rfl) ?_
  refine aA ?_;refine qG 11 5 5 40 94 752 [.mv 89 0,.fa 90 1,.ld 91 1 1,.fa 92 3,.ld 93 3 3,.go,.mv 95 1,.fa 96 1,.ld 97 7 1,.fa 98 3,.ld 99 9 3] [0] (cells:=[.int .i64 7,.string P,.string Q,.int .i64 M]) mixed (by kernel_rfl) (by decide) rfl rfl rfl ⟨⟨_,rfl,rfl,rfl,rfl,rfl⟩,⟨_,_,_,rfl,rfl,rfl,rfl,lV⟩,⟨_,_,_,rfl,rfl,rfl,rfl,kt9,rfl,by simp,by decide⟩,⟨_,_,_,rfl,rfl,rfl,rfl,qFl⟩,⟨_,_,_,rfl,rfl,rfl,rfl,kt3,rfl,by simp,by decide⟩,trivial,⟨_,rfl,rfl,rfl,rfl,rfl⟩,⟨_,_,_,rfl,rfl,rfl,rfl,lV⟩,⟨_,_,_,rfl,rfl,rfl,rfl,kt9,rfl,by simp,by decide⟩,⟨_,_,_,rfl,rfl,rfl,rfl,qFl⟩,⟨_,_,_,rfl,rfl,rfl,rfl,kt3,rfl,by simp,by decide⟩,trivial⟩ (by kernel_rfl) (by kernel_rfl) (by kernel_rfl) rfl rfl rfl rfl rfl rfl rfl zUn rfl (c1) (by decide) (by decide) (by decide) (by simp only [push_cast,simprocAttr];try rfl) (by simp only [push_cast,simprocAttr];try rfl) (by rintro _ _ _ ⟨rfl,rfl,rfl⟩;constructor <;> simp (disch:=omega) only [push_cast,↓iC9,simprocAttr,aE,aD] <;> rfl) ?_
  rintro _ _ _ ⟨rfl,rfl,rfl⟩;refine aG 3 (fun K1 hK1=>?_);simp (disch:=omega) only [push_cast,↓iC9,simprocAttr,aE,aD,wF,wG,qBu,qBt,tR,nD,nE]
  refine gW 800 [1,2] zUm (c2) rfl (by decide) (by decide) (by simp only [push_cast,simprocAttr];try rfl) (by simp only [push_cast,simprocAttr];try rfl) ?_
  rintro _ _ ⟨rfl,fr2,rfl⟩;refine aM ?_;simp (disch:=omega) only [push_cast,↓iC9,simprocAttr,hxx];refine hK1 _ ?_;(try clear hK1 K1);refine aV ?_;refine aB ?_;refine bB ?_;refine dK ?_;refine bR ?_;simp only [aF,aN,yH,yE,yK,yJ,aH,zS,zM,Nat.reduceEqDiff,reduceIte,reduceCtorEq];refine bV [0,1,2] [] (by first|rfl|simp [bsL,MO.bs]) (by decide) (by decide) (by simp only [push_cast,simprocAttr]) (by simp only [push_cast,simprocAttr]) (by simp only [push_cast,simprocAttr];rfl) (by simp only [push_cast,simprocAttr];rfl) ?_
  exact ⟨rfl,R,fr2,nw,nG rok (zT0 _ d P),rfl,rfl⟩
 have e7:decide (k=7)=false:=decide_eq_false h7
 refine aC (fun K hK=>?_);simp (disch:=omega) only [push_cast,↓iC9,simprocAttr,e7];refine hK _ ?_;clear hK K
 refine aB ?_;refine bA rfl ?_;refine aT ?_;refine aA ?_
 skip
 refine aC (fun K hK=>?_);simp (disch:=omega) only [push_cast,↓iC9,simprocAttr];refine hK _ ?_;clear hK K
 refine aB ?_;refine bB ?_;simp only [aF,aN,yH,yE,yK,yJ,aH,zS,zM,Nat.reduceEqDiff,reduceIte,reduceCtorEq];refine bV [0,1,2] [] (by first|rfl|simp [bsL,MO.bs]) (by decide) (by decide) (by simp only [push_cast,simprocAttr]) (by simp only [push_cast,simprocAttr]) (by simp only [push_cast,simprocAttr];rfl) (by simp only [push_cast,simprocAttr];rfl) ?_
 have hc:vX d (kT k) P Q M=d:=by rw [zB7 h1 h2 h3 h4 h5 h6 h7];rfl
 rw [hc];exact ⟨rfl,R,fr,nw,nG rok rfl,rfl,rfl⟩
end Go.Proofs.YtlihpgmgiehjkaaGreatDoor
