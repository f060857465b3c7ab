/-
  Maps beside the engine's state: equations.
-/
import Derived.Test.YtdmnijnogabchaaDoorMen
import Derived.Test.YtdmnijnogabchaaDoorTyC
import Derived.Test.YtdmnijnogabchaaDoorMs
set_option linter.unusedSimpArgs false
set_option linter.unusedVariables false
section
set_option maxRecDepth 20000
namespace Go.Proofs.YtdmnijnogabchaaDoor
open Go Go.Eng Go.RowKit Go.Maps Go.WideMaps
def qQh (p:ByteArray) (n:Int):List UInt8:=keyBytes [.string p.data.toList,.int .i64 n]
theorem zKw:laidOutB Tryd.prog=true:=by kernel_rfl
theorem law85:KeyLaw Tryd.prog 70:=deep_law_laid zKw (m:=2) (by omega) (of_decide_eq_true (by kernel_rfl)) (by kernel_rfl) (by rw [Tryd.underlying70])
theorem xV {p:ByteArray} {n:Int} (hp:p.size≤maxLen) (hn:(Lit.int .i64 n).wf=true):keyOf Tryd.prog 70 (.agg #[.string p,.int .i64 n])=some (.string (qQh p n)):=by
 have hk:Tryd.prog.keyType 70=true:=by kernel_rfl
 have hc:Tryd.prog.cellsOf 70=2:=by kernel_rfl
 have hc9:Tryd.prog.cellsOf 9=1:=by kernel_rfl
 have hc3:Tryd.prog.cellsOf 3=1:=by kernel_rfl
 have hf:(Value.agg #[.string p,.int .i64 n]).formed Tryd.prog 70=true:=by simp [Value.formed,Tryd.underlying70,hc]
 obtain ⟨m,hm⟩:∃ m,Tryd.prog.types.size=m + 1:=⟨Tryd.prog.types.size - 1,by have:(70:Nat) < Tryd.prog.types.size:=of_decide_eq_true (by kernel_rfl);omega⟩
 have k9:∀ s:ByteArray,s.size≤maxLen→Program.keyLits Tryd.prog (m + 1) 9 [.string s]=some [.string s.data.toList]:=fun s hs=>by
  unfold Program.keyLits;rw [Tryd.underlying9];simp [hs]
 have k3:Program.keyLits Tryd.prog (m + 1) 3 [.int .i64 n]=some [.int .i64 n]:=by
  unfold Program.keyLits;rw [Tryd.underlying3];simp [hn]
 unfold keyOf;rw [Tryd.underlying70];simp only [hk,hf,Bool.and_self,if_true,Value.cells];rw [hm];unfold Program.keyLits;rw [Tryd.underlying70];simp [hc,hc9,hc3,List.take,List.drop,k9 p hp,k3,qQh]
theorem zB8 {p p':ByteArray} {n n':Int} (hp:p.size≤maxLen) (hn:(Lit.int .i64 n).wf=true) (hp':p'.size≤maxLen) (hn':(Lit.int .i64 n').wf=true) (h:qQh p n=qQh p' n'):p=p'∧n=n':=by
 have h1:=xV hp hn
 rw [h] at h1
 have:=law85.inj h1 (xV hp' hn')
 simpa using this
end Go.Proofs.YtdmnijnogabchaaDoor
end
section
namespace Go.Eng
open Go Go.RowKit Go.Maps
theorem aF (v:Option Value) (z:Value):nF v z true=.tup [xX (v.getD z),.v (.bool v.isSome)]:=nr rfl
theorem aE (v:Option Value) (z:Value):nF v z false=xX (v.getD z):=nr rfl
theorem qH2 (r:Option Nat):cM (.v (.map r))=some [.v (.map r)]:=nr rfl
theorem qX7 (r:Option Nat):(Value.map r).oneCell'=true:=nr rfl
theorem aN (P:Program) (rs:List ResultVar) (st0:aC) (g0:MS) (R:HV→aC→MS→Prop) (g:MS) (S:HS):qW3 P rs st0 g0 R .normal g S=kN P S rs fun hs=>qP2 st0 g0 g S (qB hs) R:=nr rfl
theorem aU (P:Program) (rs:List ResultVar) (st0:aC) (g0:MS) (R:HV→aC→MS→Prop) (g:MS) (S:HS):qW3 P rs st0 g0 R .ret g S=kN P S rs fun hs=>qP2 st0 g0 g S (qB hs) R:=nr rfl
theorem dA (ids more:List Nat) {st0:aC} {g0 g:MS} {S:HS} {h:HV} {R:HV→aC→MS→Prop} (hm:bsL g=bsL g0 ++ more) (h1:ids.length≤8) (h2:dup ids=false) (h3:qDy S.st 0 ids) (h4:mF ids S.st st0) {h':HV} {st':aC} (h5:h.ren (pos ids)=h') (h6:iB (pos ids) S.st 0 ids=st') (q:R h' st' g):qP2 st0 g0 g S h R :=
 ⟨⟨more,hm⟩,ids,h1,h2,h3,h4,by rw [h5,h6];exact q⟩
end Go.Eng
end
