/-
  The law DiskMoves: a rename is one step.
-/
import Derived.Test.YtojolcpblacjjaaDoorDkW
import Derived.Test.YtojolcpblacjjaaDoorDkR
import Derived.Test.YtojolcpblacjjaaDoorUpt
set_option linter.unusedSimpArgs false
set_option linter.unusedVariables false
set_option maxRecDepth 20000
namespace Go.Proofs.YtojolcpblacjjaaDoor
open Go Go.Eng Go.RowKit Go.Tr Go.Dk
theorem rise_AB (p q : Itm) : Rise [(sV, itmD), (sVa, p), (sVb, q)] := by
 have h1 : blt sV sVa = true := by rw [← bltD_eq]; decide
 have h2 : blt sV sVb = true := by rw [← bltD_eq]; decide
 have h3 : blt sVa sVb = true := by rw [← bltD_eq]; decide
 simp [Rise, h1, h2, h3]
theorem rise_A (p : Itm) : Rise [(sV, itmD), (sVa, p)] := rise_two (by show bltD sV sVa = true; decide)
theorem keys_AB (p q : Itm) : ∀ e ∈ [(sV, itmD), (sVa, p), (sVb, q)], e.1.size ≤ 1048576 := by
 intro e he
 simp only [List.mem_cons, List.not_mem_nil, or_false] at he
 rcases he with rfl | rfl | rfl
 ·exact sz_V.1
 ·exact sz_V.2.1
 ·exact sz_V.2.2.1
theorem keys_A (p : Itm) : ∀ e ∈ [(sV, itmD), (sVa, p)], e.1.size ≤ 1048576 := by
 intro e he
 simp only [List.mem_cons, List.not_mem_nil, or_false] at he
 rcases he with rfl | rfl
 ·exact sz_V.1
 ·exact sz_V.2.1
end Go.Proofs.YtojolcpblacjjaaDoor
