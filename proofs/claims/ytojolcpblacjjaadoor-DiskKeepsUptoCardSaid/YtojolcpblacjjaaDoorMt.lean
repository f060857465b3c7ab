/-
  Maps beside the engine's state: equations.
-/
import Derived.Test.YtojolcpblacjjaaDoorMs
set_option linter.unusedSimpArgs false
set_option linter.unusedVariables false
namespace Go.Eng
open Go Go.RowKit Go.Maps
theorem lookH_true (v : Option Value) (z : Value) : lookH v z true = .tup [hvOf (v.getD z), .v (.bool v.isSome)] := nr rfl
theorem lookH_false (v : Option Value) (z : Value) : lookH v z false = hvOf (v.getD z) := nr rfl
theorem hcells_map (r : Option Nat) : hcells (.v (.map r)) = some [.v (.map r)] := nr rfl
theorem one_map (r : Option Nat) : (Value.map r).oneCell' = true := nr rfl
theorem hfunMQ_normal (P : Program) (rs : List ResultVar) (st0 : Store) (g0 : MS) (R : HV → Store → MS → Prop) (g : MS) (S : HS) : hfunMQ P rs st0 g0 R .normal g S = resH P S rs fun hs => HResM st0 g0 g S (htup hs) R := nr rfl
theorem hfunMQ_ret (P : Program) (rs : List ResultVar) (st0 : Store) (g0 : MS) (R : HV → Store → MS → Prop) (g : MS) (S : HS) : hfunMQ P rs st0 g0 R .ret g S = resH P S rs fun hs => HResM st0 g0 g S (htup hs) R := nr rfl
theorem hresM (ids more : List Nat) {st0 : Store} {g0 g : MS} {S : HS} {h : HV} {R : HV → Store → MS → Prop} (hm : bsL g = bsL g0 ++ more) (h1 : ids.length ≤ 8) (h2 : dup ids = false) (h3 : boxOk S.st 0 ids) (h4 : keepB ids S.st st0) {h' : HV} {st' : Store} (h5 : h.ren (pos ids) = h') (h6 : rpick (pos ids) S.st 0 ids = st') (q : R h' st' g) : HResM st0 g0 g S h R :=
 ⟨⟨more, hm⟩, ids, h1, h2, h3, h4, by rw [h5, h6]; exact q⟩
end Go.Eng
