/-
  The document's Roomy and Held; tree.Sub, Size.
-/
import Derived.Test.YtkonlklieacjoaaDoorGd
import Derived.Test.YtkonlklieacjoaaDoorTrL
section
set_option linter.unusedSimpArgs false
set_option linter.unusedVariables false
namespace Go.Eng
open Go Go.RowKit
section
variable {P : Program} {N : Nat} {x : Code} {Q : eY} {c : Ctx} {S S' : HS} {look : Nat → Option Value} {w : World}
theorem dQ {id : Nat} {ops : List Oper} (n : Nat) (hm : P.follows .mixedOrders = true) (hok : qCe (cM S.env) ops n = true)
  (h : ∀ K : HS → Prop, (∀ S', Q .normal S' → K S') → ∀ K1 : HS → Prop, (∀ S', kK (HV2 P N (dB ops) K (ops.drop n)) S' → K1 S') → HVr P N (dB ops) K1 (ops.take n) S) : HW P N (.region id ops.toArray true) Q S :=
 zL0 n hm hok fun K hK => h K hK _ fun _ h => h
theorem jS {id : Nat} {ops : List Oper} (n : Nat) (hm : P.follows .mixedOrders = true) (hok : qCe (cM S.env) ops n = true)
  (h : ∀ K : HS → Prop, (∀ S', Q .normal S' → K S') → ∀ K1 : HS → Prop, (∀ S', kK (HV2 P N (dB ops) K (ops.drop n)) S' → K1 S') → HVq P N (dB ops) K1 (ops.take n) S) : HW P N (.region id ops.toArray true) Q S :=
 HW_drw n hm hok fun K hK => h K hK _ fun _ h => h
end
end Go.Eng
end
section
set_option linter.unusedSimpArgs false
set_option linter.unusedVariables false
set_option maxRecDepth 20000
namespace Go.Tr
open Go Go.Eng
def spare : Ent := ({ data := #[115, 112, 97, 114, 101] }, 0, ByteArray.empty)
abbrev aY (t : List Ent) : Row := .sl true 68 3 (aH t)
theorem zLa {S : HS} {id sz n : Nat} {ty : Nat} {els : List (List FV)} {Q : HV → aD → Prop} (hr : rlk S.st id = some (.sl true ty sz els)) (hf : ∀ x ∈ els, ∀ f ∈ x, FreshF f) (q : Q (.vw 0 sz 0 n) [(0, .sl true ty sz els)]) : qAn S (.vw id sz 0 n) Q :=
 ⟨[id], by simp, by simp [dup], .vw .., fun i h r hr' => by
  simp at h; subst h; rw [hr] at hr'; simp only [Option.some.injEq] at hr'; subst hr'; exact ⟨rfl, hf⟩, by
  rw [HV.ren]; simp only [pos, if_true, gE, hr, Row.ren]; exact q⟩
end Go.Tr
namespace Go.Proofs.YtkonlklieacjoaaDoor
open Go Go.Eng Go.RowKit Go.Tr
set_option maxHeartbeats 2000000 in
theorem qSr (t : List Ent) (hl : t.length ≤ 1048576) : HFun Tryd.prog 13 [.lst false (aH t)] (fun h st => h = .vw 0 3 0 t.length ∧ st = [(0, aY (t ++ [spare]))]) := by
 refine eK (N := 12) Tryd.func13 rfl Tryd.ntmps13 Tryd.results13 (by simp) ?_
 refine zE ?_; refine zJ (fun K hK => ?_); simp (maxSteps := 2000000) (disch := omega) only [push_cast, ↓Int.cast_ofNat_Int, simprocAttr]; refine hK _ ?_; clear hK K
 have e1 : aH t ++ [[FV.v (.string { data := #[115, 112, 97, 114, 101] }), .v (.int .i64 0), .v (.string ByteArray.empty)]] = aH (t ++ [spare]) := lY t _ _ _
 refine zE ?_; refine zJ (fun K hK => ?_); simp (maxSteps := 2000000) (disch := omega) only [push_cast, ↓Int.cast_ofNat_Int, simprocAttr, yV, yU, Nat.sub_zero, e1]; refine hK _ ?_; clear hK K
 refine zA ?_; refine zW ?_
 simp only [yA, yM, yH, yE, aA, aC, yK, yJ, zS, zM, Nat.reduceEqDiff, reduceIte, reduceCtorEq]
 exact zLa rfl (aV _) ⟨rfl, rfl⟩
set_option maxHeartbeats 4000000 in
theorem zP5 (t : List Ent) (p : ByteArray) (hl : t.length ≤ 1048576) (hs : ∀ e ∈ t, e.1.size ≤ 1048576) (hp : p.size ≤ 1048576) : HFun Tryd.prog 24 [.lst false (aH t), .v (.string p)] (fun h st => h = .own 0 ∧ st = [(0, aY (t.filter fun e => jT e.1 p))]) := by
 refine eK (N := 25) Tryd.func24 rfl Tryd.ntmps24 Tryd.results24 (by simp) ?_
 refine zE ?_; refine zJ (fun K hK => ?_); simp (maxSteps := 2000000) (disch := omega) only [push_cast, ↓Int.cast_ofNat_Int, simprocAttr]; refine hK _ ?_; clear hK K
 refine zE ?_; refine zJ (fun K hK => ?_); simp (maxSteps := 2000000) (disch := omega) only [push_cast, ↓Int.cast_ofNat_Int, simprocAttr]; refine hK _ ?_; clear hK K
 refine zE ?_; refine zE ?_; refine zJ (fun K hK => ?_); simp (maxSteps := 2000000) (disch := omega) only [push_cast, ↓Int.cast_ofNat_Int, simprocAttr, yV]; refine hK _ ?_; clear hK K
 refine zA ?_; refine zD ?_
 refine bM (fun x : Nat × List Ent => ⟨[(1, .v (.string p)), (5, .own 64), (9, .lst false (aH t)), (10, .v (.int .i64 t.length)), (11, .v (.int .i64 x.1))], [(64, aY x.2)]⟩) (fun x => x.1 ≤ t.length ∧ x.2 = (t.take x.1).filter fun e => jT e.1 p) (fun x => t.length - x.1) [1, 5, 9, 10, 11] [64] (0, []) (by simp only [zZ, zR, zP, zQ, zN, zS, zM, zX, zU, Nat.reduceEqDiff, reduceIte]; rfl) ⟨Nat.zero_le _, rfl⟩ ?_
 rintro ⟨i, out⟩ ⟨hi, ho⟩
 simp only at hi ho
 by_cases hlt : i < t.length
 ·have hsz := hs _ (List.getElem_mem hlt)
  have hol : out.length ≤ i := by
   rw [ho]
   refine Nat.le_trans (List.length_filter_le ..) ?_
   rw [List.length_take]; omega
  have cu := zKg t[i].1 p hsz hp
  refine zE ?_; refine zJ (fun K hK => ?_); simp (maxSteps := 2000000) (disch := omega) only [push_cast, ↓Int.cast_ofNat_Int, simprocAttr]; refine hK _ ?_; clear hK K
  refine zE ?_
  refine yD rfl ?_
  refine zC ?_; refine zE ?_
  refine zD ?_; refine zE ?_; refine zJ (fun K hK => ?_); simp (maxSteps := 2000000) (disch := omega) only [push_cast, ↓Int.cast_ofNat_Int, simprocAttr, yV, yU, yW hlt]; refine hK _ ?_; clear hK K
  refine zE ?_; refine zJ (fun K hK => ?_); simp (maxSteps := 2000000) (disch := omega) only [push_cast, ↓Int.cast_ofNat_Int, simprocAttr]
  refine bV zR3 cu (.cons (.v _) (.cons (.v _) .nil)) ?_
  with_reducible refine aB ?_; simp (maxSteps := 2000000) (disch := omega) only [push_cast, ↓Int.cast_ofNat_Int, simprocAttr]
  refine hK _ ?_; clear hK K
  cases hu : jT t[i].1 p with
  | true =>
   have e2 : aH out ++ [[FV.v (.string t[i].1), .v (.int .i64 t[i].2.1), .v (.string t[i].2.2)]] = aH (out ++ [t[i]]) := lY out _ _ _
   refine yD rfl ?_
   refine zJ (fun K hK => ?_); simp (maxSteps := 2000000) (disch := omega) only [push_cast, ↓Int.cast_ofNat_Int, simprocAttr, yV, e2]; (repeat refine ⟨by first | omega | decide | ((repeat' apply And.intro) <;> first | omega | decide), ?_⟩); refine hK _ ?_; clear hK K
   refine zB ?_; refine zA ?_
   refine zJ (fun K hK => ?_); simp (maxSteps := 2000000) (disch := omega) only [push_cast, ↓Int.cast_ofNat_Int, simprocAttr]; refine hK _ ?_; clear hK K
   refine zA ?_
   refine ⟨(i + 1, out ++ [t[i]]), by simp only [zZ, zR, zP, zQ, zN, zS, zM, zX, zU, Nat.reduceEqDiff, reduceIte]; rfl, ⟨hlt, ?_⟩, by dsimp only; omega⟩
   dsimp only
   rw [List.take_succ_eq_append_getElem hlt, List.filter_append, ← ho]; simp [hu]
  | false =>
   refine yC rfl ?_
   refine zC ?_; refine zB ?_; refine zA ?_
   refine zJ (fun K hK => ?_); simp (maxSteps := 2000000) (disch := omega) only [push_cast, ↓Int.cast_ofNat_Int, simprocAttr]; refine hK _ ?_; clear hK K
   refine zA ?_
   refine ⟨(i + 1, out), by simp only [zZ, zR, zP, zQ, zN, zS, zM, zX, zU, Nat.reduceEqDiff, reduceIte]; rfl, ⟨hlt, ?_⟩, by dsimp only; omega⟩
   dsimp only
   rw [List.take_succ_eq_append_getElem hlt, List.filter_append, ← ho]; simp [hu]
 ·have hne : i = t.length := by omega
  subst hne
  rw [List.take_length] at ho
  rw [ho]
  refine zE ?_; refine zJ (fun K hK => ?_); simp (maxSteps := 2000000) (disch := omega) only [push_cast, ↓Int.cast_ofNat_Int, simprocAttr]; refine hK _ ?_; clear hK K
  refine zE ?_
  refine yC rfl ?_
  refine zT ?_; refine zG ?_; refine zG ?_; refine zH ?_; refine zE ?_
  refine zJ (fun K hK => ?_); simp (maxSteps := 2000000) (disch := omega) only [push_cast, ↓Int.cast_ofNat_Int, simprocAttr]; refine hK _ ?_; clear hK K
  refine zA ?_; refine zW ?_
  simp only [yA, yM, yH, yE, aA, aC, yK, yJ, zS, zM, Nat.reduceEqDiff, reduceIte, reduceCtorEq]
  exact qBf rfl (aV _) ⟨rfl, rfl⟩
end Go.Proofs.YtkonlklieacjoaaDoor
end
