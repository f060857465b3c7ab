/-
  A row whose elements name no rows, as such; which operations store. Of no program.
-/
import Derived.Test.YtkonlklieacjoaaDoorTrB
import Derived.Test.YtkonlklieacjoaaDoorTrM
import Derived.Test.YtkonlklieacjoaaDoorGd
section
set_option linter.unusedSimpArgs false
set_option linter.unusedVariables false
namespace Go.Tr
open Go
def diffS : List Ent → List Ent → List ByteArray
 | [], [] => []
 | x :: a, [] => x.1 :: diffS a []
 | [], y :: b => y.1 :: diffS [] b
 | x :: a, y :: b => if blt x.1 y.1 then x.1 :: diffS a (y :: b) else if blt y.1 x.1 then y.1 :: diffS (x :: a) b else if x.2 = y.2 then diffS a b else x.1 :: diffS a b
termination_by a b => a.length + b.length
theorem diffS_nn : diffS [] [] = [] := by rw [diffS]
theorem diffS_cn (x : Ent) (a : List Ent) : diffS (x :: a) [] = x.1 :: diffS a [] := by rw [diffS]
theorem diffS_nc (y : Ent) (b : List Ent) : diffS [] (y :: b) = y.1 :: diffS [] b := by rw [diffS]
theorem diffS_lt {x y : Ent} {a b : List Ent} (h : blt x.1 y.1 = true) : diffS (x :: a) (y :: b) = x.1 :: diffS a (y :: b) := by rw [diffS, if_pos h]
theorem diffS_gt {x y : Ent} {a b : List Ent} (h : blt y.1 x.1 = true) : diffS (x :: a) (y :: b) = y.1 :: diffS (x :: a) b := by rw [diffS, if_neg (by rw [blt_asymm h]; simp), if_pos h]
theorem diffS_eq {x y : Ent} {a b : List Ent} (h : x.1 = y.1) : diffS (x :: a) (y :: b) = if x.2 = y.2 then diffS a b else x.1 :: diffS a b := by rw [diffS, h, blt_irr]; simp
theorem merge_ind {Q : List Ent → List Ent → Prop} (nn : Q [] []) (cn : ∀ x a, Q a [] → Q (x :: a) []) (nc : ∀ y b, Q [] b → Q [] (y :: b))
  (lt : ∀ x a y b, blt x.1 y.1 = true → Q a (y :: b) → Q (x :: a) (y :: b)) (gt : ∀ x a y b, blt y.1 x.1 = true → Q (x :: a) b → Q (x :: a) (y :: b)) (eq : ∀ x a y b, x.1 = y.1 → Q a b → Q (x :: a) (y :: b)) : ∀ a b, Q a b := by
 have : ∀ n a b, a.length + b.length ≤ n → Q a b := by
  intro n
  induction n with
  | zero =>
   intro a b h
   cases a with
   | nil => cases b with
    | nil => exact nn
    | cons y b => simp at h
   | cons x a => simp at h
  | succ n ih =>
   intro a b h
   cases a with
   | nil => cases b with
    | nil => exact nn
    | cons y b => exact nc y b (ih _ _ (by simp at h ⊢; omega))
   | cons x a => cases b with
    | nil => exact cn x a (ih _ _ (by simp at h ⊢; omega))
    | cons y b =>
     rcases blt_tri x.1 y.1 with h1 | h1 | h1
     ·exact lt x a y b h1 (ih _ _ (by simp at h ⊢; omega))
     ·exact eq x a y b h1 (ih _ _ (by simp at h ⊢; omega))
     ·exact gt x a y b h1 (ih _ _ (by simp at h ⊢; omega))
 exact fun a b => this _ a b (Nat.le_refl _)
def above (p : ByteArray) (t : List Ent) : Prop := ∀ e ∈ t, blt p e.1 = true
theorem rise_cons {x : Ent} {t : List Ent} : rise (x :: t) ↔ above x.1 t ∧ rise t := List.pairwise_cons
theorem above_cons {p : ByteArray} {x : Ent} {t : List Ent} (h : blt p x.1 = true) (h' : above x.1 t) : above p (x :: t) := fun e he => by
 rcases List.mem_cons.1 he with rfl | he
 ·exact h
 ·exact blt_trans h (h' e he)
theorem diffS_none : ∀ a b, diffS a b = [] → a = b := by
 refine merge_ind (fun _ => rfl) (fun x a _ h => ?_) (fun y b _ h => ?_) (fun x a y b h _ h2 => ?_) (fun x a y b h _ h2 => ?_) (fun x a y b h ih h2 => ?_)
 ·rw [diffS_cn] at h; cases h
 ·rw [diffS_nc] at h; cases h
 ·rw [diffS_lt h] at h2; cases h2
 ·rw [diffS_gt h] at h2; cases h2
 ·rw [diffS_eq h] at h2
  split at h2
  ·rename_i e; rw [ih h2, Prod.ext h e]
  ·cases h2
theorem getN_cons (x : Ent) (t : List Ent) (p : ByteArray) : getN (x :: t) p = if x.1 = p then x.2 else getN t p := by
 unfold getN
 rw [List.find?_cons]
 by_cases h : x.1 = p
 ·rw [decide_eq_true h, if_pos h]; rfl
 ·rw [decide_eq_false h, if_neg h]
theorem getN_above {t : List Ent} {p : ByteArray} (h : above p t) : getN t p = nil0 := by
 refine getN_none ?_
 unfold there
 rw [List.any_eq_false]
 intro e he
 have := blt_ne (h e he)
 simpa using fun e' => this e'.symm
def kinds (t : List Ent) : Prop := ∀ e ∈ t, e.2 ≠ nil0
theorem kinds_cons {x : Ent} {t : List Ent} (h : kinds (x :: t)) : x.2 ≠ nil0 ∧ kinds t := ⟨h x (by simp), fun e he => h e (by simp [he])⟩
theorem diffS_iff (p : ByteArray) : ∀ a b, rise a → rise b → kinds a → kinds b → (p ∈ diffS a b ↔ getN a p ≠ getN b p) := by
 have nilab : ∀ p, above p [] := fun p e he => by simp at he
 have g0 : getN [] p = nil0 := rfl
 refine merge_ind (fun _ _ _ _ => by rw [diffS_nn]; simp) (fun x a ih ra rb ka kb => ?_) (fun y b ih ra rb ka kb => ?_) (fun x a y b h ih ra rb ka kb => ?_) (fun x a y b h ih ra rb ka kb => ?_) (fun x a y b h ih ra rb ka kb => ?_)
 ·rw [rise_cons] at ra
  obtain ⟨k1, k2⟩ := kinds_cons ka
  rw [diffS_cn, List.mem_cons, getN_cons, ih ra.2 rb k2 kb]
  by_cases e : x.1 = p
  ·rw [if_pos e, g0]; exact ⟨fun _ => k1, fun _ => .inl e.symm⟩
  ·rw [if_neg e]; exact ⟨fun h => h.resolve_left fun e' => e e'.symm, .inr⟩
 ·rw [rise_cons] at rb
  obtain ⟨k1, k2⟩ := kinds_cons kb
  rw [diffS_nc, List.mem_cons, getN_cons, ih ra rb.2 ka k2]
  by_cases e : y.1 = p
  ·rw [if_pos e, g0]; exact ⟨fun _ h => k1 h.symm, fun _ => .inl e.symm⟩
  ·rw [if_neg e]; exact ⟨fun h => h.resolve_left fun e' => e e'.symm, .inr⟩
 ·have rb' := rise_cons.1 rb
  rw [rise_cons] at ra
  obtain ⟨k1, k2⟩ := kinds_cons ka
  rw [diffS_lt h, List.mem_cons, getN_cons, ih ra.2 rb k2 kb]
  by_cases e : x.1 = p
  ·subst e
   rw [if_pos rfl, getN_above (above_cons h rb'.1)]; exact ⟨fun _ => k1, fun _ => .inl rfl⟩
  ·rw [if_neg e]; exact ⟨fun h => h.resolve_left fun e' => e e'.symm, .inr⟩
 ·have ra' := rise_cons.1 ra
  rw [rise_cons] at rb
  obtain ⟨k1, k2⟩ := kinds_cons kb
  rw [diffS_gt h, List.mem_cons, getN_cons y, ih ra rb.2 ka k2]
  by_cases e : y.1 = p
  ·subst e
   rw [if_pos rfl, getN_above (above_cons h ra'.1)]; exact ⟨fun _ h => k1 h.symm, fun _ => .inl rfl⟩
  ·rw [if_neg e]; exact ⟨fun h => h.resolve_left fun e' => e e'.symm, .inr⟩
 ·rw [rise_cons] at ra rb
  obtain ⟨k1, k2⟩ := kinds_cons ka
  obtain ⟨k3, k4⟩ := kinds_cons kb
  have ih := ih ra.2 rb.2 k2 k4
  rw [diffS_eq h, getN_cons, getN_cons, ← h]
  by_cases e : x.1 = p
  ·subst e
   rw [if_pos rfl, if_pos rfl]
   rw [getN_above ra.1, getN_above (h ▸ rb.1)] at ih
   by_cases e2 : x.2 = y.2
   ·rw [if_pos e2]; exact ⟨fun h => absurd rfl (ih.1 h), fun h => absurd e2 h⟩
   ·rw [if_neg e2]; exact ⟨fun _ => e2, fun _ => by simp⟩
  ·rw [if_neg e, if_neg e]
   by_cases e2 : x.2 = y.2
   ·rw [if_pos e2]; exact ih
   ·rw [if_neg e2, List.mem_cons, ih]; exact ⟨fun h => h.resolve_left fun e' => e e'.symm, .inr⟩
end Go.Tr
end
section
set_option linter.unusedSimpArgs false
set_option linter.unusedVariables false
set_option maxRecDepth 20000
namespace Go.Tr
open Go Go.Eng
theorem fresh_node (n : Int × ByteArray) : FreshH (nodeH n) := .agg fun x hx => by simp at hx; rcases hx with rfl | rfl <;> exact .v _
theorem node_any {n : Int × ByteArray} {ρ ρ' : Nat → Value} {w : World} {A : Nat → Prop} {n0 : Nat} {v : Value} (h : RepH w A n0 ρ v (nodeH n)) : RepH w A n0 ρ' v (nodeH n) := by
 cases h with
 | agg hn h1 h =>
  refine .agg hn h1 fun j a b => ?_
  have := h j a b
  match j, b with
  | 0, _ => rw [repH_v this]; exact .v _
  | 1, _ => rw [repH_v this]; exact .v _
theorem hatRn {P : Program} {T : HS} {f : FuncId} {args args' : List HV} {n : Int × ByteArray} {K : HV → Prop} (hc : callable P f = true) (H : HFun P f args' (fun h st => h = nodeH n ∧ st = [])) (hl : Lends T.st args args') (hK : K (nodeH n)) : HAtR P f args T K :=
 hatR hc H (fresh_node n) (fun ρ ρ' w A n v h => node_any h) hl hK
end Go.Tr
end
section
set_option linter.unusedSimpArgs false
set_option linter.unusedVariables false
namespace Go.Eng
open Go Go.RowKit
section
variable {P : Program} {N : Nat} {x : Code} {Q : HPost} {c : Ctx} {S S' : HS} {look : Nat → Option Value} {w : World}
theorem HW_drwR2 {id : Nat} {ops : List Oper} (n : Nat) (hm : P.follows .mixedOrders = true) (hok : regOk (hkeys S.env) ops n = true)
  (h : ∀ K : HS → Prop, (∀ S', Q .normal S' → K S') → ∀ K1 : HS → Prop, (∀ S', HStop (HV2 P N (dsts ops) K (ops.drop n)) S' → K1 S') → HVr P N (dsts ops) K1 (ops.take n) S) : HW P N (.region id ops.toArray true) Q S :=
 HW_drwR n hm hok fun K hK => h K hK _ fun _ h => h
theorem HW_drw2 {id : Nat} {ops : List Oper} (n : Nat) (hm : P.follows .mixedOrders = true) (hok : regOk (hkeys S.env) ops n = true)
  (h : ∀ K : HS → Prop, (∀ S', Q .normal S' → K S') → ∀ K1 : HS → Prop, (∀ S', HStop (HV2 P N (dsts ops) K (ops.drop n)) S' → K1 S') → HVq P N (dsts ops) K1 (ops.take n) S) : HW P N (.region id ops.toArray true) Q S :=
 HW_drw n hm hok fun K hK => h K hK _ fun _ h => h
end
end Go.Eng
end
