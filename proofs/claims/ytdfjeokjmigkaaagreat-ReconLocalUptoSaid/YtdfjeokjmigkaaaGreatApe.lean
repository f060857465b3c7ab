/-
  Regions that draw their order, appends to rows of one's own among their heads: the rule.
-/
import Derived.Test.YtdfjeokjmigkaaaGreatTrC
import Derived.Test.YtdfjeokjmigkaaaGreatGc
import Derived.Test.YtdfjeokjmigkaaaGreatTyZ
import Derived.Test.YtdfjeokjmigkaaaGreatShpZ2
import Derived.Test.YtdfjeokjmigkaaaGreatTrB
import Derived.Test.YtdfjeokjmigkaaaGreatGd
section
set_option linter.unusedSimpArgs false
set_option linter.unusedVariables false
set_option maxRecDepth 20000
namespace Go.Tr
open Go Go.Eng Go.RowKit
def qR2 (e : Ent) : List FV := [.v (.string e.1), .v (.int .i64 e.2.1), .v (.string e.2.2)]
def bR (t : List Ent) : List (List FV) := t.map qR2
abbrev gU (n : Int × ByteArray) : HV := .agg [.v (.int .i64 n.1), .v (.string n.2)]
abbrev zPo (e : Ent) : HV := .agg [.v (.string e.1), .v (.int .i64 e.2.1), .v (.string e.2.2)]
theorem yV (t : List Ent) : (bR t).length = t.length := by simp [bR]
theorem yU (t : List Ent) : Wid 3 (bR t) = True := eq_true (qAe t fun _ => rfl)
theorem yW {t : List Ent} {i : Nat} {d : List FV} (h : i < t.length) : (bR t).getD i d = [.v (.string t[i].1), .v (.int .i64 t[i].2.1), .v (.string t[i].2.2)] := by unfold bR; rw [nP h]; rfl
theorem yT (t : List Ent) : nW (bR t) = bR t := by
 unfold nW bR; rw [List.map_map]; apply List.map_congr_left; intro s _; simp [qR2, FV.old]
theorem qJf (t : List Ent) : ∀ x ∈ bR t, ∀ f ∈ x, FreshF f := fun x hx f hf => by
 obtain ⟨s, -, rfl⟩ := List.mem_map.1 hx; simp [qR2] at hf; rcases hf with rfl | rfl | rfl <;> exact .v _
theorem qLk (t : List Ent) (p : ByteArray) (k : Int) (d : ByteArray) : bR t ++ [[.v (.string p), .v (.int .i64 k), .v (.string d)]] = bR (t ++ [(p, k, d)]) := by simp [bR, qR2]
theorem gD {st : aB} (n : Int × ByteArray) : Lend st (gU n) (gU n) := .agg rfl fun j h1 h2 => by
 match j, h1 with
 | 0, _ => exact .v _
 | 1, _ => exact .v _
theorem qHv {st : aB} (e : Ent) : Lend st (zPo e) (zPo e) := .agg rfl fun j h1 h2 => by
 match j, h1 with
 | 0, _ => exact .v _
 | 1, _ => exact .v _
 | 2, _ => exact .v _
theorem qBf {S : HS} {n : Int × ByteArray} {Q : HV → aB → Prop} (q : Q (gU n) []) : qE9 S (gU n) Q :=
 ⟨[], by simp, rfl, .agg fun x hx => by simp at hx; rcases hx with rfl | rfl <;> exact .v _, fun id h => by simp at h, by rw [HV.ren]; simp only [List.map_cons, List.map_nil, HV.ren]; exact q⟩
end Go.Tr
namespace Go.Proofs.YtdfjeokjmigkaaaGreat
open Go Go.Eng Go.RowKit Go.Tr
theorem zCk (a b : ByteArray) : HFun Tryz.prog 107 [.v (.string a), .v (.string b)] (fun h st => h = .v (.int .i64 (zCv a b))) := by
 refine (tR fun w vs R => ?_).mono fun h st q => q.1
 obtain ⟨r1, r2⟩ := R
 match vs, r1 with
 | [x, y], _ =>
 have ha := aV (r2 0 (by simp) (by simp))
 have hb := aV (r2 1 (by simp) (by simp))
 simp only [List.getElem_cons_zero, List.getElem_cons_succ] at ha hb
 subst ha; subst hb
 refine (Tryz.strings_Compare a b w).mono ?_
 rintro e w' ⟨rfl, rfl⟩
 exact nV ⟨rfl, Below.refl _ _⟩
set_option maxHeartbeats 1000000 in
theorem qJm (e : Ent) (p : ByteArray) : HFun Tryz.prog 106 [zPo e, .v (.string p)] (fun h st => h = .v (.int .i64 (zCv e.1 p))) := by
 obtain ⟨q, k, d⟩ := e
 refine fA (N := 9) Tryz.func106 rfl Tryz.ntmps106 Tryz.results106 (by simp) ?_
 refine zE ?_; refine zJ (fun K hK => ?_); simp (disch := omega) only [push_cast, ↓Int.cast_ofNat_Int, simprocAttr]; refine hK _ ?_; clear hK K
 refine zE ?_; refine zJ (fun K hK => ?_); simp (disch := omega) only [push_cast, ↓Int.cast_ofNat_Int, simprocAttr]
 refine bP zRw (zCk q p) (.cons (.v _) (.cons (.v _) .nil)) ?_
 with_reducible refine aE ?_; simp (disch := omega) only [push_cast, ↓Int.cast_ofNat_Int, simprocAttr]
 refine hK _ ?_; clear hK K
 refine zA ?_; refine zW ?_
 simp only [yA, yM, yH, yE, aA, aC, yK, yJ, zS, zM, Nat.reduceEqDiff, reduceIte, reduceCtorEq]
 exact aL rfl
end Go.Proofs.YtdfjeokjmigkaaaGreat
end
section
set_option linter.unusedVariables false
set_option linter.unusedSimpArgs false
namespace Go.Proofs.YtdfjeokjmigkaaaGreat
open Go Go.Eng Go.RowKit Go.ChangeShapes Go.WideShapes Go.ChangeAt Go.Tr
theorem qJc {b : Nat} {f : FV} (h : Fit (.sl b [.str, .int .i64, .str]) f) : ∃ t : List Ent, f = .lst false (bR t) ∧ True := by
 cases h with
 | sl hb hl h =>
  rename_i xs
  have : ∀ x ∈ xs, ∃ e : Ent, x = qR2 e := fun x hx => by
   have h1 := hl x hx
   match x, h1 with
   | [f0, f1, f2], _ =>
   have a := h _ hx 0 (by simp) (by simp)
   have b := h _ hx 1 (by simp) (by simp)
   have c := h _ hx 2 (by simp) (by simp)
   simp only [List.getElem_cons_zero, List.getElem_cons_succ] at a b c
   cases a; cases b; cases c
   exact ⟨(_, _, _), rfl⟩
  clear hb hl h
  induction xs with
  | nil => exact ⟨[], rfl, trivial⟩
  | cons x r ih =>
   obtain ⟨e, rfl⟩ := this x (by simp)
   obtain ⟨t, ht, -⟩ := ih (fun y hy => this y (by simp [hy]))
   simp only [FV.lst.injEq, true_and] at ht
   exact ⟨e :: t, by rw [ht]; rfl, trivial⟩
theorem qNr (t : List Ent) : t.length ≤ fw (.lst false (bR t)) ∧ ∀ e ∈ t, e.1.size ≤ fw (.lst false (bR t)) ∧ e.2.2.size ≤ fw (.lst false (bR t)) := by
 rw [zGk]
 have : ∀ t : List Ent, t.length ≤ ((bR t).map fws).sum ∧ ∀ e ∈ t, e.1.size ≤ ((bR t).map fws).sum ∧ e.2.2.size ≤ ((bR t).map fws).sum := by
  intro t
  induction t with
  | nil => exact ⟨Nat.le_refl _, by simp⟩
  | cons x r ih =>
   have e1 : ((bR (x :: r)).map fws).sum = fws (qR2 x) + ((bR r).map fws).sum := by simp [bR]
   have e2 : x.1.size + 1 + x.2.2.size ≤ fws (qR2 x) := by simp [fws, qR2, zGj]; omega
   rw [e1]
   refine ⟨by simp only [List.length_cons]; omega, fun e he => ?_⟩
   rcases List.mem_cons.1 he with rfl | he
   ·exact ⟨by omega, by omega⟩
   ·have := ih.2 e he; exact ⟨by omega, by omega⟩
 obtain ⟨h1, h2⟩ := this t
 exact ⟨by omega, fun e he => by have := h2 e he; exact ⟨by omega, by omega⟩⟩
end Go.Proofs.YtdfjeokjmigkaaaGreat
end
section
set_option linter.unusedSimpArgs false
set_option linter.unusedVariables false
namespace Go.Eng
open Go Go.RowKit
section
variable {P : Program} {N : Nat} {ops : List Oper} {n : Nat} {l : Env} {vs : Nat → Value}
end
section
variable {P : Program} {N : Nat} {Q : qB4} {l : Env} {w : World}
end
end Go.Eng
end
section
set_option linter.unusedSimpArgs false
set_option linter.unusedVariables false
namespace Go.Eng
open Go Go.RowKit
def inl (ids : List Nat) (i : Nat) : Bool := match ids with
 | [] => false
 | k :: r => k == i || inl r i
abbrev Aps := List (Nat × Nat × List Nat)
def bad (W : Aps) (i : Nat) : List Nat := match W with
 | [] => []
 | (a, id, D) :: r => bif a == i || inl D i then bad r i else id :: bad r i
def wat (W : Aps) (i : Nat) : Option Nat := match W with
 | [] => none
 | (a, id, _) :: r => bif a == i then some id else wat r i
def pL (W : Aps) (L : Nat → Bool) (id : Nat) : Bool := match W with
 | [] => false
 | (a, i, _) :: r => (L a && i == id) || pL r L id
end Go.Eng
end
section
set_option linter.unusedSimpArgs false
set_option linter.unusedVariables false
namespace Go.Eng
open Go Go.RowKit
abbrev Acc := List (Nat × Nat × Row)
section
variable {P : Program} {N : Nat} {c : Ctx} {S T : HS} {Q : eG} {l : Env} {look : Nat → Option Value} {w w' : World} {ρ : Nat → Value} {xs : Nat → List Value}
structure HeadA (P : Program) (N : Nat) (ops : List Oper) (E0 : aH) (st st0 : aB) (W : Aps) (hs : Nat → HV) (acc : Acc) (i : Nat) (o : Oper) : Prop where
  lt : iR N o.dst
  head : ∃ T : aH, FrOk ops E0 hs i T ∧ (∀ t h, hlk T t = some h → t ∈ gR (bL ops) o.guard ++ aW o.op) ∧ (∀ t h, hlk T t = some h → h.kill (inl (bad W i)) = h) ∧
    ((wat W i = none ∧ ∀ (c : Ctx) (l : Env) (w : World) (ρ : Nat → Value) (xs : Nat → List Value), Good c ⟨T, st0⟩ (lk l) w ρ xs →
      ∃ b, gd l (bL ops) o.guard (· = b) ∧ (b = true → aN P l o.op o.type w (fun u w' => RepH w' (c.A ρ st0) c.n0 ρ u (hs i) ∧ Below w.heap.size w w') (fun u w' => RepH w' (c.A ρ st0) c.n0 ρ u (hs i) ∧ Below w.heap.size w w')) ∧ (b = false → hs i = .v undef)) ∨
     ∃ id d nw ty sz els cnd S' nw' ty' sz' els', wat W i = some id ∧ o.guard = none ∧ o.dst = some d ∧ hs i = .own id ∧ rlk st id = some (.sl nw ty sz els) ∧ hop P ⟨T, [(id, .sl nw ty sz els)]⟩ (pR o.dst) o.op = .go cnd (.own id) S' ∧ cnd ∧
       rlk S'.st id = some (.sl nw' ty' sz' els') ∧ (d, id, .sl nw' ty' sz' els') ∈ acc)
theorem RowOk.ctx {A : Nat → Prop} {c c' : Ctx} {id : Nat} {r : Row} {ys : List Value} (h : RowOk w A c ρ id r ys) (e1 : c'.n0 = c.n0) (e2 : c'.B = c.B) (hn : ∀ b, (ρ id).ownBlock = some b → c'.w0.heap.size ≤ b ∨ c'.T b) : RowOk w A c' ρ id r ys := by
  refine ⟨h.own, ?_, fun b hb => ⟨hn b hb, fun e => by rw [e1]; exact (h.new b hb).2 e⟩⟩
  have := h.rep
  cases r with
  | sl => rw [e1]; exact this
  | bx => rw [e1, e2]; exact this
  | hl => rw [e1]; exact this
def lkB (l : Env) (vs : Nat → Value) (k : Nat) : Option Value := if k % 2 = 0 then lk l (k / 2) else some (vs (k / 2))
structure Jn (c : Ctx) (S : HS) (W : Aps) (acc : Acc) (hs : Nat → HV) (n : Nat) (l : Env) (L : Nat → Bool) (vs : Nat → Value) (w : World) (ρ : Nat → Value) (xs : Nat → List Value) (E : aH) (st' : aB) : Prop where
  good : Good c ⟨E, st'⟩ (lkB l vs) w ρ xs
  env : ∀ k x, hlk S.env k = some x → hlk E (2 * k) = some (x.kill (pL W L))
  hds : ∀ j, j < n → L j = true → hlk E (2 * j + 1) = some (match wat W j with | some id => .own id | none => (hs j).kill (pL W L))
  rows : ∀ k r, rlk S.st k = some r → (pL W L k = false → rlk st' k = some (r.kill (pL W L))) ∧ ∀ d row, (d, k, row) ∈ acc → pL W L k = true → rlk st' k = some row
  none : ∀ k, rlk S.st k = none → rlk st' k = none
theorem zC0 {st st' : aB} (h : ∀ k r, rlk st k = some r → ∃ r', rlk st' k = some r') (b : Nat) (hb : fE ρ st b) : fE ρ st' b := by
  obtain ⟨i, r, h1, h2⟩ := hb
  obtain ⟨r', h3⟩ := h i r h1
  exact ⟨i, r', h3, h2⟩
theorem zUf {c c' : Ctx} {st st' : aB} (h0 : ∀ b, c'.A0 b ↔ c.A ρ st' b ∧ ¬ fE ρ st b) (h1 : ∀ b, fE ρ st b → fE ρ st' b) (b : Nat) : c'.A ρ st b ↔ c.A ρ st' b := by
  constructor
  · rintro (h | h)
    · exact ((h0 b).1 h).1
    · exact .inr (h1 b h)
  · intro h
    by_cases e : fE ρ st b
    · exact .inr e
    · exact .inl ((h0 b).2 ⟨h, e⟩)
theorem Good.sub {E T : aH} {st st1 : aB} {look1 : Nat → Option Value} (G : Good c ⟨E, st⟩ look w ρ xs) (h1 : ∀ k r, rlk st1 k = some r → ∃ r', rlk st k = some r' ∧ (∀ ys, RowOk w (c.A ρ st) c ρ k r' ys → RowOk w (c.A ρ st) c ρ k r ys))
    (hT : ∀ t x, hlk T t = some x → ∃ v, look1 t = some v ∧ RepH w (c.A ρ st) c.n0 ρ v x) :
    Good ⟨w, fE ρ st1, fun b => c.A ρ st b ∧ ¬ fE ρ st1 b, c.n0, Nat.le_trans c.hn G.kept.size, c.B⟩ ⟨T, st1⟩ look1 w ρ xs ∧
      (∀ b, Ctx.A ⟨w, fE ρ st1, fun b => c.A ρ st b ∧ ¬ fE ρ st1 b, c.n0, Nat.le_trans c.hn G.kept.size, c.B⟩ ρ st1 b ↔ c.A ρ st b) := by
  have hO : ∀ b, fE ρ st1 b → fE ρ st b := zC0 fun k r hr => by obtain ⟨r', e, _⟩ := h1 k r hr; exact ⟨r', e⟩
  have hA := fun b => zUf (ρ := ρ) (c := c) (c' := ⟨w, fE ρ st1, fun b => c.A ρ st b ∧ ¬ fE ρ st1 b, c.n0, Nat.le_trans c.hn G.kept.size, c.B⟩) (st := st1) (st' := st) (fun _ => Iff.rfl) hO b
  refine ⟨⟨fun id r hr => ?_, fun i j r s b hne hi hj hbi hbj => ?_, fun k x hk => ?_, Kept.refl _ _, fun b hb => ⟨?_, hb.2⟩⟩, hA⟩
  · obtain ⟨r', e, f⟩ := h1 id r hr
    exact ((f _ (G.rows id r' e)).up (Nat.le_refl _) (fun _ _ _ => rfl) (fun b _ => (hA b).1) (fun _ _ => rfl)).ctx rfl rfl fun b hb => .inr ⟨id, r, hr, hb⟩
  · obtain ⟨r', e, _⟩ := h1 i r hi
    obtain ⟨s', e', _⟩ := h1 j s hj
    exact G.apart i j r' s' b hne e e' hbi hbj
  · obtain ⟨v, a, b⟩ := hT k x hk
    exact ⟨v, a, b.up (Nat.le_refl _) (fun _ _ _ => rfl) (fun b _ => (hA b).1) (Nat.le_refl _)⟩
  · rcases hb.1 with h0 | ⟨i, r, hi, hbi⟩
    · have := (G.a0 b h0).1; have := G.kept.size; show b < w.heap.size; omega
    · exact G.lt hi hbi
end
end Go.Eng
end
