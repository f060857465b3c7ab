/-
  What the functions of operations say holds in memory.
-/
import Derived.Test.YtppnicpbncfhnaaHo
set_option linter.unusedSimpArgs false
set_option linter.unusedVariables false
namespace Go.Eng
open Go Go.RowKit

def low (l : HEnv) (look : Nat → Option Value) : Env := l.filterMap fun p => (look p.1).map fun v => (p.1, v)
theorem lk_low1 {look : Nat → Option Value} : ∀ {l : HEnv} {k : Nat} {v : Value}, lk (low l look) k = some v → look k = some v
  | [], k, v, h => by simp [low, lk] at h
  | (j, x) :: r, k, v, h => by
    unfold low at h
    rw [List.filterMap_cons] at h
    cases hj : look j with
    | none => simp only [hj, Option.map_none] at h; exact lk_low1 (l := r) h
    | some u =>
      simp only [hj, Option.map_some, lk] at h
      by_cases e : j = k
      · subst e; rw [if_pos rfl] at h; rw [hj]; exact h
      · rw [if_neg e] at h; exact lk_low1 (l := r) h
theorem lk_low2 {look : Nat → Option Value} : ∀ {l : HEnv} {k : Nat} {x : HV} {v : Value}, hlk l k = some x → look k = some v → lk (low l look) k = some v
  | [], k, x, v, h, _ => by simp [hlk] at h
  | (j, y) :: r, k, x, v, h, hv => by
    unfold low
    rw [List.filterMap_cons]
    simp only [hlk] at h
    by_cases e : j = k
    · subst e
      simp only [hv, Option.map_some, lk, if_true]
    · rw [if_neg e] at h
      have ih := lk_low2 (l := r) h hv
      cases hj : look j with
      | none => simp only [Option.map_none]; exact ih
      | some u => simp only [Option.map_some, lk, if_neg e]; exact ih

section
variable {lw : Env} {P : Program} {c : Ctx} {S S' : HS} {look : Nat → Option Value} {w : World} {ρ : Nat → Value} {xs : Nat → List Value} {hv : HV} {cnd : Prop}
/-- the frame below holds what the frame above names -/
def Agr (env : HEnv) (look : Nat → Option Value) (lw : Env) : Prop := ∀ k h v, hlk env k = some h → look k = some v → lk lw k = some v
theorem agr_low (env : HEnv) (look : Nat → Option Value) : Agr env look (low env look) := fun _ _ _ h1 h2 => lk_low2 h1 h2
/-- the same where the world has not turned, of the rows at hand -/
abbrev KVs (c : Ctx) (S' : HS) (hv : HV) (look : Nat → Option Value) (ρ : Nat → Value) (xs : Nat → List Value) (w0 : World) (v : Value) (w' : World) : Prop := w' = w0 ∧ Good c S' look w' ρ xs ∧ RepH w' (c.A ρ S'.st) c.n0 ρ v hv
abbrev KV (c : Ctx) (S' : HS) (hv : HV) (look : Nat → Option Value) (v : Value) (w' : World) : Prop := InvV c S' hv v look w'
theorem Good.ev (G : Good c S look w ρ xs) (hl : Agr S.env look lw) {x : Operand} {h : HV} (hx : hev S.env x = some h) : ∃ v, ev lw x = some v ∧ RepH w (c.A ρ S.st) c.n0 ρ v h := by
  cases x with
  | tmp t =>
    obtain ⟨v, h1, h2⟩ := G.env t h hx
    exact ⟨v, hl _ _ _ hx h1, h2⟩
  | const v => simp only [hev, Option.some.injEq] at hx; subst hx; exact ⟨v, rfl, .v v⟩
  | global g => simp only [hev, Option.some.injEq] at hx; subst hx; exact ⟨_, rfl, .v _⟩
  | func f => simp only [hev, Option.some.injEq] at hx; subst hx; exact ⟨_, rfl, .v _⟩
theorem Good.evs (G : Good c S look w ρ xs) (hl : Agr S.env look lw) : ∀ {l : List Operand} {hs : List HV}, hevs S.env l = some hs → ∃ vs, evs lw l = some vs ∧ vs.length = hs.length ∧ ∀ i (h1 : i < vs.length) (h2 : i < hs.length), RepH w (c.A ρ S.st) c.n0 ρ vs[i] hs[i]
  | [], hs, h => by simp only [hevs, Option.some.injEq] at h; subst h; exact ⟨[], rfl, rfl, fun i h1 => absurd h1 (by simp)⟩
  | x :: r, hs, h => by
    simp only [hevs] at h
    split at h
    · rename_i v hv
      split at h
      · rename_i us hus
        simp only [Option.some.injEq] at h; subst h
        obtain ⟨u, h1, h2⟩ := G.ev hl hv
        obtain ⟨vs, h3, h4, h5⟩ := G.evs hl hus
        refine ⟨u :: vs, by simp only [Eng.evs, h1, h3], by simp [h4], fun i a b => ?_⟩
        cases i with
        | zero => exact h2
        | succ i => exact h5 i (by simpa using a) (by simpa using b)
      · cases h
    · cases h
theorem repH_v {A : Nat → Prop} {n0 : Nat} {v x : Value} (h : RepH w A n0 ρ v (.v x)) : v = x := by cases h; rfl
theorem rows_sl (G : Good c S look w ρ xs) {id : Nat} {nw : Bool} {ty sz : Nat} {els : List (List FV)} (hr : rlk S.st id = some (.sl nw ty sz els)) :
    Own w 0 ty sz (ρ id) els.length (xs id) ∧ (∀ x ∈ els, x.length = sz) ∧ ∀ i k (hi : i < els.length) (hk : k < els[i].length), ∃ u, (xs id)[i * sz + k]? = some u ∧ u.oneCell' = true ∧ RepF w (c.A ρ S.st) c.n0 u els[i][k] :=
  ⟨(G.rows id _ hr).own, (G.rows id _ hr).rep.1, (G.rows id _ hr).rep.2⟩
theorem own_some {base n sz : Nat} {v : Value} {e : TypeId} {l : List Value} (h : Own w base e sz v n l) (hn : 0 < n) : ∃ g cap, v = .slice (some ⟨g, 0, none⟩) n cap ∧ n ≤ cap ∧ cap ≤ maxLen ∧ ∀ j u, l[j]? = some u → w.cell? ⟨g, j, none⟩ = some u := by
  have hl := h.1
  have hh := h
  rcases h.2 with ⟨rfl, rfl⟩ | ⟨g, cap, cur, rfl, hb, hg, hn', hm, hs, ht⟩
  · omega
  · refine ⟨g, cap, rfl, hn', hm, fun j u hj => ?_⟩
    have hlt : j < l.length := (List.getElem?_eq_some_iff.1 hj).1
    rw [World.ownsRow.cellAt hh j (by omega), hj]
theorem getD_lt {α : Type} {l : List α} {i : Nat} {d : α} (h : i < l.length) : l.getD i d = l[i] := by simp [List.getD_eq_getElem?_getD, h]
theorem pos_lt {i k sz n : Nat} (hi : i < n) (hk : k < sz) : i * sz + k < n * sz := by
  have : (i + 1) * sz ≤ n * sz := Nat.mul_le_mul_right _ hi
  rw [Nat.add_mul, Nat.one_mul] at this
  omega

theorem sound_load (G : Good c S look w ρ xs) (hl : Agr S.env look lw) {t : TypeId} {x : Operand} {ty : TypeId} (h : hLoad S (kindT P t) (hev S.env x) = .go cnd hv S') (hc : cnd) :
    vcOp P lw (.load t x) ty w (KVs c S' hv look ρ xs w) (KVs c S' hv look ρ xs w) := by
  unfold vcOp
  simp only [pureOp, effOp]
  unfold hLoad at h
  split at h
  · rename_i id sz i k hx
    obtain ⟨v, e1, e2⟩ := G.ev hl hx
    cases e2 with
    | ptr _ _ _ hρ =>
    rename_i g n cp
    rw [e1]
    dsimp only
    unfold hLoadR at h
    split at h
    · rename_i nw ty' s els hk hr
      simp only [HOut.go.injEq] at h
      obtain ⟨rfl, rfl, rfl⟩ := h
      obtain ⟨rfl, hi, hkl⟩ := hc
      rw [hk]
      dsimp only
      obtain ⟨o1, o2, o3⟩ := rows_sl G hr
      obtain ⟨g', cap, hg, -, -, hcell⟩ := own_some o1 (by omega)
      rw [hρ] at hg
      simp only [Value.slice.injEq, Option.some.injEq, Addr.mk.injEq] at hg
      obtain ⟨⟨rfl, -⟩, -, -⟩ := hg
      rw [getD_lt hi] at hkl ⊢
      rw [getD_lt hkl]
      obtain ⟨u, u1, u2, u3⟩ := o3 i k hi hkl
      rw [hcell _ _ u1]
      exact ⟨rfl, G, u3.h⟩
    · rename_i m nw ty' s els hk hr
      simp only [HOut.go.injEq] at h
      obtain ⟨rfl, rfl, rfl⟩ := h
      obtain ⟨rfl, hi, hkl⟩ := hc
      rw [hk]
      dsimp only
      obtain ⟨o1, o2, o3⟩ := rows_sl G hr
      obtain ⟨g', cap, hg, -, -, hcell⟩ := own_some o1 (by omega)
      rw [hρ] at hg
      simp only [Value.slice.injEq, Option.some.injEq, Addr.mk.injEq] at hg
      obtain ⟨⟨rfl, -⟩, -, -⟩ := hg
      rw [getD_lt hi] at hkl ⊢
      have hsz := o2 _ (List.getElem_mem hi)
      have hx' : ∀ j, j < m → ∃ u, (xs id)[i * sz + (k + j)]? = some u ∧ u.oneCell' = true ∧ ∃ hk' : k + j < els[i].length, RepF w (c.A ρ S.st) c.n0 u els[i][k + j] := fun j hj => by
        obtain ⟨u, u1, u2, u3⟩ := o3 i (k + j) hi (by omega)
        exact ⟨u, u1, u2, by omega, u3⟩
      have hlen := o1.1
      have hfit : i * sz + (k + m) ≤ (xs id).length := by
        rw [hlen]
        have : (i + 1) * sz ≤ els.length * sz := Nat.mul_le_mul_right _ hi
        rw [Nat.add_mul, Nat.one_mul] at this
        omega
      refine ⟨(((xs id).drop (i * sz + k)).take m).toArray, ⟨by simp; omega, fun j v hj => ?_⟩, rfl, G, ?_⟩
      · simp only [List.getElem?_toArray] at hj
        have hjm : j < m := by
          rcases Nat.lt_or_ge j m with h | h
          · exact h
          · rw [List.getElem?_take_eq_none h] at hj; cases hj
        rw [List.getElem?_take_of_lt hjm, List.getElem?_drop] at hj
        rw [Addr.add_lit]
        exact hcell _ _ hj
      · refine .agg (by simp; omega) (fun j hj => ?_) (fun j h1 h2 => ?_)
        · simp at hj
          obtain ⟨u, u1, u2, -⟩ := hx' j (by omega)
          have : (xs id)[i * sz + (k + j)]? = some ((xs id)[i * sz + (k + j)]'(by omega)) := List.getElem?_eq_getElem _
          rw [u1] at this
          simp only [List.getElem_toArray, List.getElem_take, List.getElem_drop]
          simp only [Nat.add_assoc]
          rw [← Option.some.inj this]; exact u2
        · simp at h1
          obtain ⟨u, u1, -, hk', u3⟩ := hx' j (by omega)
          have : (xs id)[i * sz + (k + j)]? = some ((xs id)[i * sz + (k + j)]'(by omega)) := List.getElem?_eq_getElem _
          rw [u1] at this
          simp only [List.getElem_toArray, List.getElem_take, List.getElem_drop, List.getElem_map]
          simp only [Nat.add_assoc]
          rw [← Option.some.inj this]; exact u3.h
    · rename_i nw ty' cells hk hr
      simp only [HOut.go.injEq] at h
      obtain ⟨rfl, rfl, rfl⟩ := h
      obtain ⟨rfl, hkl⟩ := hc
      rw [hk]
      dsimp only
      have R := G.rows id _ hr
      obtain ⟨⟨g', hg, -⟩, hcs⟩ := R.rep
      obtain ⟨g2, cap, hg2, -, -, hcell⟩ := own_some R.own (by simp [Row.len])
      rw [hg] at hρ hg2
      simp only [Value.slice.injEq, Option.some.injEq, Addr.mk.injEq] at hρ hg2
      obtain ⟨⟨rfl, -⟩, -, -⟩ := hρ
      obtain ⟨⟨rfl, -⟩, -, -⟩ := hg2
      obtain ⟨u, u1, u2, u3⟩ := hcs k hkl
      rw [getD_lt hkl, Nat.zero_mul, Nat.zero_add]
      rw [hcell _ _ u1]
      exact ⟨rfl, G, u3⟩
    · rename_i m nw ty' cells hk hr
      simp only [HOut.go.injEq] at h
      obtain ⟨rfl, rfl, rfl⟩ := h
      obtain ⟨rfl, hkl⟩ := hc
      rw [hk]
      dsimp only
      have R := G.rows id _ hr
      obtain ⟨⟨g', hg, -⟩, hcs⟩ := R.rep
      obtain ⟨g2, cap, hg2, -, -, hcell⟩ := own_some R.own (by simp [Row.len])
      rw [hg] at hρ hg2
      simp only [Value.slice.injEq, Option.some.injEq, Addr.mk.injEq] at hρ hg2
      obtain ⟨⟨rfl, -⟩, -, -⟩ := hρ
      obtain ⟨⟨rfl, -⟩, -, -⟩ := hg2
      have hlen := R.own.1
      simp only [Row.len, Row.sz, Nat.one_mul] at hlen
      rw [Nat.zero_mul, Nat.zero_add]
      refine ⟨(((xs id).drop k).take m).toArray, ⟨by simp; omega, fun j v hj => ?_⟩, rfl, G, ?_⟩
      · simp only [List.getElem?_toArray] at hj
        have hjm : j < m := by
          rcases Nat.lt_or_ge j m with h | h
          · exact h
          · rw [List.getElem?_take_eq_none h] at hj; cases hj
        rw [List.getElem?_take_of_lt hjm, List.getElem?_drop] at hj
        rw [Addr.add_lit]
        exact hcell _ _ hj
      · refine .agg (by simp; omega) (fun j hj => ?_) (fun j h1 h2 => ?_)
        · simp at hj
          obtain ⟨u, u1, u2, -⟩ := hcs (k + j) (by omega)
          have : (xs id)[k + j]? = some ((xs id)[k + j]'(by omega)) := List.getElem?_eq_getElem _
          rw [u1] at this
          simp only [List.getElem_toArray, List.getElem_take, List.getElem_drop]
          rw [← Option.some.inj this]; exact u2
        · simp at h1
          obtain ⟨u, u1, -, u3⟩ := hcs (k + j) (by omega)
          have : (xs id)[k + j]? = some ((xs id)[k + j]'(by omega)) := List.getElem?_eq_getElem _
          rw [u1] at this
          simp only [List.getElem_toArray, List.getElem_take, List.getElem_drop]
          rw [← Option.some.inj this]; exact u3
    · cases h
  · rename_i fr l sz i k hx
    obtain ⟨v, e1, e2⟩ := G.ev hl hx
    cases e2 with
    | elt hF hsz hi =>
    rename_i b off n cap
    rw [e1]
    dsimp only
    have hF' := hF
    cases hF' with
    | lst s vals hn hcap hm hnil hs ha h1 hr =>
    obtain ⟨b', off', ea, -, -, -, hcell⟩ := ha (by omega)
    simp only [Option.some.injEq, Addr.mk.injEq] at ea
    obtain ⟨rfl, rfl, -⟩ := ea
    have hss : s = sz := by rw [← hs _ (List.getElem_mem hi), hsz _ (List.getElem_mem hi)]
    subst hss
    unfold hLoadE at h
    split at h
    · rename_i hk
      simp only [HOut.go.injEq] at h
      obtain ⟨rfl, rfl, rfl⟩ := h
      obtain ⟨hi', hkl⟩ := hc
      rw [hk]
      dsimp only
      rw [getD_lt hi] at hkl ⊢
      rw [getD_lt hkl]
      have hks : k < s := by rw [← hs _ (List.getElem_mem hi)]; exact hkl
      rw [hcell i k (by omega) hks]
      exact ⟨rfl, G, (hr i k hi hkl).h⟩
    · rename_i m hk
      simp only [HOut.go.injEq] at h
      obtain ⟨rfl, rfl, rfl⟩ := h
      obtain ⟨hi', hkl⟩ := hc
      rw [hk]
      dsimp only
      rw [getD_lt hi] at hkl ⊢
      have hks : k + m ≤ s := by rw [← hs _ (List.getElem_mem hi)]; exact hkl
      refine ⟨((List.range m).map fun j => vals i (k + j)).toArray, ⟨by simp, fun j v hj => ?_⟩, rfl, G, ?_⟩
      · simp only [List.getElem?_toArray, List.getElem?_map] at hj
        have hjm : j < m := by
          rcases Nat.lt_or_ge j m with h | h
          · exact h
          · rw [List.getElem?_eq_none (by simpa using h)] at hj; cases hj
        rw [List.getElem?_range hjm] at hj
        simp only [Option.map_some, Option.some.injEq] at hj
        subst hj
        rw [Addr.add_lit, Nat.add_assoc, Nat.add_assoc]
        exact hcell i (k + j) (by omega) (by omega)
      · refine .agg (by simp; omega) (fun j hj => ?_) (fun j h1' h2 => ?_)
        · simp at hj
          simp only [List.getElem_toArray, List.getElem_map, List.getElem_range]
          exact h1 i (k + j) (by omega) (by omega)
        · simp at h1'
          simp only [List.getElem_toArray, List.getElem_map, List.getElem_range, List.getElem_take, List.getElem_drop]
          exact (hr i (k + j) hi (by omega)).h
    · cases h
  · cases h
end
end Go.Eng
