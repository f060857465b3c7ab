/-
  What the functions of operations say holds in memory: addresses, slices, lengths, parts.
-/
import Derived.Test.YtppnicpbncfhnaaHs
set_option linter.unusedSimpArgs false
set_option linter.unusedVariables false
namespace Go.Eng
open Go Go.RowKit
section
variable {KL : Value → World → Prop} {lw : Env} {P : Program} {c : Ctx} {S S' : HS} {look : Nat → Option Value} {w : World} {ρ : Nat → Value} {xs : Nat → List Value} {hv : HV} {cnd : Prop}
theorem sound_move (G : Good c S look w ρ xs) (hl : Agr S.env look lw) {x : Operand} {o : Op} (ho : o = .move x ∨ o = .assign x) {ty : TypeId} (h : hMove S (hev S.env x) = .go cnd hv S') (hc : cnd) :
    vcOp P lw o ty w (KVs c S' hv look ρ xs w) KL := by
  unfold hMove at h
  split at h
  · rename_i y hx
    simp only [HOut.go.injEq] at h
    obtain ⟨rfl, rfl, rfl⟩ := h
    obtain ⟨v, e1, e2⟩ := G.ev hl hx
    unfold vcOp
    rcases ho with rfl | rfl <;> simp only [pureOp, e1] <;> exact ⟨trivial, rfl, G, e2⟩
  · cases h
theorem sound_pick (G : Good c S look w ρ xs) (hl : Agr S.env look lw) {x a b : Operand} {ty : TypeId} (h : hPick S (hev S.env x) (hev S.env a) (hev S.env b) = .go cnd hv S') (hc : cnd) :
    vcOp P lw (.pick x a b) ty w (KVs c S' hv look ρ xs w) KL := by
  unfold hPick at h
  split at h
  · rename_i t y z hx ha hb
    simp only [HOut.go.injEq] at h
    obtain ⟨rfl, rfl, rfl⟩ := h
    obtain ⟨v, e1, e2⟩ := G.ev hl hx
    obtain ⟨u1, f1, f2⟩ := G.ev hl ha
    obtain ⟨u2, g1, g2⟩ := G.ev hl hb
    have := repH_v e2
    subst this
    unfold vcOp
    simp only [pureOp, e1, f1, g1]
    refine ⟨trivial, rfl, G, ?_⟩
    cases t <;> assumption
  · cases h
theorem sound_extract (G : Good c S look w ρ xs) (hl : Agr S.env look lw) {x : Operand} {i : Nat} {ty : TypeId} (h : hExtract S i (hev S.env x) = .go cnd hv S') (hc : cnd) :
    vcOp P lw (.extract x i) ty w (KVs c S' hv look ρ xs w) KL := by
  unfold hExtract at h
  split at h
  · rename_i hs hx
    split at h
    · rename_i y hy
      simp only [HOut.go.injEq] at h
      obtain ⟨rfl, rfl, rfl⟩ := h
      obtain ⟨v, e1, e2⟩ := G.ev hl hx
      cases e2 with
      | tup hn hr =>
      rename_i cs
      obtain ⟨hi, rfl⟩ := List.getElem?_eq_some_iff.1 hy
      unfold vcOp
      simp only [pureOp, e1, Array.getElem?_eq_getElem (show i < cs.size by omega)]
      exact ⟨trivial, rfl, G, hr i (by omega) hi⟩
    · cases h
  · cases h
theorem sound_field (G : Good c S look w ρ xs) (hl : Agr S.env look lw) {t f : Nat} {x : Operand} {ty : TypeId} (h : hField S (fPart P t f) (hev S.env x) = .go cnd hv S') (hc : cnd) :
    vcOp P lw (.field t x f) ty w (KVs c S' hv look ρ xs w) KL := by
  unfold hField at h
  split at h
  · rename_i hs hx
    obtain ⟨v, e1, e2⟩ := G.ev hl hx
    cases e2 with
    | agg hn h1 hr =>
    rename_i cs
    split at h
    · rename_i off hp
      split at h
      · rename_i y hy
        simp only [HOut.go.injEq] at h
        obtain ⟨rfl, rfl, rfl⟩ := h
        obtain ⟨hi, rfl⟩ := List.getElem?_eq_some_iff.1 hy
        unfold vcOp
        simp only [pureOp, e1, pureField, hp, Array.getElem?_eq_getElem (show off < cs.size by omega)]
        exact ⟨trivial, rfl, G, hr off (by omega) hi⟩
      · cases h
    · rename_i off n hp
      simp only [HOut.go.injEq] at h
      obtain ⟨rfl, rfl, rfl⟩ := h
      have hc' : off + n ≤ hs.length := hc
      unfold vcOp
      simp only [pureOp, e1, pureField, hp]
      refine ⟨trivial, rfl, G, .agg (by simp; omega) (fun j hj => ?_) (fun j a b => ?_)⟩
      · rw [Array.getElem_extract]; exact h1 _ _
      · rw [Array.getElem_extract, List.getElem_take, List.getElem_drop]; exact hr _ _ _
    · cases h
  · cases h
theorem sound_faddr (G : Good c S look w ρ xs) (hl : Agr S.env look lw) {t f : Nat} {x : Operand} {ty : TypeId} (h : hFAddr S (fOff P t f) (hev S.env x) = .go cnd hv S') (hc : cnd) :
    vcOp P lw (.fieldAddr t x f) ty w (KVs c S' hv look ρ xs w) KL := by
  unfold hFAddr at h
  split at h
  · rename_i id sz i k hx
    split at h
    · rename_i off hp
      simp only [HOut.go.injEq] at h
      obtain ⟨rfl, rfl, rfl⟩ := h
      obtain ⟨v, e1, e2⟩ := G.ev hl hx
      cases e2 with
      | ptr _ _ _ hρ =>
      unfold vcOp
      simp only [pureOp, e1, hp, Addr.add_lit]
      refine ⟨trivial, rfl, G, ?_⟩
      rw [Nat.add_assoc]
      exact .ptr _ _ _ hρ
    · cases h
  · rename_i fr l sz i k hx
    split at h
    · rename_i off hp
      simp only [HOut.go.injEq] at h
      obtain ⟨rfl, rfl, rfl⟩ := h
      obtain ⟨v, e1, e2⟩ := G.ev hl hx
      cases e2 with
      | elt hF hsz hi =>
      unfold vcOp
      simp only [pureOp, e1, hp, Addr.add_lit]
      refine ⟨trivial, rfl, G, ?_⟩
      rw [Nat.add_assoc, Nat.add_assoc]
      exact .elt hF hsz hi
    · cases h
  · cases h
theorem sound_nil (G : Good c S look w ρ xs) (hl : Agr S.env look lw) {x : Operand} {ty : TypeId} (h : hNil S (hev S.env x) = .go cnd hv S') (hc : cnd) :
    vcOp P lw (.nilCheck x) ty w (KVs c S' hv look ρ xs w) KL := by
  unfold hNil at h
  split at h
  · rename_i id sz i k hx
    simp only [HOut.go.injEq] at h
    obtain ⟨rfl, rfl, rfl⟩ := h
    obtain ⟨v, e1, e2⟩ := G.ev hl hx
    cases e2 with
    | ptr _ _ _ hρ =>
    unfold vcOp
    simp only [pureOp, e1]
    exact ⟨trivial, rfl, G, .ptr _ _ _ hρ⟩
  · rename_i fr l sz i k hx
    simp only [HOut.go.injEq] at h
    obtain ⟨rfl, rfl, rfl⟩ := h
    obtain ⟨v, e1, e2⟩ := G.ev hl hx
    cases e2 with
    | elt hF hsz hi =>
    unfold vcOp
    simp only [pureOp, e1]
    exact ⟨trivial, rfl, G, .elt hF hsz hi⟩
  · cases h
theorem own_shape' {base n sz : Nat} {v : Value} {e : TypeId} {l : List Value} (h : Own w base e sz v n l) : ∃ a cap, v = .slice a n cap := by
  rcases h.2 with ⟨rfl, rfl⟩ | ⟨g, cap, cur, rfl, _⟩
  · exact ⟨_, _, rfl⟩
  · exact ⟨_, _, rfl⟩
theorem sound_iaddr (G : Good c S look w ρ xs) (hl : Agr S.env look lw) {t : TypeId} {x i : Operand} {ty : TypeId} (h : hIAddr S (uSlice P t) (uArr P t) (hev S.env x) (hev S.env i) = .go cnd hv S') (hc : cnd) :
    vcOp P lw (.indexAddr t x i) ty w (KVs c S' hv look ρ xs w) KL := by
  unfold hIAddr at h
  split at h
  · rename_i id s off m k n hx hi
    obtain ⟨v, e1, e2⟩ := G.ev hl hx
    obtain ⟨u, f1, f2⟩ := G.ev hl hi
    have := repH_v f2
    subst this
    unfold hIAddrV at h
    split at h
    · rename_i e sz nw ty' s' els hu hr
      simp only [HOut.go.injEq] at h
      obtain ⟨rfl, rfl, rfl⟩ := h
      obtain ⟨rfl, rfl, h0, hn⟩ := hc
      cases e2 with
      | vw _ _ _ h hm hc hn' hx ha =>
      rename_i len c0 c' a a'
      obtain ⟨o1, o2, o3⟩ := rows_sl G hr
      obtain ⟨g, cap, hg, hcap, -, -⟩ := own_some o1 (by
        obtain ⟨q, cp, e⟩ := own_shape' o1
        rw [h] at e; cases e; omega)
      rw [h] at hg
      cases hg
      obtain ⟨g', hg', rfl⟩ := ha (by omega)
      cases hg'
      unfold vcOp
      simp only [pureOp, e1, f1, pureIndexAddr, hu]
      refine ⟨⟨h0, hn⟩, rfl, G, ?_⟩
      rw [Addr.add_lit, ← Nat.add_mul]
      exact .ptr _ _ 0 h
    · cases h
  · rename_i id k n hx hi
    obtain ⟨v, e1, e2⟩ := G.ev hl hx
    obtain ⟨u, f1, f2⟩ := G.ev hl hi
    have := repH_v f2
    subst this
    cases e2
    unfold hIAddrR at h
    split at h
    · rename_i e sz nw ty' s els hu hr
      simp only [HOut.go.injEq] at h
      obtain ⟨rfl, rfl, rfl⟩ := h
      obtain ⟨rfl, h0, hn⟩ := hc
      obtain ⟨o1, o2, o3⟩ := rows_sl G hr
      obtain ⟨g, cap, hg, -, -, -⟩ := own_some o1 (by omega)
      unfold vcOp
      simp only [pureOp, e1, f1, hg, pureIndexAddr, hu]
      refine ⟨⟨h0, hn⟩, rfl, G, ?_⟩
      rw [Addr.add_lit, Nat.zero_add]
      exact .ptr sz n.toNat 0 hg
    · cases h
  · rename_i fr l k n hx hi
    obtain ⟨v, e1, e2⟩ := G.ev hl hx
    obtain ⟨u, f1, f2⟩ := G.ev hl hi
    have := repH_v f2
    subst this
    cases e2 with
    | lst hF =>
    unfold hIAddrL at h
    split at h
    · rename_i e sz hu
      simp only [HOut.go.injEq] at h
      obtain ⟨rfl, rfl, rfl⟩ := h
      obtain ⟨⟨h0, hn⟩, hw⟩ := hc
      have hF' := hF
      cases hF' with
      | lst s vals hnn hcap hm hnil hs ha h1 hr =>
      obtain ⟨b, off, rfl, -⟩ := ha (by omega)
      unfold vcOp
      simp only [pureOp, e1, f1, pureIndexAddr, hu]
      refine ⟨⟨h0, by omega⟩, rfl, G, ?_⟩
      rw [Addr.add_lit]
      exact .elt (k := 0) hF hw (by omega)
    · cases h
  · rename_i id sz i' k' k n hx hi
    obtain ⟨v, e1, e2⟩ := G.ev hl hx
    obtain ⟨u, f1, f2⟩ := G.ev hl hi
    have := repH_v f2
    subst this
    cases e2 with
    | ptr _ _ _ hρ =>
    unfold hIAddrP at h
    split at h
    · rename_i len size hu
      simp only [HOut.go.injEq] at h
      obtain ⟨rfl, rfl, rfl⟩ := h
      obtain ⟨h0, hn⟩ := hc
      unfold vcOp
      simp only [pureOp, e1, f1, pureIndexAddr, hu]
      refine ⟨⟨h0, hn⟩, rfl, G, ?_⟩
      rw [Addr.add_lit, Nat.add_assoc]
      exact .ptr _ _ _ hρ
    · cases h
  · rename_i fr l sz i' k' k n hx hi
    obtain ⟨v, e1, e2⟩ := G.ev hl hx
    obtain ⟨u, f1, f2⟩ := G.ev hl hi
    have := repH_v f2
    subst this
    cases e2 with
    | elt hF hsz hii =>
    unfold hIAddrE at h
    split at h
    · rename_i len size hu
      simp only [HOut.go.injEq] at h
      obtain ⟨rfl, rfl, rfl⟩ := h
      obtain ⟨h0, hn⟩ := hc
      unfold vcOp
      simp only [pureOp, e1, f1, pureIndexAddr, hu]
      refine ⟨⟨h0, hn⟩, rfl, G, ?_⟩
      rw [Addr.add_lit, Nat.add_assoc, Nat.add_assoc]
      exact .elt hF hsz hii
    · cases h
  · cases h
theorem own_shape {base n sz : Nat} {v : Value} {e : TypeId} {l : List Value} (h : Own w base e sz v n l) : ∃ a cap, v = .slice a n cap := by
  rcases h.2 with ⟨rfl, rfl⟩ | ⟨g, cap, cur, rfl, _⟩
  · exact ⟨_, _, rfl⟩
  · exact ⟨_, _, rfl⟩
theorem sound_len (G : Good c S look w ρ xs) (hl : Agr S.env look lw) {args : Array Operand} {ats : Array TypeId} {y : HV} (hy : hevs S.env args.toList = some [y]) {ty : TypeId} (h : hLen S (Cond ((uSlice P (ats0 ats)).isSome = true ∧ ats.size = 1)) (some y) = .go cnd hv S') (hc : cnd) :
    vcOp P lw (.call ⟨.builtin .len, args, ats⟩) ty w (KVs c S' hv look ρ xs w) KL := by
  obtain ⟨vs, e1, e2, e3⟩ := G.evs hl hy
  obtain ⟨v, rfl⟩ : ∃ v, vs = [v] := by
    match vs, e2 with
    | [v], _ => exact ⟨v, rfl⟩
  have e4 := e3 0 (by simp) (by simp)
  simp only [List.getElem_cons_zero] at e4
  unfold hLen at h
  split at h
  · rename_i hx
    simp only [Option.some.injEq] at hx
    subst hx
    cases e4 with
    | vw _ _ _ a b d x e f =>
    simp only [HOut.go.injEq] at h
    obtain ⟨rfl, rfl, rfl⟩ := h
    unfold vcOp
    simp only [pureOp, e1, pureBuiltin]
    exact ⟨hc, rfl, G, .v _⟩
  · rename_i id hx
    simp only [Option.some.injEq] at hx
    subst hx
    cases e4
    unfold hLenR at h
    split at h
    · rename_i nw ty' s els hr
      simp only [HOut.go.injEq] at h
      obtain ⟨rfl, rfl, rfl⟩ := h
      obtain ⟨o1, o2, o3⟩ := rows_sl G hr
      obtain ⟨a, cap, hg⟩ := own_shape o1
      unfold vcOp
      simp only [pureOp, e1, hg, pureBuiltin]
      exact ⟨hc, rfl, G, .v _⟩
    · cases h
  · rename_i fr l hx
    simp only [Option.some.injEq] at hx
    subst hx
    cases e4 with
    | lst hF =>
    simp only [HOut.go.injEq] at h
    obtain ⟨rfl, rfl, rfl⟩ := h
    have hF' := hF
    cases hF' with
    | lst s vals hnn hcap hm hnil hs ha h1 hr =>
    unfold vcOp
    simp only [pureOp, e1, pureBuiltin]
    subst hnn
    exact ⟨hc, rfl, G, .v _⟩
  · cases h
theorem low_leaf (G : Good c S look w ρ xs) (hl : Agr S.env look lw) {x : Operand} {v : Value} (h : ev (lo S.env) x = some v) : ev lw x = some v := by
  cases x with
  | tmp t =>
    simp only [ev] at h ⊢
    rw [lk_lo] at h
    cases hk : hlk S.env t with
    | none => rw [hk] at h; cases h
    | some y =>
      rw [hk] at h
      cases y <;> simp only [leaf, reduceCtorEq, Option.some.injEq] at h
      subst h
      obtain ⟨u, h1, h2⟩ := G.env t _ hk
      have := repH_v h2
      subst this
      exact hl _ _ _ hk h1
  | const _ => exact h
  | global _ => exact h
  | func _ => exact h
theorem oInt_low (G : Good c S look w ρ xs) (hl : Agr S.env look lw) {o : Option Operand} {d n : Int} (h : oInt (lo S.env) o d = some n) : oInt lw o d = some n := by
  unfold oInt at *
  cases o with
  | none => exact h
  | some x =>
    dsimp only at *
    split at h
    · rename_i k m hx
      rw [low_leaf G hl hx]
      exact h
    · cases h
theorem repF_slice {A : Nat → Prop} {n0 : Nat} {a : Option Addr} {n cap p q sz : Nat} {fr : Bool} {l : List (List FV)} (h : RepF w A n0 (.slice a n cap) (.lst fr l)) (h1 : p ≤ q) (h2 : q ≤ l.length) (hw : Wid sz l) :
    RepF w A n0 (.slice (subAddr a cap p sz) (q - p) (cap - p)) (.lst fr ((l.take q).drop p)) := by
  cases h with
  | lst s vals hn hcap hm hnil hs ha hone hr =>
  have hss : l ≠ [] → s = sz := fun hne => by
    obtain ⟨x, hx⟩ := List.exists_mem_of_ne_nil l hne
    rw [← hs x hx, hw x hx]
  refine .lst s (fun i k => vals (p + i) k) (by simp; omega) (by omega) (by omega) (fun he => ?_) (fun x hx => hs x (List.mem_of_mem_take (List.mem_of_mem_drop hx))) (fun hlt => ?_) (fun i k hi hk => hone _ _ (by omega) hk) (fun i k hi hk => ?_)
  · unfold subAddr at he
    split at he
    · have := hnil he; omega
    · cases a with
      | none => have := hnil rfl; omega
      | some a => cases he
  · obtain ⟨b, off, rfl, hA, hb, hf, hc⟩ := ha (by omega)
    have hs' : s = sz := hss (fun e => by subst e; simp at h2; omega)
    subst hs'
    refine ⟨b, off + p * s, ?_, hA, hb, hf, fun i k hi hk => ?_⟩
    · unfold subAddr
      rw [if_neg (by omega)]
      simp [Addr.add_lit]
    · have := hc (p + i) k (by omega) hk
      rw [← this]
      congr 2
      rw [Nat.add_mul]; omega
  · simp only [List.getElem_drop, List.getElem_take] at hk ⊢
    exact hr (p + i) k _ hk
theorem sound_slice (G : Good c S look w ρ xs) (hl : Agr S.env look lw) {t : TypeId} {x : Operand} {l' h' : Option Operand} {ty : TypeId} (h : hSlice S (uSlice P t) l' h' (hev S.env x) = .go cnd hv S') (hc : cnd) :
    vcOp P lw (.slice t x l' h' none) ty w (KVs c S' hv look ρ xs w) KL := by
  unfold hSlice at h
  split at h
  · rename_i id hx
    obtain ⟨v, e1, e2⟩ := G.ev hl hx
    cases e2
    unfold hSliceR at h
    split at h
    · rename_i a b e sz nw ty' s els ha hb hu hr
      simp only [HOut.go.injEq] at h
      obtain ⟨rfl, rfl, rfl⟩ := h
      obtain ⟨rfl, h0, h1, h2⟩ := hc
      obtain ⟨o1, o2, o3⟩ := rows_sl G hr
      obtain ⟨q, cap, hg⟩ := own_shape' o1
      rw [hr] at hb
      simp only [rlen] at hb
      have hcase : (q = none ∧ cap = 0 ∧ els.length = 0) ∨ (∃ g, q = some ⟨g, 0, none⟩ ∧ els.length ≤ cap ∧ cap ≤ maxLen) := by
        rcases o1.2 with ⟨h3, h4⟩ | ⟨g, cap', cur, h3, -, -, h4, h5, -⟩
        · rw [hg] at h3; simp only [Value.slice.injEq] at h3; exact .inl ⟨h3.1, h3.2.2, h4⟩
        · rw [hg] at h3; cases h3; exact .inr ⟨g, rfl, h4, h5⟩
      have hle : els.length ≤ cap := by rcases hcase with ⟨_, _, h⟩ | ⟨_, _, h, _⟩ <;> omega
      unfold vcOp
      simp only [pureOp, e1, hg, pureSlice, oInt_low G hl ha, oInt_low G hl hb, hu]
      refine ⟨⟨h0, h1, by omega⟩, rfl, G, .vw _ _ _ hg (by omega) rfl (fun hn => ?_) ?_ (fun hlt => ?_)⟩
      · rcases hcase with ⟨rfl, rfl, _⟩ | ⟨g, rfl, _, _⟩
        · omega
        · unfold subAddr at hn; split at hn <;> cases hn
      · rcases hcase with ⟨_, rfl, _⟩ | ⟨_, _, _, h⟩ <;> omega
      · rcases hcase with ⟨_, rfl, _⟩ | ⟨g, rfl, _, _⟩
        · omega
        · refine ⟨g, rfl, ?_⟩
          unfold subAddr
          rw [if_neg (by omega)]
          simp [Addr.add_lit]
    · cases h
  · rename_i id sz off n hx
    obtain ⟨v, e1, e2⟩ := G.ev hl hx
    unfold hSliceV at h
    split at h
    · rename_i a b e sz' nw ty' s els ha hb hu hr
      simp only [HOut.go.injEq] at h
      obtain ⟨rfl, rfl, rfl⟩ := h
      obtain ⟨rfl, rfl, h0, h1, h2⟩ := hc
      cases e2 with
      | vw _ _ _ hg hm hc' hn' hx' ha' =>
      rename_i len c0 c' q q'
      obtain ⟨o1, o2, o3⟩ := rows_sl G hr
      obtain ⟨q2, cap2, hg2⟩ := own_shape' o1
      rw [hg] at hg2
      cases hg2
      have hcap : els.length ≤ c0 := by
        rcases o1.2 with ⟨h3, h4⟩ | ⟨g, cap', cur, h3, -, -, h4, h5, -⟩
        · omega
        · rw [hg] at h3; cases h3; exact h4
      unfold vcOp
      simp only [pureOp, e1, pureSlice, oInt_low G hl ha, oInt_low G hl hb, hu]
      refine ⟨⟨h0, h1, by omega⟩, rfl, G, .vw _ _ _ hg (by omega) (by omega) (fun hn => ?_) (by omega) (fun hlt => ?_)⟩
      · unfold subAddr at hn
        split at hn
        · omega
        · cases q' with
          | none => have := hn' rfl; omega
          | some y => cases hn
      · obtain ⟨g, rfl, rfl⟩ := ha' (by omega)
        refine ⟨g, rfl, ?_⟩
        unfold subAddr
        rw [if_neg (by omega)]
        simp [Addr.add_lit, Nat.add_mul]
    · cases h
  · rename_i fr l hx
    obtain ⟨v, e1, e2⟩ := G.ev hl hx
    cases e2 with
    | lst hF =>
    unfold hSliceL at h
    split at h
    · rename_i a b e sz ha hb hu
      simp only [HOut.go.injEq] at h
      obtain ⟨rfl, rfl, rfl⟩ := h
      obtain ⟨⟨h0, h1, h2⟩, hw⟩ := hc
      have hF' := hF
      cases hF' with
      | lst s vals hnn hcap hm hnil hs hA hone hr =>
      unfold vcOp
      subst hnn
      simp only [pureOp, e1, pureSlice, oInt_low G hl ha, oInt_low G hl hb, hu]
      exact ⟨⟨h0, h1, by omega⟩, rfl, G, .lst (repF_slice hF (by omega) (by omega) hw)⟩
    · cases h
  · cases h
theorem bytesH_get : ∀ {xs : List (List FV)} {ns : List Int}, bytesH xs = some ns → ns.length = xs.length ∧ ∀ i (h : i < xs.length), xs[i] = [.v (.int .u8 (ns.getD i 0))]
  | [], ns, h => by simp only [bytesH, Option.some.injEq] at h; subst h; exact ⟨rfl, fun i h => absurd h (by simp)⟩
  | x :: r, ns, h => by
    unfold bytesH at h
    split at h
    · rename_i e; cases e
    · rename_i n r' e
      simp only [List.cons.injEq] at e
      obtain ⟨rfl, rfl⟩ := e
      split at h
      · rename_i ms hms
        simp only [Option.some.injEq] at h
        subst h
        obtain ⟨h1, h2⟩ := bytesH_get hms
        refine ⟨by simp [h1], fun i hi => ?_⟩
        cases i with
        | zero => rfl
        | succ i => simpa using h2 i (by simpa using hi)
      · cases h
    · cases h
theorem conv_run {a : Option Addr} {n cap : Nat} {ns : List Int} {s d : TypeId} (hok : convOk P s d = true) (hn : ns.length = n) (h : 0 < n → ∃ b off, a = some ⟨b, off, none⟩ ∧ ∀ i, i < n → w.cell? ⟨b, off + i, none⟩ = some (.int .u8 (ns.getD i 0))) :
    (convert s d (.slice a n cap)).run P w = .ok (.string (strOfNums ns)) w := by
  unfold convOk at hok
  split at hok
  · rename_i e hs
    split at hok
    · rename_i he
      have hd := uStr_some hok
      by_cases h0 : 0 < n
      · obtain ⟨b, off, rfl, hc⟩ := h h0
        exact run_convert_bytes_arg w s e hs he b off n cap ns hn hc d hd
      · obtain rfl : n = 0 := by omega
        obtain rfl : ns = [] := List.eq_nil_of_length_eq_zero hn
        rw [run_convert_bytes_string w s d e a 0 cap hs he hd]
        cases a <;> simp [Conv.bytesToString, loadCells]
        all_goals rfl
    · cases hok
  · cases hok
theorem conv_at (G : Good c S look w ρ xs) (hl : Agr S.env look lw) {ok : Bool} {x : Operand} (h : hConv S ok (hev S.env x) = .go cnd hv S') :
    ∃ a n cap ns, ev lw x = some (.slice a n cap) ∧ ns.length = n ∧ hv = .v (.string (strOfNums ns)) ∧ S' = S ∧ (cnd → ok = true) ∧ (0 < n → ∃ b off, a = some ⟨b, off, none⟩ ∧ ∀ i, i < n → w.cell? ⟨b, off + i, none⟩ = some (.int .u8 (ns.getD i 0))) := by
  unfold hConv at h
  split at h
  · rename_i id hx
    obtain ⟨v, e1, e2⟩ := G.ev hl hx
    cases e2
    unfold hConvR at h
    split at h
    · rename_i nw ty' sz els hr
      unfold hConvL at h
      split at h
      · rename_i ns hns
        simp only [HOut.go.injEq] at h
        obtain ⟨rfl, rfl, rfl⟩ := h
        obtain ⟨o1, o2, o3⟩ := rows_sl G hr
        obtain ⟨q, cap, hg⟩ := own_shape' o1
        obtain ⟨n1, n2⟩ := bytesH_get hns
        refine ⟨q, _, cap, ns, by rw [e1, hg], n1, rfl, rfl, fun h => h, fun h0 => ?_⟩
        obtain ⟨g, cap', hg', -, -, hcell⟩ := own_some o1 h0
        rw [hg] at hg'
        cases hg'
        refine ⟨g, 0, rfl, fun i hi => ?_⟩
        have e := n2 i hi
        have hsz : sz = 1 := by rw [← o2 _ (List.getElem_mem hi), e]; rfl
        subst hsz
        obtain ⟨u, u1, u2, u3⟩ := o3 i 0 hi (by rw [e]; simp)
        simp only [e, List.getElem_cons_zero] at u3
        cases u3
        rw [Nat.zero_add]
        exact hcell i _ (by simpa using u1)
      · cases h
    · cases h
  · rename_i fr l hx
    obtain ⟨v, e1, e2⟩ := G.ev hl hx
    unfold hConvL at h
    split at h
    · rename_i ns hns
      simp only [HOut.go.injEq] at h
      obtain ⟨rfl, rfl, rfl⟩ := h
      cases e2 with
      | lst hF =>
      cases hF with
      | lst sz vals hn hcap hm hnil hsz ha h1 hr =>
      obtain ⟨n1, n2⟩ := bytesH_get hns
      refine ⟨_, _, _, ns, e1, n1.trans hn, rfl, rfl, fun h => h, fun h0 => ?_⟩
      obtain ⟨b, off, rfl, -, -, -, hcell⟩ := ha h0
      refine ⟨b, off, rfl, fun i hi => ?_⟩
      have hi' : i < l.length := by omega
      have e := n2 i hi'
      have hsz1 : sz = 1 := by rw [← hsz _ (List.getElem_mem hi'), e]; rfl
      subst hsz1
      have u3 := hr i 0 hi' (by rw [e]; simp)
      simp only [e, List.getElem_cons_zero] at u3
      have := hcell i 0 hi (by omega)
      rw [Nat.mul_one, Nat.add_zero] at this
      rw [this]
      generalize vals i 0 = z at u3
      cases u3
      rfl
    · cases h
  · cases h
theorem conv_exec {s d : TypeId} {x : Operand} {ty : TypeId} {a : Option Addr} {n cap : Nat} {bs : ByteArray} (e1 : ev lw x = some (.slice a n cap)) (h : (convert s d (.slice a n cap)).run P w = .ok (.string bs) w) :
    (∀ y ∈ (Op.convert s d x).operands, (ev lw y).isSome = true) ∧ (execOp (evD lw) (opOf (.convert s d x) ty)).run P w = .ok (.value (.string bs)) w := by
  refine ⟨fun y hy => ?_, by simp [execOp, opOf, evD, e1, h]⟩
  have : y = x := by simpa [Op.operands] using hy
  rw [this, e1]; rfl
theorem sound_conv (G : Good c S look w ρ xs) (hl : Agr S.env look lw) {s d : TypeId} {x : Operand} {ty : TypeId} (h : hConv S (convOk P s d) (hev S.env x) = .go cnd hv S') (hc : cnd) :
    vcOp P lw (.convert s d x) ty w KL (KVs c S' hv look ρ xs w) := by
  obtain ⟨a, n, cap, ns, e1, e2, rfl, rfl, e3, e4⟩ := conv_at G hl h
  obtain ⟨h1, h2⟩ := conv_exec (P := P) (ty := ty) e1 (conv_run (e3 hc) e2 e4)
  unfold vcOp
  simp only [pureOp, e1, pureConv, effOp]
  exact ⟨h1, _, w, h2, rfl, G, .v _⟩
theorem sound_convq (G : Good c S look w ρ xs) (hl : Agr S.env look lw) {s d : TypeId} {x : Operand} (h : hConv S (convOk P s d) (hev S.env x) = .go cnd hv S') (hc : cnd) :
    vcQ P lw (.convert s d x) w (fun v => KVs c S hv look ρ xs w v w) (fun v => KVs c S hv look ρ xs w v w) := by
  obtain ⟨a, n, cap, ns, e1, e2, rfl, rfl, e3, e4⟩ := conv_at G hl h
  have run : ∀ w', Below w.heap.size w w' → (convert s d (.slice a n cap)).run P w' = .ok (.string (strOfNums ns)) w' := fun w' hw => conv_run (e3 hc) e2 fun h0 => by
    obtain ⟨b, off, e5, e6⟩ := e4 h0
    exact ⟨b, off, e5, fun i hi => below_cell hw (e6 i hi)⟩
  unfold vcQ
  simp only [pureOp, e1, pureConv, effQ]
  exact ⟨(conv_exec (P := P) (ty := 0) e1 (run w (Below.refl _ _))).1, _, fun w' hw => (conv_exec (P := P) (ty := 0) e1 (run w' hw)).2, rfl, G, .v _⟩
theorem sound_eqp (G : Good c S look w ρ xs) (hl : Agr S.env look lw) {t t' : TypeId} {neg : Bool} {x y : Operand} {ty : TypeId} (h : hEq S (uPtr P t) t neg (hev S.env x) (hev S.env y) = .go cnd hv S') (hc : cnd) :
    vcOp P lw (.binOp (if neg then .neq else .eql) t x y t') ty w (KVs c S' hv look ρ xs w) KL := by
  unfold hEq at h
  split at h
  · unfold hEqL at h; split at h <;> cases h
  · rename_i id sz i k hx hy
    simp only [HOut.go.injEq] at h
    obtain ⟨rfl, rfl, rfl⟩ := h
    obtain ⟨v, e1, e2⟩ := G.ev hl hx
    obtain ⟨u, f1, f2⟩ := G.ev hl hy
    have := repH_v f2
    subst this
    cases e2 with
    | ptr _ _ _ hρ =>
    unfold vcOp
    cases neg <;> simp only [Bool.false_eq_true, if_false, if_true, pureOp, e1, f1, pureBin]
    all_goals exact ⟨hc, rfl, G, .v _⟩
  · rename_i fr l sz i k hx hy
    simp only [HOut.go.injEq] at h
    obtain ⟨rfl, rfl, rfl⟩ := h
    obtain ⟨v, e1, e2⟩ := G.ev hl hx
    obtain ⟨u, f1, f2⟩ := G.ev hl hy
    have := repH_v f2
    subst this
    cases e2 with
    | elt hF hsz hi =>
    unfold vcOp
    cases neg <;> simp only [Bool.false_eq_true, if_false, if_true, pureOp, e1, f1, pureBin]
    all_goals exact ⟨hc, rfl, G, .v _⟩
  · cases h
end
end Go.Eng
