/- What the walk of the law stands on. -/
import Derived.Test.YtlfenddhppoflaaOne
import Derived.Test.YtlfenddhppoflaaDrw
set_option linter.unusedSimpArgs false
set_option linter.unusedVariables false
namespace Go.Eng
open Go Go.RowKit
section
variable {lw : Env} {P : Program} {N : Nat} {c : Ctx} {S S' : HS} {look : Nat → Option Value} {w w' : World} {ρ ρ' : Nat → Value} {xs : Nat → List Value} {hv : HV} {cnd : Prop}
abbrev KVk (c : Ctx) (S S' : HS) (hv : HV) (look : Nat → Option Value) (ρ : Nat → Value) (w : World) (p : Nat → Bool) (u : Value) (w' : World) : Prop :=
  ∃ ρ' xs', Good c S' look w' ρ' xs' ∧ RepH w' (c.A ρ' S'.st) c.n0 ρ' u hv ∧ ∀ v x, RepH w (c.A ρ S.st) c.n0 ρ v x → RepH w' (c.A ρ' S'.st) c.n0 ρ' v (x.kill p)
theorem Good.put_tr (h : Good c S look w ρ xs) (id : Nat) (r : Row) (hs : w.heap.size ≤ w'.heap.size)
    (old : Option Nat) (hold : ∀ b, old = some b → ∃ r0, rlk S.st id = some r0 ∧ (ρ id).ownBlock = some b)
    (hb : ∀ b, b < w.heap.size → some b ≠ old → w'.heap[b]? = w.heap[b]?) (hρ : ∀ i, i ≠ id → ρ' i = ρ i)
    (hblk : ∀ b, (ρ' id).ownBlock = some b → w.heap.size ≤ b ∨ old = some b) : ∀ v x, RepH w (c.A ρ S.st) c.n0 ρ v x → RepH w' (c.A ρ' ((id, r) :: skill (only id) S.st)) c.n0 ρ' v (x.kill (only id)) := by
  have hA : ∀ b, b < w.heap.size → c.A ρ' ((id, r) :: skill (only id) S.st) b → c.A ρ S.st b := by
    rintro b hlt (h0 | ⟨i, s, hi, hbi⟩)
    · exact .inl h0
    · right
      simp only [rlk] at hi
      by_cases e : id = i
      · subst e
        rcases hblk b hbi with hge | ho
        · omega
        · obtain ⟨r0, h1, h2⟩ := hold b ho
          exact ⟨id, r0, h1, h2⟩
      · rw [if_neg e, rlk_skill, only_ne (by omega), cond_false] at hi
        cases hs0 : rlk S.st i with
        | none => rw [hs0] at hi; cases hi
        | some s0 => rw [hρ i (by omega)] at hbi; exact ⟨i, s0, hs0, hbi⟩
  have hb' : ∀ b, b < w.heap.size → ¬ c.A ρ S.st b → w'.heap[b]? = w.heap[b]? := fun b hlt hn => hb b hlt fun e => hn (.inr (by
    obtain ⟨r0, h1, h2⟩ := hold b e.symm
    exact ⟨id, r0, h1, h2⟩))
  exact fun v x hv => (hv.up hs hb' hA (Nat.le_refl _)).kill (fun j hj => hρ j (ne_of_only hj))
theorem sset_tr (G : Good c S look w ρ xs) {id : Nat} {r0 : Row} (hrow : rlk S.st id = some r0) {g n cap : Nat} (hρ : ρ id = .slice (some ⟨g, 0, none⟩) n cap) (hO : Only g w w') (r : Row) :
    ∀ v x, RepH w (c.A ρ S.st) c.n0 ρ v x → RepH w' (c.A ρ (sset id r S.st)) c.n0 ρ v x := fun u h hu => by
  refine hu.up (Nat.le_of_eq hO.size.symm) (fun b hb hnA => hO.block b fun e => hnA (.inr ⟨id, _, hrow, by rw [hρ, e]; rfl⟩)) (fun b _ hA => ?_) (Nat.le_refl _)
  rcases hA with h0 | ⟨i2, s2, h2, h3⟩
  · exact .inl h0
  · rw [rlk_sset id _ _ _ hrow] at h2
    by_cases e2 : i2 = id
    · subst e2; exact .inr ⟨_, _, hrow, h3⟩
    · rw [if_neg e2] at h2; exact .inr ⟨_, _, h2, h3⟩
theorem sound_storeS (G : Good c S look w ρ xs) (hl : Agr S.env look lw) {t : TypeId} {x y : Operand} {ty : TypeId} (h : hStore S (kindT P t) (hev S.env x) (hev S.env y) = .go cnd hv S') (hc : cnd) :
    vcOp P lw (.store t x y) ty w (KVk c S S' hv look ρ w (fun _ => false)) (KVk c S S' hv look ρ w (fun _ => false)) := by
  unfold vcOp
  simp only [pureOp, effOp]
  unfold hStore at h
  split at h
  · rename_i id sz i k z hx hy
    obtain ⟨v, e1, e2⟩ := G.ev hl hx
    obtain ⟨u, f1, f2⟩ := G.ev hl hy
    cases e2 with
    | ptr _ _ _ hρ =>
    rename_i g n cp
    rw [e1, f1]
    dsimp only
    unfold hStoreR at h
    split at h
    · rename_i nw ty' s els hr
      obtain ⟨o1, o2, o3⟩ := rows_sl G hr
      have hnl : n = els.length := by
        obtain ⟨a, cp', e⟩ := own_shape o1
        rw [hρ] at e; cases e; rfl
      subst hnl
      have o1' := o1
      rw [hρ] at o1'
      obtain ⟨cur, hcur, hle⟩ := own_cur o1'
      have hlen := o1.1
      unfold hStoreS at h
      split at h
      · rename_i hk
        split at h
        · rename_i f hf
          simp only [HOut.go.injEq] at h
          obtain ⟨rfl, rfl, rfl⟩ := h
          obtain ⟨rfl, hi, hkl, h1⟩ := hc
          rw [getD_lt hi] at hkl ⊢
          have hfr := f_rep f2 hf
          have hone := fone_one hfr h1
          have hsz := o2 _ (List.getElem_mem hi)
          have hpos := pos_lt (sz := sz) (k := k) hi (by omega)
          obtain ⟨w', r1, r2, r3⟩ := store_one_splice (P := P) (ty := t) (i := i * sz + k) (v := u) hcur hk hone (by omega)
          refine ⟨w', r1, ρ, (fun j => if j = id then splice (xs id) (i * sz + k) [u] else xs j), ?_, .v _, fun v x hvx => (sset_tr G hr hρ r3 _ v x hvx).kill (fun _ _ => rfl)⟩
          rw [set_eq_splice _ _ _ hkl]
          refine upd_sl G hr hi (vs := [u]) (fs := [f]) rfl (by simp only [List.length_singleton]; omega) (by simpa using hone) (fun j a b => ?_) hρ r3 (fun cur' hc' => ?_)
          · simp at a; subst a; exact hfr
          · rw [(blk_uniq hc' hcur).1]; exact r2
        · cases h
      · rename_i m hs hk
        split at h
        · rename_i fs hf
          simp only [HOut.go.injEq] at h
          obtain ⟨rfl, rfl, rfl⟩ := h
          obtain ⟨rfl, hi, hm, hkl⟩ := hc
          rw [getD_lt hi] at hkl ⊢
          cases f2 with
          | agg hn h1 hr' =>
          rename_i cs
          obtain ⟨fl1, fl2⟩ := fs_len hf
          have hsz := o2 _ (List.getElem_mem hi)
          have hfit : i * sz + k + cs.size ≤ cur.size := by
            have : (i + 1) * sz ≤ els.length * sz := Nat.mul_le_mul_right _ hi
            rw [Nat.add_mul, Nat.one_mul] at this
            omega
          have hall : ∀ v ∈ cs.toList, v.oneCell' = true := fun v hv => by
            obtain ⟨j, hj, rfl⟩ := List.getElem_of_mem hv
            simpa using h1 j (by simpa using hj)
          obtain ⟨w', r1, r2, r3⟩ := storeMany (P := P) (ty := t) (i := i * sz + k) (vs := cs) hcur (by rw [hk]; congr 2; omega) hall hfit
          refine ⟨w', r1, ρ, (fun j => if j = id then splice (xs id) (i * sz + k) cs.toList else xs j), ?_, .v _, fun v x hvx => (sset_tr G hr hρ r3 _ v x hvx).kill (fun _ _ => rfl)⟩
          refine upd_sl G hr hi (vs := cs.toList) (fs := fs) (by simp; omega) (by omega) hall (fun j a b => ?_) hρ r3 (fun cur' hc' => ?_)
          · simp at a
            simp only [Array.getElem_toList]
            exact f_rep (hr' j a (by omega)) (fl2 j (by omega) b)
          · rw [(blk_uniq hc' hcur).1]; exact r2
        · cases h
      · cases h
    · rename_i nw ty' cells hr
      have R := G.rows id _ hr
      have o1 := R.own
      obtain ⟨⟨g', hg', -⟩, r2⟩ := R.rep
      rw [hρ] at hg'
      cases hg'
      simp only [Row.ty, Row.sz, Row.len] at o1
      have o1' := o1
      rw [hρ] at o1'
      obtain ⟨cur, hcur, hle⟩ := own_cur o1'
      have hlen := o1.1
      unfold hStoreB at h
      split at h
      · rename_i hk
        simp only [HOut.go.injEq] at h
        obtain ⟨rfl, rfl, rfl⟩ := h
        obtain ⟨rfl, hkl, h1⟩ := hc
        have hone := hone_one f2 h1
        obtain ⟨w', r1, r2', r3⟩ := store_one_splice (P := P) (ty := t) (i := 0 * sz + k) (v := u) hcur hk hone (by omega)
        refine ⟨w', r1, ρ, (fun j => if j = id then splice (xs id) k [u] else xs j), ?_, .v _, fun v x hvx => (sset_tr G hr hρ r3 _ v x hvx).kill (fun _ _ => rfl)⟩
        rw [set_eq_splice _ _ _ hkl]
        refine upd_bx G hr (vs := [u]) rfl (by simp only [List.length_singleton]; omega) (by simpa using hone) (fun j a b => ?_) hρ r3 (fun cur' hc' => ?_)
        · simp at a; subst a; exact f2
        · rw [(blk_uniq hc' hcur).1]
          have e : 0 * sz + k = k := by omega
          rw [e] at r2'; exact r2'
      · rename_i m hs hk
        simp only [HOut.go.injEq] at h
        obtain ⟨rfl, rfl, rfl⟩ := h
        obtain ⟨rfl, hm, hkl⟩ := hc
        cases f2 with
        | agg hn h1 hr' =>
        rename_i cs
        have hall : ∀ v ∈ cs.toList, v.oneCell' = true := fun v hv => by
          obtain ⟨j, hj, rfl⟩ := List.getElem_of_mem hv
          simpa using h1 j (by simpa using hj)
        obtain ⟨w', r1, r2', r3⟩ := storeMany (P := P) (ty := t) (i := 0 * sz + k) (vs := cs) hcur (by rw [hk]; congr 2; omega) hall (by omega)
        refine ⟨w', r1, ρ, (fun j => if j = id then splice (xs id) k cs.toList else xs j), ?_, .v _, fun v x hvx => (sset_tr G hr hρ r3 _ v x hvx).kill (fun _ _ => rfl)⟩
        refine upd_bx G hr (vs := cs.toList) (by simp; omega) (by omega) hall (fun j a b => ?_) hρ r3 (fun cur' hc' => ?_)
        · simp at a
          simp only [Array.getElem_toList]
          exact hr' j a (by omega)
        · rw [(blk_uniq hc' hcur).1]
          have e : 0 * sz + k = k := by omega
          rw [e] at r2'; exact r2'
      · cases h
    · rename_i nw ty' s els hr
      obtain ⟨o1, o2, o3⟩ := rows_hl G hr
      have hnl : n = els.length := by
        obtain ⟨a, cp', e⟩ := own_shape o1
        rw [hρ] at e; cases e; rfl
      subst hnl
      have o1' := o1
      rw [hρ] at o1'
      obtain ⟨cur, hcur, hle⟩ := own_cur o1'
      have hlen := o1.1
      unfold hStoreH at h
      split at h
      · rename_i hk
        simp only [HOut.go.injEq] at h
        obtain ⟨rfl, rfl, rfl⟩ := h
        obtain ⟨rfl, hi, hkl, h1⟩ := hc
        rw [getD_lt hi] at hkl ⊢
        have hone := hone_one f2 h1
        have hsz := o2 _ (List.getElem_mem hi)
        have hpos := pos_lt (sz := sz) (k := k) hi (by omega)
        obtain ⟨w', r1, r2, r3⟩ := store_one_splice (P := P) (ty := t) (i := i * sz + k) (v := u) hcur hk hone (by omega)
        refine ⟨w', r1, ρ, (fun j => if j = id then splice (xs id) (i * sz + k) [u] else xs j), ?_, .v _, fun v x hvx => (sset_tr G hr hρ r3 _ v x hvx).kill (fun _ _ => rfl)⟩
        rw [set_eq_splice _ _ _ hkl]
        refine upd_hl G hr hi (vs := [u]) rfl (by simp only [List.length_singleton]; omega) (by simpa using hone) (fun j a b => ?_) hρ r3 (fun cur' hc' => ?_)
        · simp at a; subst a; exact f2
        · rw [(blk_uniq hc' hcur).1]; exact r2
      · rename_i m hs hk
        simp only [HOut.go.injEq] at h
        obtain ⟨rfl, rfl, rfl⟩ := h
        obtain ⟨rfl, hi, hm, hkl⟩ := hc
        rw [getD_lt hi] at hkl ⊢
        cases f2 with
        | agg hn h1 hr' =>
        rename_i cs
        have hsz := o2 _ (List.getElem_mem hi)
        have hfit : i * sz + k + cs.size ≤ cur.size := by
          have : (i + 1) * sz ≤ els.length * sz := Nat.mul_le_mul_right _ hi
          rw [Nat.add_mul, Nat.one_mul] at this
          omega
        have hall : ∀ v ∈ cs.toList, v.oneCell' = true := fun v hv => by
          obtain ⟨j, hj, rfl⟩ := List.getElem_of_mem hv
          simpa using h1 j (by simpa using hj)
        obtain ⟨w', r1, r2, r3⟩ := storeMany (P := P) (ty := t) (i := i * sz + k) (vs := cs) hcur (by rw [hk]; congr 2; omega) hall hfit
        refine ⟨w', r1, ρ, (fun j => if j = id then splice (xs id) (i * sz + k) cs.toList else xs j), ?_, .v _, fun v x hvx => (sset_tr G hr hρ r3 _ v x hvx).kill (fun _ _ => rfl)⟩
        refine upd_hl G hr hi (vs := cs.toList) (fs := hs) (by simp; omega) (by omega) hall (fun j a b => ?_) hρ r3 (fun cur' hc' => ?_)
        · simp at a
          simp only [Array.getElem_toList]
          exact hr' j a (by omega)
        · rw [(blk_uniq hc' hcur).1]; exact r2
      · cases h
    · cases h
  · cases h
theorem sound_appendS (G : Good c S look w ρ xs) (hl : Agr S.env look lw) {nid : Nat} {args : Array Operand} {ats : Array TypeId} {ty : TypeId} (h : hAppend S nid (ats == #[ats0 ats, ats0 ats]) (strT P ats) (seOf P (ats0 ats)) (hevs S.env args.toList) = .go cnd hv S') (hc : cnd) {idk : Nat} (ho : ∃ x, hevs S.env args.toList = some [.own idk, x]) :
    vcOp P lw (.call ⟨.builtin .append, args, ats⟩) ty w (KVk c S S' hv look ρ w (only idk)) (KVk c S S' hv look ρ w (only idk)) := by
  obtain ⟨xk, hxk⟩ := ho
  have two : ∀ {p q : HV}, hevs S.env args.toList = some [p, q] → ∃ u v, evs lw args.toList = some [u, v] ∧ RepH w (c.A ρ S.st) c.n0 ρ u p ∧ RepH w (c.A ρ S.st) c.n0 ρ v q := by
    intro p q hpq
    obtain ⟨vs, e1, e2, e3⟩ := G.evs hl hpq
    match vs, e2 with
    | [u, v], _ => exact ⟨u, v, e1, e3 0 (by simp) (by simp), e3 1 (by simp) (by simp)⟩
  unfold hAppend at h
  split at h
  · rename_i e sz by' z id x hse hargs
    obtain rfl : id = idk := by rw [hargs] at hxk; cases hxk; rfl
    split at h
    · rename_i hs
      simp only [Bool.and_eq_true, beq_iff_eq] at hs
      obtain ⟨hats, hz⟩ := hs
      obtain ⟨u, v, e1, e2, e3⟩ := two hargs
      unfold hAppR at h
      split at h
      · rename_i nw ty' s els hrow
        split at h
        · rename_i hd
          simp only [Bool.and_eq_true, decide_eq_true_eq] at hd
          obtain ⟨rfl, rfl⟩ := hd
          unfold hAppN at h
          split at h
          · rename_i c' news hn
            simp only [HOut.go.injEq] at h
            obtain ⟨rfl, rfl, rfl⟩ := h
            obtain ⟨hc', hby, hby0, hsz⟩ := hc
            cases e2
            obtain ⟨o1, o2, o3⟩ := rows_sl G hrow
            obtain ⟨nv, v', w', r1, r2, r3, r4, r5, n2⟩ : ∃ nv v' w', (Builtin.append_ ats ty #[ρ id, v]).run P w = .ok v' w' ∧ Own w' 0 ty' s v' (els.length + news.length) (xs id ++ nv) ∧ w.grownBy w' (ρ id).ownBlock ∧ v'.oneCell' = true ∧ (∀ b, v'.ownBlock = some b → w.heap.size ≤ b ∨ (ρ id).ownBlock = some b) ∧ Flat (RepF w (c.A ρ S.st) c.n0) s nv news := by
              unfold newsA at hn
              split at hn
              · rename_i hsame
                have hats : ats = #[ats0 ats, ats0 ats] := by simpa using hsame
                obtain ⟨nv, n1, n2⟩ := news_rep G hsz e3 hn hc'
                obtain ⟨v', w', r1, r2, r3, r4, r5⟩ := append_block (P := P) (ty := ty) hse hz hsz hby0 o1 n1 n2.len n2.one hby
                exact ⟨nv, v', w', by rw [hats]; exact r1, r2, r3, r4, r5, n2⟩
              · split at hn
                · rename_i hstr
                  unfold newsS at hn
                  split at hn
                  · rename_i str
                    simp only [Option.some.injEq, Prod.mk.injEq] at hn
                    obtain ⟨-, rfl⟩ := hn
                    have := repH_v e3
                    subst this
                    obtain ⟨t, u, e', i, rfl, hu, ht, hi, hs1, hb1, hzz⟩ := strT_some hstr
                    obtain ⟨hu', i', u', hi', q2, q3, q4, q5⟩ := seOf_some hse
                    have hu' : P.underlying t = some (.slice ty') := hu'
                    rw [ht] at hu'
                    simp only [Option.some.injEq, TypeDesc.slice.injEq] at hu'
                    subst hu'
                    rw [hi] at hi'
                    simp only [Option.some.injEq] at hi'
                    subst hi'
                    have hs' : s = 1 := by omega
                    subst hs'
                    have hbl : (byteE str).length = str.size := by simp [byteE]
                    have hb2 : els.length + str.size ≤ 140737488355328 := by
                      have e1 : by' = 1 := by omega
                      rw [hbl, e1, Nat.mul_one] at hby
                      exact hby
                    obtain ⟨v', w', r1, r2, r3, r4, r5⟩ := append_str (P := P) (ty := ty) ht hu hi hs1 hb1 hzz o1 str hb2
                    exact ⟨_, v', w', r1, by rw [hbl]; exact r2, r3, r4, r5, byteE_flat (fun x => .v x) str⟩
                  · cases hn
                · cases hn
            have hF : Flat (RepF w (c.A ρ S.st) c.n0) s (xs id ++ nv) (els ++ news) := Flat.append ⟨o1.1, o2, o3⟩ n2
            unfold vcOp
            simp only [pureOp, effOp, e1, pureBuiltin]
            refine ⟨v', w', r1, setR ρ id v', _, G.put id (.sl nw ty' s (els ++ news)) (xs id ++ nv) r3.size r3.os r3.tape r3.output (ρ id).ownBlock (fun b hb => ⟨_, hrow, hb⟩) (fun b hlt hne => r3.block b hlt hne) (fun i hi => setR_ne ρ id v' i hi)
              (fun b hb => r5 b (by rw [zN] at hb; exact hb)) (fun _ tr => ?_), ?_, fun v x hvx => G.put_tr id (.sl nw ty' s (els ++ news)) r3.size (ρ id).ownBlock (fun b hb => ⟨_, hrow, hb⟩) (fun b hlt hne => r3.block b hlt hne) (fun i hi => setR_ne ρ id v' i hi) (fun b hb => r5 b (by rw [zN] at hb; exact hb)) v x hvx⟩
            · refine ⟨by rw [zN]; simp only [Row.ty, Row.sz, Row.len, List.length_append]; exact r2, ?_, fun b hb => ?_⟩
              · exact ⟨hF.wid, fun i k hi hk => by obtain ⟨u, a, b, d⟩ := hF.get i k hi hk; exact ⟨u, a, b, tr _ _ d⟩⟩
              · rw [zN] at hb
                rcases r5 b hb with hge | ho
                · have := G.kept.size; have := c.hn; exact ⟨.inl (by omega), fun _ => by omega⟩
                · exact (G.rows id _ hrow).new b ho
            · have := RepH.own (w := w') (A := c.A (setR ρ id v') ((S.kill (only id)).row id (.sl nw ty' s (els ++ news))).st) (n0 := c.n0) (ρ := setR ρ id v') id (by rw [zN]; exact r4)
              rw [zN] at this
              exact this
          · cases h
        · cases h
      · rename_i nw ty' s els hrow
        split at h
        · rename_i hd
          simp only [Bool.and_eq_true, decide_eq_true_eq] at hd
          obtain ⟨hsame, rfl, rfl⟩ := hd
          unfold hAppH at h
          split at h
          · rename_i c' news hn
            simp only [HOut.go.injEq] at h
            obtain ⟨rfl, rfl, rfl⟩ := h
            obtain ⟨hc', hby, hby0, hsz⟩ := hc
            cases e2
            obtain ⟨o1, o2, o3⟩ := rows_hl G hrow
            have hats2 : ats = #[ats0 ats, ats0 ats] := by simpa using hsame
            obtain ⟨nv, n1, n2⟩ := news_repH G hsz e3 hn hc'
            obtain ⟨v', w', r1, r2, r3, r4, r5⟩ := append_block (P := P) (ty := ty) hse hz hsz hby0 o1 n1 n2.len n2.one hby
            rw [← hats2] at r1
            have hF : Flat (RepH w (c.A ρ S.st) c.n0 ρ) s (xs id ++ nv) (els ++ news) := Flat.append ⟨o1.1, o2, o3⟩ n2
            unfold vcOp
            simp only [pureOp, effOp, e1, pureBuiltin]
            refine ⟨v', w', r1, setR ρ id v', _, G.put id (.hl nw ty' s (hkl id (els ++ news))) (xs id ++ nv) r3.size r3.os r3.tape r3.output (ρ id).ownBlock (fun b hb => ⟨_, hrow, hb⟩) (fun b hlt hne => r3.block b hlt hne) (fun i hi => setR_ne ρ id v' i hi)
              (fun b hb => r5 b (by rw [zN] at hb; exact hb)) (fun tr _ => ?_), ?_, fun v x hvx => G.put_tr id (.hl nw ty' s (hkl id (els ++ news))) r3.size (ρ id).ownBlock (fun b hb => ⟨_, hrow, hb⟩) (fun b hlt hne => r3.block b hlt hne) (fun i hi => setR_ne ρ id v' i hi) (fun b hb => r5 b (by rw [zN] at hb; exact hb)) v x hvx⟩
            · refine ⟨by rw [zN]; simp only [Row.ty, Row.sz, Row.len, hkl, List.length_map, List.length_append]; exact r2, ?_, fun b hb => ?_⟩
              · have := hF.map (f := HV.kill (only id)) tr
                exact ⟨this.wid, this.get⟩
              · rw [zN] at hb
                rcases r5 b hb with hge | ho
                · have := G.kept.size; have := c.hn; exact ⟨.inl (by omega), fun _ => by omega⟩
                · exact (G.rows id _ hrow).new b ho
            · have := RepH.own (w := w') (A := c.A (setR ρ id v') ((S.kill (only id)).row id (.hl nw ty' s (hkl id (els ++ news)))).st) (n0 := c.n0) (ρ := setR ρ id v') id (by rw [zN]; exact r4)
              rw [zN] at this
              exact this
          · cases h
        · cases h
      · cases h
    · cases h
  · rename_i e sz by' z x hse hargs
    rw [hargs] at hxk; cases hxk
  · cases h
theorem sound_buildSS (G : Good c S look w ρ xs) (hl : Agr S.env look lw) {id n : Nat} {t ty : TypeId} {ps : Array (Nat × Operand)} (h : hBuildS S id n (seOf P t) (partsH S.env ps.toList) = .go cnd hv S') (hc : cnd) :
    vcOp P lw (.buildSlice t n ps) ty w (KVk c S S' hv look ρ w (only id)) (KVk c S S' hv look ρ w (only id)) := by
  have fin : ∀ {v' : Value} {w' : World} {r : Row} {l' : Nat → List Value}, Below w.heap.size w w' → (∀ b, v'.ownBlock = some b → w.heap.size ≤ b) → v'.oneCell' = true →
      Good c ((S.kill (only id)).row id r) look w' (setR ρ id v') l' → KVk c S ((S.kill (only id)).row id r) (.own id) look ρ w (only id) v' w' := fun {v' w' r l'} hb hblk h1 G' => by
    refine ⟨_, _, G', ?_, fun v x hvx => G.put_tr id r hb.size none (fun b hb => by cases hb) (fun b hlt _ => hb.block b hlt) (fun i hi => setR_ne ρ id v' i hi) (fun b hb => .inl (hblk b (by rw [zN] at hb; exact hb))) v x hvx⟩
    have := RepH.own (w := w') (A := c.A (setR ρ id v') ((S.kill (only id)).row id r).st) (n0 := c.n0) (ρ := setR ρ id v') id (by rw [zN]; exact h1)
    rw [zN] at this
    exact this
  unfold hBuildS at h
  split at h
  · rename_i e sz by' z qs hse hq
    split at h
    · rename_i hz
      simp only [oneAll_all, Bool.and_eq_true, beq_iff_eq] at hz
      unfold hBuildSE at h
      split at h
      · unfold hBuildSF at h
        split at h
        · rename_i c' els hli
          simp only [HOut.go.injEq] at h
          obtain ⟨rfl, rfl, rfl⟩ := h
          obtain ⟨⟨hn1, hn2⟩, hc'⟩ := hc
          obtain ⟨vs, p1, p2, p3⟩ := G.parts hl hq
          obtain ⟨arr, f1, f2, f3⟩ := lit_rep vs qs (madeCells z (n * sz)) (List.replicate n (z.toList.map .v)) els c' p2 p3 (rep_zero hz.2 hz.1 fun x => .v x) hli hc'
          rw [List.length_replicate] at f3
          have hlen := f2.len
          rw [Array.length_toList, f3] at hlen
          obtain ⟨w', r1, r2, r3, r4⟩ := own_lit (P := P) (w := w) (parts := vs.toArray) arr hse hn1 (by simp only [maxLen]; omega) f1 hlen
          unfold vcOp
          simp only [pureOp, effOp, p1]
          have hblk : ∀ b, (Value.slice (some ⟨w.heap.size, 0, none⟩) n n).ownBlock = some b → w.heap.size ≤ b := fun b hb => by simp only [Value.ownBlock, Option.some.injEq] at hb; omega
          have hO : Own w' 0 e sz (.slice (some ⟨w.heap.size, 0, none⟩) n n) els.length arr.toList := by
            rw [f3]
            exact ⟨r2.1, r2.2.imp _root_.id fun ⟨g, cap, cur, a, b, d⟩ => ⟨g, cap, cur, a, Nat.zero_le _, d⟩⟩
          refine ⟨_, w', r1, fin r3 hblk rfl (G.new id (.sl true e sz els) arr.toList _ r3 hblk (fun _ tr => ?_))⟩
          refine ⟨by rw [zN]; exact hO, ?_, fun b hb' => ?_⟩
          · exact ⟨f2.wid, fun i k hi hk => by obtain ⟨u, a, b, d⟩ := f2.get i k hi hk; exact ⟨u, a, b, tr _ _ d⟩⟩
          · rw [zN] at hb'
            have := hblk b hb'
            have := G.kept.size
            have := c.hn
            exact ⟨.inl (by omega), fun _ => by omega⟩
        · cases h
      · unfold hBuildSH at h
        split at h
        · rename_i c' els hli
          simp only [HOut.go.injEq] at h
          obtain ⟨rfl, rfl, rfl⟩ := h
          obtain ⟨⟨hn1, hn2⟩, hc'⟩ := hc
          obtain ⟨vs, p1, p2, p3⟩ := G.parts hl hq
          obtain ⟨arr, f1, f2, f3⟩ := lit_repH vs qs (madeCells z (n * sz)) (List.replicate n (z.toList.map .v)) els c' p2 p3 (rep_zeroH hz.2 hz.1 fun x => .v x) hli hc'
          rw [List.length_replicate] at f3
          have hlen := f2.len
          rw [Array.length_toList, f3] at hlen
          obtain ⟨w', r1, r2, r3, r4⟩ := own_lit (P := P) (w := w) (parts := vs.toArray) arr hse hn1 (by simp only [maxLen]; omega) f1 hlen
          unfold vcOp
          simp only [pureOp, effOp, p1]
          have hblk : ∀ b, (Value.slice (some ⟨w.heap.size, 0, none⟩) n n).ownBlock = some b → w.heap.size ≤ b := fun b hb => by simp only [Value.ownBlock, Option.some.injEq] at hb; omega
          have hO : Own w' 0 e sz (.slice (some ⟨w.heap.size, 0, none⟩) n n) els.length arr.toList := by
            rw [f3]
            exact ⟨r2.1, r2.2.imp _root_.id fun ⟨g, cap, cur, a, b, d⟩ => ⟨g, cap, cur, a, Nat.zero_le _, d⟩⟩
          refine ⟨_, w', r1, fin r3 hblk rfl (G.new id (.hl true e sz (hkl id els)) arr.toList _ r3 hblk (fun tr _ => ?_))⟩
          refine ⟨by rw [zN]; simp only [Row.ty, Row.sz, Row.len, hkl, List.length_map]; exact hO, ?_, fun b hb' => ?_⟩
          · have := f2.map (f := HV.kill (only id)) tr
            exact ⟨this.wid, this.get⟩
          · rw [zN] at hb'
            have := hblk b hb'
            have := G.kept.size
            have := c.hn
            exact ⟨.inl (by omega), fun _ => by omega⟩
        · cases h
    · cases h
  · cases h
end
def kf : Option Nat → Nat → Bool
  | none => fun _ => false
  | some id => only id
abbrev Ws := List (Nat × Option Nat)
def wAt (W : Ws) (q : Nat) : Nat := (W.getD q (0, none)).1
def wk (W : Ws) (q : Nat) : Nat → Bool := kf (W.getD q (0, none)).2
def nextW : Ws → Nat → Option (Option Nat)
  | [], _ => none
  | (a, k) :: _, i => bif a == i then some k else none
abbrev Rg := List (Nat × Nat × Nat)
def rgOf : Rg → Nat → Option (Nat × Nat)
  | [], _ => none
  | (a, lo, hi) :: r, i => bif a == i then some (lo, hi) else rgOf r i
def wchk (ops : List Oper) (n : Nat) (W : Ws) (rg : Rg) : Bool :=
  ((List.range W.length).all fun q => decide (wAt W q < n) && (q == 0 || (decide (wAt W (q - 1) < wAt W q) && edgeB ops (wAt W q) (wAt W (q - 1))))) &&
  ((List.range n).all fun i => match rgOf rg i with
    | none => true
    | some (lo, hi) => decide (lo ≤ hi) && decide (hi ≤ W.length) && (lo == 0 || edgeB ops i (wAt W (lo - 1))) && (hi == W.length || edgeB ops (wAt W hi) i))
def stays : Ws → HEnv → Prop
  | [], _ => True
  | (_, k) :: r, T => ekill (kf k) T = T ∧ stays r T
def slotsW : Op → List Nat
  | .store _ x y => slotX x ++ slotX y
  | o => slotsOf o
theorem slotsW_of {o : Op} {t : Nat} (h : t ∈ slotsOf o) : t ∈ slotsW o := by
  cases o <;> first | exact h | (simp [slotsOf] at h)
theorem looks_slotsW {o : Oper} {ops : List Oper} {t : Nat} (h : t ∈ slotG (dsts ops) o.guard ++ slotsW o.op) : t ∈ o.looksAt ops.toArray := by
  obtain ⟨dst, op, ty, pos, aft, grd⟩ := o
  cases op
  case store a x y =>
    rcases List.mem_append.1 h with h | h
    · exact looks_slots (List.mem_append.2 (.inl h))
    · refine looks_tmp ?_
      simp only [slotsW, List.mem_append] at h
      simp only [Op.operands]
      rcases h with h | h
      · rw [slotX_mem h]; simp
      · rw [slotX_mem h]; simp
  all_goals exact looks_slots h
def strongK (T : HEnv) : Op → HV → Option Nat → Prop
  | .store _ _ _, _, k => k = none
  | .call ⟨.builtin .copy, _, _⟩, _, k => k = none
  | .call ⟨.builtin .append, args, _⟩, h, k => match h with
    | .own id => k = some id ∧ (match args.toList with | a :: _ => hev T a = some (.own id) | [] => False)
    | _ => False
  | .buildSlice _ _ _, h, k => match h with
    | .own id => k = some id
    | _ => False
  | _, _, _ => False
def HWr2 (T : HEnv) (st' : Store) (k : Option Nat) (op : Op) (K : HV → Prop) : HOut → Prop
  | .go c h S' => strongK T op h k ∧ c ∧ S'.st = st' ∧ K h
  | _ => False
def HAll (P : Program) (N : Nat) (ds : List (Option Nat)) (sts : List Store) (o : Oper) (E T E' : HEnv) : Nat → Nat → Prop
  | _, 0 => True
  | a, n + 1 => HStepR P N o ⟨E, sts.getD a []⟩ ⟨T, sts.getD a []⟩ (fun S'' => S''.env = E') (hG T ds o.guard) ∧ HAll P N ds sts o E T E' (a + 1) n
def HVc1 (P : Program) (N : Nat) (ds : List (Option Nat)) (sts : List Store) (Wd Wr : Ws) (m : Nat) (o : Oper) (E T : HEnv) (R : HEnv → Prop) : Option (Nat × Nat) → Prop
  | none => stays Wr T ∧ HStepR P N o ⟨E, []⟩ ⟨T, []⟩ (fun S' => stays Wd (S'.env.take 1) ∧ R S'.env) (hG T ds o.guard)
  | some (lo, hi) => (o.dst.isSome = true ∧ lo ≤ m ∧ m ≤ hi) ∧ stays (Wr.take (hi - m)) T ∧ HStepR P N o ⟨E, sts.getD lo []⟩ ⟨T, sts.getD lo []⟩ (fun S' => stays (Wd.drop lo) (S'.env.take 1) ∧ HAll P N ds sts o E T S'.env (lo + 1) (hi - lo) ∧ R S'.env) (hG T ds o.guard)
def HVc (P : Program) (N : Nat) (ds : List (Option Nat)) (sts : List Store) (rg : Rg) (K : HEnv → Prop) : List Oper → Nat → Nat → Ws → Ws → HEnv → Prop
  | [], _, _, _, Wr, E => Wr = [] ∧ K E
  | o :: rest, i, m, Wd, Wr, E => match nextW Wr i with
    | some k => o.guard = none ∧ dstOk N o.dst = true ∧ HWr2 (pickE E (slotG ds o.guard ++ slotsW o.op)) (sts.getD (m + 1) []) k o.op (fun h => HVc P N ds sts rg K rest (i + 1) (m + 1) (Wd ++ [(i, k)]) Wr.tail (HS.set ⟨ekill (kf k) E, []⟩ o.dst h).env) (hop P ⟨pickE E (slotG ds o.guard ++ slotsW o.op), sts.getD m []⟩ (idOf o.dst) o.op)
    | none => HVc1 P N ds sts Wd Wr m o E (pickE E (slotG ds o.guard ++ slotsOf o.op)) (fun E' => HVc P N ds sts rg K rest (i + 1) m Wd Wr E') (rgOf rg i)
section
variable {P : Program} {N : Nat} {Q : HPost} {c : Ctx} {S : HS} {l : Env} {look : Nat → Option Value} {w w' : World} {ρ : Nat → Value} {xs : Nat → List Value}
def RunsAs (P : Program) (ds : List (Option Nat)) (o : Oper) (T : HEnv) (st : Store) (x : HV) : Prop :=
  ∀ (c : Ctx) (l : Env) (w : World) (ρ : Nat → Value) (xs : Nat → List Value), Good c ⟨T, st⟩ (lk l) w ρ xs →
    ∃ b, gd l ds o.guard (· = b) ∧ (b = true → vcOp P l o.op o.type w (fun u w' => RepH w' (c.A ρ st) c.n0 ρ u x ∧ Below w.heap.size w w') (fun u w' => RepH w' (c.A ρ st) c.n0 ρ u x ∧ Below w.heap.size w w')) ∧ (b = false → x = .v undef)
theorem HStepR_head {ds : List (Option Nat)} {o : Oper} {E T : HEnv} {st : Store} {K : HS → Prop} (hT : ∀ t x, hlk T t = some x → hlk E t = some x) (h : HStepR P N o ⟨E, st⟩ ⟨T, st⟩ K (hG T ds o.guard)) :
    ∃ x E1, dstLt N o.dst ∧ (∀ t, hlk E1 t = hlk E t) ∧ K (HS.set ⟨E1, st⟩ o.dst x) ∧ RunsAs P ds o T st x := by
  cases hg : hG T ds o.guard with
  | yes =>
    rw [hg] at h
    obtain ⟨hlt, x, hK, hv⟩ := HGoR_head h
    exact ⟨x, E, hlt, fun _ => rfl, hK, fun c l w ρ xs G => ⟨true, gd_yes (S := ⟨T, st⟩) hg rfl, fun _ => hv c l w ρ xs G, fun e => by cases e⟩⟩
  | no =>
    rw [hg] at h
    obtain ⟨hlt, hK⟩ := HSkip_head h
    exact ⟨.v undef, E, hlt, fun _ => rfl, hK, fun c l w ρ xs G => ⟨false, gd_no (S := ⟨T, st⟩) ⟨ρ, xs, G⟩ hg rfl, fun e => (by cases e), fun _ => rfl⟩⟩
  | ask d b want =>
    rw [hg] at h
    obtain ⟨j, hj, hd, hb⟩ := hG_ask (S := ⟨T, st⟩) hg
    have hbS := hT d _ hb
    simp only [HStepR] at h
    split at h
    · rename_i e
      have e' : b = want := by simpa using e
      subst e'
      obtain ⟨hlt, x, hK, hv⟩ := HGoR_head h
      refine ⟨x, hrep d (.v (.bool b)) E, hlt, hrep_same hbS, hK, fun c l w ρ xs G => ⟨true, (gd_ask (S := ⟨T, st⟩) ⟨ρ, xs, G⟩ hg (k := (· = true)) e).1, fun _ => ?_, fun e => by cases e⟩⟩
      have := hv c l w ρ xs (G.sameEnv (hrep_same hb))
      exact this
    · rename_i e
      have e' : b = !want := by cases b <;> cases want <;> simp_all
      subst e'
      obtain ⟨hlt, hK⟩ := HSkip_head h
      exact ⟨.v undef, hrep d (.v (.bool (!want))) E, hlt, hrep_same hbS, hK, fun c l w ρ xs G => ⟨false, (gd_ask (S := ⟨T, st⟩) ⟨ρ, xs, G⟩ hg (k := (· = false)) e).1, fun e => (by cases e), fun _ => rfl⟩⟩
  | bad => rw [hg] at h; exact h.elim
theorem RunsAs.any {ds : List (Option Nat)} {o : Oper} {T : HEnv} {x : HV} (h : RunsAs P ds o T [] x) (st : Store) : RunsAs P ds o T st x := fun c l w ρ xs G => by
  have hA : ∀ b, c.A ρ st b → b < w.heap.size := by
    rintro b (h0 | ⟨i, r, hi, hb⟩)
    · have := (G.a0 b h0).1; have := G.kept.size; omega
    · exact G.lt hi hb
  have G2 : Good ⟨w, fun _ => False, c.A ρ st, c.n0, Nat.le_trans c.hn G.kept.size, fun _ _ => False⟩ ⟨T, []⟩ (lk l) w ρ xs := by
    refine ⟨fun id r hr => by simp [rlk] at hr, fun i j r s b hne hi => by simp [rlk] at hi, fun k x hk => ?_, Kept.refl _ _, fun b hb => ⟨hA b hb, fun h => h⟩⟩
    obtain ⟨u, h1, h2⟩ := G.env k _ hk
    refine ⟨u, h1, h2.up (Nat.le_refl _) (fun _ _ _ => rfl) (fun b _ hb => ?_) (Nat.le_refl _)⟩
    rcases hb with hb | ⟨i, r, hi, -⟩
    · exact hb
    · simp [rlk] at hi
  obtain ⟨b, h1, h2, h3⟩ := h _ l w ρ xs G2
  refine ⟨b, h1, fun e => vcOp_mono (h2 e) fun u w' ⟨r, B⟩ => ⟨r.up (Nat.le_refl _) (fun _ _ _ => rfl) (fun b _ hb => .inl hb) (Nat.le_refl _), B⟩, h3⟩
def Strong (P : Program) (o : Oper) (T : HEnv) (st st' : Store) (p : Nat → Bool) (h : HV) : Prop :=
  ∀ (c : Ctx) (l : Env) (w : World) (ρ : Nat → Value) (xs : Nat → List Value), Good c ⟨T, st⟩ (lk l) w ρ xs →
    vcOp P l o.op o.type w (fun u w' => ∃ ρ' xs', Good c ⟨[], st'⟩ (fun _ => none) w' ρ' xs' ∧ RepH w' (c.A ρ' st') c.n0 ρ' u h ∧ ∀ v x, RepH w (c.A ρ st) c.n0 ρ v x → RepH w' (c.A ρ' st') c.n0 ρ' v (x.kill p))
      (fun u w' => ∃ ρ' xs', Good c ⟨[], st'⟩ (fun _ => none) w' ρ' xs' ∧ RepH w' (c.A ρ' st') c.n0 ρ' u h ∧ ∀ v x, RepH w (c.A ρ st) c.n0 ρ v x → RepH w' (c.A ρ' st') c.n0 ρ' v (x.kill p))
theorem strong_of {o : Oper} {T : HEnv} {st st' : Store} {k : Option Nat} {K : HV → Prop} (h : HWr2 T st' k o.op K (hop P ⟨T, st⟩ (idOf o.dst) o.op)) : ∃ x, K x ∧ Strong P o T st st' (kf k) x := by
  unfold HWr2 at h
  split at h
  · rename_i cnd x S1 ho
    obtain ⟨hk, hc, rfl, hK⟩ := h
    refine ⟨x, hK, fun c l w ρ xs G => ?_⟩
    have fin : ∀ {p : Nat → Bool}, vcOp P l o.op o.type w (KVk c ⟨T, st⟩ S1 x (lk l) ρ w p) (KVk c ⟨T, st⟩ S1 x (lk l) ρ w p) →
        vcOp P l o.op o.type w (fun u w' => ∃ ρ' xs', Good c ⟨[], S1.st⟩ (fun _ => none) w' ρ' xs' ∧ RepH w' (c.A ρ' S1.st) c.n0 ρ' u x ∧ ∀ v x, RepH w (c.A ρ st) c.n0 ρ v x → RepH w' (c.A ρ' S1.st) c.n0 ρ' v (x.kill p))
          (fun u w' => ∃ ρ' xs', Good c ⟨[], S1.st⟩ (fun _ => none) w' ρ' xs' ∧ RepH w' (c.A ρ' S1.st) c.n0 ρ' u x ∧ ∀ v x, RepH w (c.A ρ st) c.n0 ρ v x → RepH w' (c.A ρ' S1.st) c.n0 ρ' v (x.kill p)) := fun {p} hv =>
      vcOp_mono hv fun u w' ⟨ρ', xs', G', r, tr⟩ => ⟨ρ', xs', ⟨G'.rows, G'.apart, fun k x hk => by simp [hlk] at hk, G'.kept, G'.a0⟩, r, tr⟩
    obtain ⟨dst, op, ty, pos, aft, grd⟩ := o
    dsimp only at ho hk fin ⊢
    unfold strongK at hk
    split at hk
    · subst hk
      refine fin ?_
      simp only [hop, pureOp, hPure, heff] at ho
      exact sound_storeS G (agr_self _ _) ho hc
    · rename_i args ats
      subst hk
      refine fin ?_
      have ho' : hCopy ⟨T, st⟩ (ats == #[ats0 ats, ats0 ats]) (uSlice P (ats0 ats)) (hevs T args.toList) = .go cnd x S1 := by
        simp only [hop, pureOp] at ho
        split at ho
        · simp only [pureBuiltin, hPure, heff] at ho; exact ho
        · simp only [hPure, heff] at ho; exact ho
      exact vcOp_mono (sound_copyS G (agr_self _ _) ho' hc) fun u w' ⟨xs', G', r, tr⟩ => ⟨ρ, xs', G', r, fun v x hv => (tr v x hv).kill (fun _ _ => rfl)⟩
    · rename_i args ats
      split at hk
      · rename_i id
        obtain ⟨rfl, ha⟩ := hk
        refine fin ?_
        have ho' : hAppend ⟨T, st⟩ (idOf dst) (ats == #[ats0 ats, ats0 ats]) (strT P ats) (seOf P (ats0 ats)) (hevs T args.toList) = .go cnd (.own id) S1 := by
          simp only [hop, pureOp] at ho
          split at ho
          · simp only [pureBuiltin, hPure, heff] at ho; exact ho
          · simp only [hPure, heff] at ho; exact ho
        refine sound_appendS G (agr_self _ _) ho' hc ?_
        split at ha
        · rename_i a r hargs
          dsimp only
          rw [hargs]
          unfold hAppend at ho'
          dsimp only at ho'
          rw [hargs] at ho'
          simp only [hevs, ha] at ho' ⊢
          cases hr : hevs T r with
          | none => rw [hr] at ho'; simp at ho'
          | some vs =>
            rw [hr] at ho'
            match vs, ho' with
            | [y], _ => exact ⟨y, rfl⟩
            | [], ho' => simp at ho'
            | _ :: _ :: _, ho' => simp at ho'
        · exact ha.elim
      · exact hk.elim
    · rename_i t n ps
      split at hk
      · rename_i id
        subst hk
        refine fin ?_
        have ho' : hBuildS ⟨T, st⟩ (idOf dst) n (seOf P t) (partsH T ps.toList) = .go cnd (.own id) S1 := by
          simp only [hop, pureOp, hPure, heff] at ho; exact ho
        have hid : id = idOf dst := by
          have h2 := ho'
          unfold hBuildS at h2
          split at h2
          · split at h2
            · unfold hBuildSE at h2
              split at h2
              · unfold hBuildSF at h2
                split at h2
                · simp only [HOut.go.injEq, HV.own.injEq] at h2; exact h2.2.1.symm
                · cases h2
              · unfold hBuildSH at h2
                split at h2
                · simp only [HOut.go.injEq, HV.own.injEq] at h2; exact h2.2.1.symm
                · cases h2
            · cases h2
          · cases h2
        subst hid
        exact sound_buildSS G (agr_self _ _) ho' hc
      · exact hk.elim
    · exact hk.elim
  · exact h.elim
def ks (W : Ws) (x : HV) (a : Nat) : Nat → HV
  | 0 => x
  | n + 1 => (ks W x a n).kill (wk W (a + n))
def kk (W : Ws) (x : HV) (a M : Nat) : HV := ks W x a (M - a)
theorem kk_low (W : Ws) (x : HV) {a M : Nat} (h : M ≤ a) : kk W x a M = x := by rw [kk, show M - a = 0 by omega]; rfl
theorem kk_succ (W : Ws) (x : HV) {a M : Nat} (h : a ≤ M) : kk W x a (M + 1) = (kk W x a M).kill (wk W M) := by
  rw [kk, kk, show M + 1 - a = (M - a) + 1 by omega, ks, show a + (M - a) = M by omega]
theorem kk_rep {A : Nat → Prop} {n0 : Nat} {v : Value} {W : Ws} {x : HV} {a m : Nat} (h : RepH w A n0 ρ v (kk W x a m)) : ∀ M, m ≤ M → RepH w A n0 ρ v (kk W x a M) := by
  intro M hM
  obtain ⟨d, rfl⟩ : ∃ d, M = m + d := ⟨M - m, by omega⟩
  clear hM
  induction d with
  | zero => exact h
  | succ d ih =>
    rcases Nat.lt_or_ge (m + d) a with h1 | h1
    · rw [kk_low W x (by omega)] at ih ⊢; exact ih
    · rw [show m + (d + 1) = (m + d) + 1 by omega, kk_succ W x h1]
      exact ih.kill (fun _ _ => rfl)
theorem kk_stay {W : Ws} {x h : HV} {a m : Nat} (e : kk W x a m = h) (ha : a ≤ m) {M : Nat} (hs : ∀ q, m ≤ q → q < M → h.kill (wk W q) = h) (hM : m ≤ M) : kk W x a M = h := by
  obtain ⟨d, rfl⟩ : ∃ d, M = m + d := ⟨M - m, by omega⟩
  clear hM
  induction d with
  | zero => exact e
  | succ d ih =>
    rw [show m + (d + 1) = (m + d) + 1 by omega, kk_succ W x (by omega), ih (fun q h1 h2 => hs q h1 (by omega))]
    exact hs (m + d) (by omega) (by omega)
def FrA (ops : List Oper) (E0 : HEnv) (hs : Nat → HV) (lo : Nat → Nat) (W : Ws) (i M : Nat) (E : HEnv) : Prop := ∀ t h, hlk E t = some h →
  (∃ j, j < i ∧ dstAt ops j = some t ∧ kk W (hs j) (lo j) M = h) ∨ ((∀ j, j < i → dstAt ops j ≠ some t) ∧ ∃ h0, hlk E0 t = some h0 ∧ kk W h0 0 M = h)
structure HeadC (P : Program) (N : Nat) (ops : List Oper) (E0 : HEnv) (sts : List Store) (hs : Nat → HV) (lo : Nat → Nat) (W : Ws) (i : Nat) (o : Oper) : Prop where
  lt : dstLt N o.dst
  head : ∃ T : HEnv, (∀ t h, hlk T t = some h → t ∈ slotG (dsts ops) o.guard ++ slotsW o.op) ∧
    ((∃ q, q < W.length ∧ wAt W q = i ∧ lo i = q + 1 ∧ o.guard = none ∧ FrA ops E0 hs lo W i q T ∧ Strong P o T (sts.getD q []) (sts.getD (q + 1) []) (wk W q) (hs i)) ∨
     ((∀ q, q < W.length → wAt W q ≠ i) ∧ ∃ hi, hi ≤ W.length ∧ (hi = W.length ∨ edgeB ops (wAt W hi) i = true) ∧ (lo i = 0 ∨ edgeB ops i (wAt W (lo i - 1)) = true) ∧ lo i ≤ W.length ∧ FrA ops E0 hs lo W i hi T ∧
       ∀ m, lo i ≤ m → m ≤ hi → RunsAs P (dsts ops) o T (sts.getD m []) (hs i)))
theorem FrA.congr {ops : List Oper} {E0 E : HEnv} {hs hs' : Nat → HV} {lo : Nat → Nat} {W : Ws} {i M : Nat} (h : FrA ops E0 hs lo W i M E) (he : ∀ j, j < i → hs' j = hs j) : FrA ops E0 hs' lo W i M E := fun t x hx => by
  rcases h t x hx with ⟨j, a, b, d⟩ | r
  · exact .inl ⟨j, a, b, by rw [he j a]; exact d⟩
  · exact .inr r
theorem FrA.env {ops : List Oper} {E0 E E' : HEnv} {hs : Nat → HV} {lo : Nat → Nat} {W : Ws} {i M : Nat} (h : FrA ops E0 hs lo W i M E) (he : ∀ t x, hlk E' t = some x → hlk E t = some x) : FrA ops E0 hs lo W i M E' := fun t x hx => h t x (he t x hx)
theorem FrA.set {ops : List Oper} {E0 : HEnv} {hs : Nat → HV} {lo : Nat → Nat} {W : Ws} {i M : Nat} {S : HS} {x : HV} (h : FrA ops E0 hs lo W i M S.env) {o : Oper} (ho : ops[i]? = some o) (hx : o.dst.isSome = true → kk W (hs i) (lo i) M = x) : FrA ops E0 hs lo W (i + 1) M (S.set o.dst x).env := by
  have hd : dstAt ops i = o.dst := by unfold dstAt; rw [ho]; rfl
  intro t y hy
  cases e : o.dst with
  | none =>
    rw [e] at hy hd
    rcases h t y hy with ⟨j, a, b, d⟩ | ⟨a, b⟩
    · exact .inl ⟨j, by omega, b, d⟩
    · refine .inr ⟨fun j hj => ?_, b⟩
      by_cases ej : j = i
      · subst ej; rw [hd]; simp
      · exact a j (by omega)
  | some d =>
    rw [e] at hy hd hx
    simp only [HS.set, hlk] at hy
    by_cases et : d = t
    · rw [if_pos et] at hy
      simp only [Option.some.injEq] at hy
      subst hy
      exact .inl ⟨i, by omega, by rw [hd, et], hx rfl⟩
    · rw [if_neg et] at hy
      rcases h t y hy with ⟨j, a, b, d'⟩ | ⟨a, b⟩
      · exact .inl ⟨j, by omega, b, d'⟩
      · refine .inr ⟨fun j hj => ?_, b⟩
        by_cases ej : j = i
        · subst ej; rw [hd]; simpa using et
        · exact a j (by omega)
theorem FrA.kill {ops : List Oper} {E0 E : HEnv} {hs : Nat → HV} {lo : Nat → Nat} {W : Ws} {i M : Nat} (h : FrA ops E0 hs lo W i M E) (hlo : ∀ j, j < i → lo j ≤ M) : FrA ops E0 hs lo W i (M + 1) (ekill (wk W M) E) := fun t y hy => by
  rw [hlk_ekill] at hy
  cases hx : hlk E t with
  | none => rw [hx] at hy; cases hy
  | some x =>
    rw [hx] at hy
    simp only [Option.map_some, Option.some.injEq] at hy
    subst hy
    rcases h t x hx with ⟨j, a, b, d⟩ | ⟨a, h0, b, d⟩
    · exact .inl ⟨j, a, b, by rw [kk_succ W _ (hlo j a), d]⟩
    · exact .inr ⟨a, h0, b, by rw [kk_succ W _ (Nat.zero_le _), d]⟩
theorem stays_at : ∀ {Wx : Ws} {T : HEnv}, stays Wx T → ∀ q, q < Wx.length → ∀ t h, hlk T t = some h → h.kill (wk Wx q) = h
  | [], _, _, q, hq => by simp at hq
  | (a, k) :: r, T, ⟨h1, h2⟩, q, hq => fun t h hh => by
    cases q with
    | zero =>
      have := hlk_ekill (kf k) T t
      rw [h1, hh] at this
      simp only [Option.map_some, Option.some.injEq] at this
      exact this.symm
    | succ q => exact stays_at h2 q (by simpa using hq) t h hh
theorem wk_app (Wd Wr : Ws) (q : Nat) (h : Wd.length ≤ q) : wk (Wd ++ Wr) q = wk Wr (q - Wd.length) := by
  unfold wk; rw [List.getD_eq_getElem?_getD, List.getElem?_append_right h, ← List.getD_eq_getElem?_getD]
theorem wk_left (Wd Wr : Ws) (q : Nat) (h : q < Wd.length) : wk (Wd ++ Wr) q = wk Wd q := by
  unfold wk; rw [List.getD_eq_getElem?_getD, List.getElem?_append_left h, ← List.getD_eq_getElem?_getD]
theorem wAt_app (Wd Wr : Ws) (q : Nat) (h : Wd.length ≤ q) : wAt (Wd ++ Wr) q = wAt Wr (q - Wd.length) := by
  unfold wAt; rw [List.getD_eq_getElem?_getD, List.getElem?_append_right h, ← List.getD_eq_getElem?_getD]
theorem wk_take (W : Ws) (n q : Nat) (h : q < n) : wk (W.take n) q = wk W q := by
  unfold wk; rw [List.getD_eq_getElem?_getD, List.getElem?_take_of_lt h, ← List.getD_eq_getElem?_getD]
theorem wk_drop (W : Ws) (n q : Nat) : wk (W.drop n) q = wk W (n + q) := by
  unfold wk; rw [List.getD_eq_getElem?_getD, List.getElem?_drop, ← List.getD_eq_getElem?_getD]
def wIx : Ws → Nat → Option Nat
  | [], _ => none
  | (a, _) :: r, i => if a = i then some 0 else (wIx r i).map (· + 1)
def loF (W : Ws) (rg : Rg) (i : Nat) : Nat := match wIx W i with
  | some q => q + 1
  | none => match rgOf rg i with
    | some (lo, _) => lo
    | none => 0
theorem wIx_none {W : Ws} {i : Nat} (h : ∀ q, q < W.length → wAt W q ≠ i) : wIx W i = none := by
  induction W with
  | nil => rfl
  | cons a r ih =>
    obtain ⟨a, k⟩ := a
    have h0 : a ≠ i := h 0 (by simp)
    rw [wIx, if_neg h0, ih fun q hq => by have := h (q + 1) (by simpa using hq); exact this]
    rfl
theorem wIx_at {W : Ws} {i q : Nat} (hq : q < W.length) (hi : wAt W q = i) (hu : ∀ p, p < q → wAt W p ≠ i) : wIx W i = some q := by
  induction W generalizing q with
  | nil => simp at hq
  | cons a r ih =>
    obtain ⟨a, k⟩ := a
    cases q with
    | zero => have hi : a = i := hi; rw [wIx, if_pos hi]
    | succ q =>
      have h0 : a ≠ i := hu 0 (by omega)
      rw [wIx, if_neg h0, ih (q := q) (by simpa using hq) hi fun p hp => hu (p + 1) (by omega)]; rfl
structure WOk (ops : List Oper) (n : Nat) (W : Ws) (rg : Rg) : Prop where
  lt : ∀ q, q < W.length → wAt W q < n
  up : ∀ q, q + 1 < W.length → wAt W q < wAt W (q + 1) ∧ edgeB ops (wAt W (q + 1)) (wAt W q) = true
  rg : ∀ i lo hi, i < n → rgOf rg i = some (lo, hi) → lo ≤ hi ∧ hi ≤ W.length ∧ (lo = 0 ∨ edgeB ops i (wAt W (lo - 1)) = true) ∧ (hi = W.length ∨ edgeB ops (wAt W hi) i = true)
theorem wchk_spec {ops : List Oper} {n : Nat} {W : Ws} {rg : Rg} (h : wchk ops n W rg = true) : WOk ops n W rg := by
  simp only [wchk, Bool.and_eq_true, List.all_eq_true, List.mem_range, decide_eq_true_eq, Bool.or_eq_true, beq_iff_eq] at h
  obtain ⟨h1, h2⟩ := h
  refine ⟨fun q hq => (h1 q hq).1, fun q hq => ?_, fun i lo hi hi' e => ?_⟩
  · have := (h1 (q + 1) hq).2
    simp only [Nat.add_sub_cancel] at this
    rcases this with h | h
    · omega
    · exact h
  · have := h2 i hi'
    rw [e] at this
    simp only [Bool.and_eq_true, decide_eq_true_eq, Bool.or_eq_true, beq_iff_eq] at this
    obtain ⟨⟨⟨a, b⟩, d⟩, f⟩ := this
    exact ⟨a, b, d, f⟩
theorem WOk.mono {ops : List Oper} {n : Nat} {W : Ws} {rg : Rg} (h : WOk ops n W rg) : ∀ {q p : Nat}, p < q → q < W.length → wAt W p < wAt W q := by
  intro q
  induction q with
  | zero => intro p h1; omega
  | succ q ih =>
    intro p h1 h2
    have := (h.up q h2).1
    rcases Nat.lt_or_ge p q with h3 | h3
    · have := ih h3 (by omega); omega
    · rw [show p = q by omega]; exact this
theorem HAll_at {ds : List (Option Nat)} {sts : List Store} {o : Oper} {E T E' : HEnv} : ∀ {n a : Nat}, HAll P N ds sts o E T E' a n → ∀ m, a ≤ m → m < a + n → HStepR P N o ⟨E, sts.getD m []⟩ ⟨T, sts.getD m []⟩ (fun S'' => S''.env = E') (hG T ds o.guard)
  | 0, a, _, m, h1, h2 => by omega
  | n + 1, a, ⟨h, h'⟩, m, h1, h2 => by
    rcases Nat.lt_or_ge a m with h3 | h3
    · exact HAll_at h' m h3 (by omega)
    · rw [show m = a by omega]; exact h
theorem HVc_heads {ops : List Oper} {n : Nat} {E0 : HEnv} {sts : List Store} {W : Ws} {rg : Rg} {K : HEnv → Prop} (hw : WOk ops n W rg) : ∀ (rest : List Oper) (i m : Nat) (Wd Wr : Ws) (E : HEnv) (hs0 : Nat → HV), m = Wd.length → W = Wd ++ Wr → (∀ k o, rest[k]? = some o → ops[i + k]? = some o) → i + rest.length ≤ n →
    (∀ q, q < W.length → (wAt W q < i ↔ q < m)) → FrA ops E0 hs0 (loF W rg) W i m E → (∀ j, j < i → loF W rg j ≤ m) → HVc P N (dsts ops) sts rg K rest i m Wd Wr E →
    ∃ hs, (∀ j, j < i → hs j = hs0 j) ∧ (∀ k o, rest[k]? = some o → HeadC P N ops E0 sts hs (loF W rg) W (i + k) o) ∧ ∃ E', FrA ops E0 hs (loF W rg) W (i + rest.length) W.length E' ∧ K E'
  | [], i, m, Wd, Wr, E, hs0, hm, hW, hops, hn, hpos, F, hlo, h => by
    obtain ⟨rfl, hK⟩ := h
    rw [List.append_nil] at hW
    subst hW
    exact ⟨hs0, fun _ _ => rfl, fun k o hk => by simp at hk, E, by rw [hm] at F; exact F, hK⟩
  | o :: rest, i, m, Wd, Wr, E, hs0, hm, hW, hops, hn, hpos, F, hlo, h => by
    have hoi : ops[i]? = some o := hops 0 o (by simp)
    have hmW : m ≤ W.length := by rw [hW, List.length_append]; omega
    rw [List.length_cons] at hn
    rw [HVc] at h
    -- what follows, with head i's value x
    have key : ∀ (x : HV) (m' : Nat) (Wd' Wr' : Ws) (E' : HEnv), m' = Wd'.length → W = Wd' ++ Wr' → (∀ q, q < W.length → (wAt W q < i + 1 ↔ q < m')) → m ≤ m' → loF W rg i ≤ m' →
        (∀ hs1 : Nat → HV, (∀ j, j < i → hs1 j = hs0 j) → hs1 i = x → FrA ops E0 hs1 (loF W rg) W (i + 1) m' E') → HVc P N (dsts ops) sts rg K rest (i + 1) m' Wd' Wr' E' →
        (∀ hs1 : Nat → HV, (∀ j, j < i → hs1 j = hs0 j) → hs1 i = x → HeadC P N ops E0 sts hs1 (loF W rg) W i o) →
        ∃ hs, (∀ j, j < i → hs j = hs0 j) ∧ (∀ k o', (o :: rest)[k]? = some o' → HeadC P N ops E0 sts hs (loF W rg) W (i + k) o') ∧ ∃ E', FrA ops E0 hs (loF W rg) W (i + (o :: rest).length) W.length E' ∧ K E' := by
      intro x m' Wd' Wr' E' hm' hW' hpos' hmm hli hF hK hH
      let hs1 : Nat → HV := fun j => if j = i then x else hs0 j
      have e1 : hs1 i = x := if_pos rfl
      have e2 : ∀ j, j < i → hs1 j = hs0 j := fun j hj => if_neg (by omega)
      obtain ⟨hs, a, b, E2, f, g⟩ := HVc_heads hw rest (i + 1) m' Wd' Wr' E' hs1 hm' hW' (fun k o' hk => by
        have := hops (k + 1) o' (by simpa using hk)
        rw [show i + 1 + k = i + (k + 1) by omega]; exact this) (by omega) hpos' (hF hs1 e2 e1) (fun j hj => by
          rcases Nat.lt_or_ge j i with h | h
          · have := hlo j h; omega
          · rw [show j = i by omega]; exact hli) hK
      have ei : hs i = x := by rw [a i (by omega), e1]
      have ej : ∀ j, j < i → hs j = hs0 j := fun j hj => by rw [a j (by omega), e2 j hj]
      refine ⟨hs, ej, fun k o' hk => ?_, E2, ?_, g⟩
      · cases k with
        | zero =>
          simp only [List.getElem?_cons_zero, Option.some.injEq] at hk
          subst hk
          exact hH hs ej ei
        | succ k =>
          have := b k o' (by simpa using hk)
          rw [show i + 1 + k = i + (k + 1) by omega] at this; exact this
      · rw [List.length_cons, show i + (rest.length + 1) = i + 1 + rest.length by omega]; exact f
    cases hnx : nextW Wr i with
    | some k =>
      rw [hnx] at h
      obtain ⟨hg, hd, h⟩ := h
      generalize hT : pickE E (slotG (dsts ops) o.guard ++ slotsW o.op) = T at h
      have TF : ∀ t x, hlk T t = some x → t ∈ slotG (dsts ops) o.guard ++ slotsW o.op ∧ hlk E t = some x := fun t x hx => by subst hT; exact pickE_get hx
      obtain ⟨Wr', rfl⟩ : ∃ Wr', Wr = (i, k) :: Wr' := by
        cases Wr with
        | nil => cases hnx
        | cons p r =>
          obtain ⟨a, k'⟩ := p
          simp only [nextW] at hnx
          cases hb : a == i with
          | true =>
            rw [hb, cond_true] at hnx
            rw [beq_iff_eq] at hb
            subst hb; cases hnx; exact ⟨r, rfl⟩
          | false => rw [hb, cond_false] at hnx; cases hnx
      have hq : m < W.length := by rw [hW, List.length_append, List.length_cons]; omega
      have hat : wAt W m = i := by rw [hW, wAt_app _ _ _ (by omega), hm, Nat.sub_self]; rfl
      have hwk : wk W m = kf k := by rw [hW, wk_app _ _ _ (by omega), hm, Nat.sub_self]; rfl
      have hloi : loF W rg i = m + 1 := by
        unfold loF
        rw [wIx_at hq hat fun p hp e => by have := (hpos p (by omega)).2 hp; omega]
      obtain ⟨x, hK, hS⟩ := strong_of h
      refine key x (m + 1) (Wd ++ [(i, k)]) Wr' _ (by simp [hm]) (by rw [hW]; simp) (fun q hq' => ?_) (by omega) (by omega) (fun hs1 e2 e1 => ?_) hK (fun hs1 e2 e1 => ?_)
      · constructor
        · intro h1
          rcases Nat.lt_or_ge q (m + 1) with h2 | h2
          · exact h2
          · have := hw.mono (show m < q by omega) hq'; omega
        · intro h1
          rcases Nat.lt_or_ge q m with h2 | h2
          · have := (hpos q hq').2 h2; omega
          · rw [show q = m by omega, hat]; omega
      · have F1 := (F.congr e2).kill hlo
        rw [hwk] at F1
        exact FrA.set (S := ⟨ekill (kf k) E, []⟩) F1 hoi (fun _ => by rw [e1, hloi, kk_low W x (Nat.le_refl _)])
      · refine ⟨dstOk_lt hd, T, fun t x hx => (TF t x hx).1, .inl ⟨m, hq, hat, hloi, hg, ((F.congr e2).env fun t x hx => (TF t x hx).2), ?_⟩⟩
        rw [e1, hwk]; exact hS
    | none =>
      rw [hnx] at h
      generalize hT : pickE E (slotG (dsts ops) o.guard ++ slotsOf o.op) = T at h
      have TF : ∀ t x, hlk T t = some x → t ∈ slotG (dsts ops) o.guard ++ slotsW o.op ∧ hlk E t = some x := fun t x hx => by
        subst hT
        obtain ⟨a, b⟩ := pickE_get hx
        refine ⟨?_, b⟩
        rcases List.mem_append.1 a with a | a
        · exact List.mem_append.2 (.inl a)
        · exact List.mem_append.2 (.inr (slotsW_of a))
      have hno : ∀ q, q < W.length → wAt W q ≠ i := by
        intro q hq e
        have h1 : ¬ q < m := fun h => by have := (hpos q hq).2 h; omega
        have h2 : m < W.length := by omega
        have h3 : wAt W m ≤ i := by
          rcases Nat.lt_or_ge m q with h | h
          · have := hw.mono h hq; omega
          · rw [show m = q by omega]; omega
        have h4 : ¬ wAt W m < i := fun h => by have := (hpos m h2).1 h; omega
        have h5 : wAt W m = i := by omega
        rw [hW, wAt_app _ _ _ (by omega), hm, Nat.sub_self] at h5
        cases Wr with
        | nil => rw [hW, List.append_nil] at h2; omega
        | cons p r =>
          obtain ⟨a, k'⟩ := p
          have h5 : a = i := h5
          subst h5
          simp [nextW] at hnx
      have hwi := wIx_none hno
      have hpos' : ∀ q, q < W.length → (wAt W q < i + 1 ↔ q < m) := fun q hq => by
        have := hno q hq
        rw [← hpos q hq]; omega
      have hWr : W.length - m = Wr.length := by rw [hW, List.length_append]; omega
      cases hr : rgOf rg i with
      | none =>
        rw [hr] at h
        obtain ⟨hst, h⟩ := h
        have hloi : loF W rg i = 0 := by unfold loF; rw [hwi, hr]
        obtain ⟨x, E1, hlt, hE1, ⟨hs', hK⟩, hrun⟩ := HStepR_head (fun t x hx => (TF t x hx).2) h
        refine key x m Wd Wr _ hm hW hpos' (Nat.le_refl _) (by omega) (fun hs1 e2 e1 => ?_) hK (fun hs1 e2 e1 => ?_)
        · refine FrA.set (S := ⟨E1, []⟩) ((F.congr e2).env fun t x hx => by rw [← hE1 t]; exact hx) hoi fun hd => ?_
          obtain ⟨d, hd⟩ := Option.isSome_iff_exists.1 hd
          rw [hd] at hs'
          rw [e1, hloi]
          exact kk_stay (m := 0) (kk_low W x (Nat.le_refl _)) (Nat.le_refl _) (fun q _ hq => by
            rw [hW, wk_left _ _ _ (by omega)]
            exact stays_at hs' q (by omega) d x (by simp [HS.set, hlk])) (Nat.zero_le _)
        · refine ⟨hlt, T, fun t x hx => (TF t x hx).1, .inr ⟨hno, W.length, Nat.le_refl _, .inl rfl, .inl hloi, by omega, fun t y hy => ?_, fun m' _ _ => by rw [e1]; exact hrun.any _⟩⟩
          have st : ∀ q, m ≤ q → q < W.length → y.kill (wk W q) = y := fun q h1 h2 => by
            rw [hW, wk_app _ _ _ (by omega)]
            exact stays_at hst _ (by omega) t y hy
          rcases F.congr e2 t y (TF t y hy).2 with ⟨j, a, b, d⟩ | ⟨a, h0, b, d⟩
          · exact .inl ⟨j, a, b, kk_stay d (hlo j a) st hmW⟩
          · exact .inr ⟨a, h0, b, kk_stay d (Nat.zero_le _) st hmW⟩
      | some p =>
        obtain ⟨lo, hi⟩ := p
        rw [hr] at h
        obtain ⟨⟨hds, hlm, hmh⟩, hst, h⟩ := h
        have hloi : loF W rg i = lo := by unfold loF; rw [hwi, hr]
        obtain ⟨q1, q2, q3, q4⟩ := hw.rg i lo hi (by omega) hr
        obtain ⟨d, hd⟩ := Option.isSome_iff_exists.1 hds
        obtain ⟨x, E1, hlt, hE1, ⟨hs', hall, hK⟩, hrun⟩ := HStepR_head (fun t x hx => (TF t x hx).2) h
        refine key x m Wd Wr _ hm hW hpos' (Nat.le_refl _) (by omega) (fun hs1 e2 e1 => ?_) hK (fun hs1 e2 e1 => ?_)
        · refine FrA.set (S := ⟨E1, sts.getD lo []⟩) ((F.congr e2).env fun t x hx => by rw [← hE1 t]; exact hx) hoi fun _ => ?_
          rw [hd] at hs'
          rw [e1, hloi]
          exact kk_stay (m := lo) (kk_low W x (Nat.le_refl _)) (Nat.le_refl _) (fun q h1 hq => by
            rw [hW, wk_left _ _ _ (by omega)]
            have := stays_at hs' (q - lo) (by rw [List.length_drop]; omega) d x (by simp [HS.set, hlk])
            rw [wk_drop, show lo + (q - lo) = q by omega] at this
            exact this) hlm
        · refine ⟨hlt, T, fun t x hx => (TF t x hx).1, .inr ⟨hno, hi, q2, q4, by rw [hloi]; exact q3, by omega, fun t y hy => ?_, fun m' h1 h2 => ?_⟩⟩
          · have st : ∀ q, m ≤ q → q < hi → y.kill (wk W q) = y := fun q h1 h2 => by
              rw [hW, wk_app _ _ _ (by omega), ← wk_take Wr (hi - m) _ (by omega)]
              exact stays_at hst _ (by rw [List.length_take]; omega) t y hy
            rcases F.congr e2 t y (TF t y hy).2 with ⟨j, a, b, d⟩ | ⟨a, h0, b, d⟩
            · exact .inl ⟨j, a, b, kk_stay d (hlo j a) st hmh⟩
            · exact .inr ⟨a, h0, b, kk_stay d (Nat.zero_le _) st hmh⟩
          · rw [e1]
            rw [hloi] at h1
            rcases Nat.lt_or_ge lo m' with h3 | h3
            · obtain ⟨x', E2, -, -, hx', hrun'⟩ := HStepR_head (fun t x hx => (TF t x hx).2) (HAll_at hall m' h3 (by omega))
              rw [hd] at hx'
              simp only [HS.set, List.cons.injEq, Prod.mk.injEq, true_and] at hx'
              rw [← hx'.1]; exact hrun'
            · rw [show m' = lo by omega]; exact hrun
theorem edge_down {keys : List Nat} {ops : List Oper} {n : Nat} (ok : RegOkW keys ops n) {j k : Nat} (e : edgeB ops j k = true) : k < j := by
  unfold edgeB at e
  split at e
  · rename_i oj hoj
    simp only [Array.any_eq_true] at e
    obtain ⟨q, hq, e⟩ := e
    simp only [Bool.and_eq_true, beq_iff_eq] at e
    have := ok.down j oj _ hoj (Array.getElem_mem hq) e.1
    omega
  · cases e
theorem HW_drwC {id : Nat} {ops : List Oper} (n : Nat) (W : Ws) (sts : List Store) (rg : Rg) (hm : P.follows .mixedOrders = true) (hok : regOkW (hkeys S.env) ops n = true) (hwk : wchk ops n W rg = true) (hs0 : sts.getD 0 [] = S.st)
    (h : ∀ K : HS → Prop, (∀ S', Q .normal S' → K S') → ∀ K1 : HS → Prop, (∀ S', HStop (HV2 P N (dsts ops) K (ops.drop n)) S' → K1 S') → HVc P N (dsts ops) sts rg (fun E => K1 ⟨E, sts.getD W.length []⟩) (ops.take n) 0 0 [] W S.env) : HW P N (.region id ops.toArray true) Q S := fun c l w I => by
  have hks : ∀ k ∈ hkeys S.env, ∃ v, lk l k = some v := fun k hk => by
    obtain ⟨x, hx⟩ := hkeys_get hk
    obtain ⟨ρ, xs, G⟩ := I
    obtain ⟨v, h1, -⟩ := G.env k x hx
    exact ⟨v, h1⟩
  refine W_keep (hkeys S.env) ?_
  have I' : Inv c S (lk (keep (hkeys S.env) l)) w := I.agree fun k x hk => keep_lk (hkeys_mem hk)
  have hkk : keysE (keep (hkeys S.env) l) = hkeys S.env := keysE_keep hks
  generalize keep (hkeys S.env) l = l' at I' hkk
  obtain ⟨ρ, xs, G⟩ := I'
  have ok := regOkW_spec hok
  have hw := wchk_spec hwk
  have hlen : (ops.take n).length = n := by rw [List.length_take]; have := ok.hn; omega
  have get_take : ∀ {i : Nat} {o : Oper}, (ops.take n)[i]? = some o → i < n ∧ ops[i]? = some o := fun {i o} h => by
    have hi := (List.getElem?_eq_some_iff.1 h).1
    rw [hlen] at hi
    rw [List.getElem?_take_of_lt hi] at h
    exact ⟨hi, h⟩
  obtain ⟨hs, -, heads, E1, F1, h1⟩ := HVc_heads (E0 := S.env) hw (ops.take n) 0 0 [] W S.env (fun _ => .junk) rfl rfl (fun k o hk => by rw [Nat.zero_add]; exact (get_take hk).2) (by rw [hlen]; omega) (fun q _ => by omega)
    (fun t x hx => .inr ⟨fun j hj => absurd hj (Nat.not_lt_zero _), x, hx, kk_low W x (Nat.le_refl _)⟩) (fun j hj => absurd hj (Nat.not_lt_zero _)) (h (Q .normal) (fun _ h => h) _ fun _ h => h)
  rw [hlen, Nat.zero_add] at F1
  have head : ∀ i o, i < n → ops[i]? = some o → HeadC P N ops S.env sts hs (loF W rg) W i o := fun i o hi ho => by
    have := heads i o (by rw [List.getElem?_take_of_lt hi]; exact ho)
    rw [Nat.zero_add] at this; exact this
  have uniq : ∀ i j t, i < n → j < n → dstAt ops i = some t → dstAt ops j = some t → i = j := by
    intro i j t hi hj h1 h2
    rcases Nat.lt_trichotomy i j with h | h | h
    · rcases ok.uniq j i hj h with e | e
      · rw [h2] at e; cases e
      · exact absurd (h2.trans h1.symm) e
    · exact h
    · rcases ok.uniq i j hi h with e | e
      · rw [h1] at e; cases e
      · exact absurd (h1.trans h2.symm) e
  have hlt : DLt N ops n := fun i t hi hd => by
    obtain ⟨o, ho, hod⟩ := dstAt_some hd
    have := (head i o hi ho).lt
    rw [hod] at this; exact this
  let Jn : (Nat → Bool) → (Nat → Value) → World → Nat → (Nat → Value) → (Nat → List Value) → Prop := fun L vs w' m ρ xs => m ≤ W.length ∧ (∀ q, q < W.length → (L (wAt W q) = true ↔ q < m)) ∧ Good c ⟨[], sts.getD m []⟩ (fun _ => none) w' ρ xs ∧
    (∀ t x, hlk S.env t = some x → ∃ v, lk l' t = some v ∧ RepH w' (c.A ρ (sts.getD m [])) c.n0 ρ v (kk W x 0 m)) ∧ (∀ j, j < n → L j = true → RepH w' (c.A ρ (sts.getD m [])) c.n0 ρ (vs j) (kk W (hs j) (loF W rg j) m))
  -- what a frame reads
  have frame : ∀ {L : Nat → Bool} {vs : Nat → Value} {w' : World} {m : Nat} {ρ : Nat → Value} {xs : Nat → List Value} {i M : Nat} {T : HEnv}, Jn L vs w' m ρ xs → i ≤ n → m ≤ M → FrA ops S.env hs (loF W rg) W i M T →
      (∀ j t x, j < i → dstAt ops j = some t → hlk T t = some x → L j = true) → Good c ⟨T, sts.getD m []⟩ (lk (envE l' ops vs i)) w' ρ xs := fun {L vs w' m ρ xs i M T} J hi hM F hL => by
    obtain ⟨-, -, GB, JE, JH⟩ := J
    refine ⟨GB.rows, GB.apart, fun k x hk => ?_, GB.kept, GB.a0⟩
    rcases F k x hk with ⟨j, a, b, d⟩ | ⟨a, h0, b, d⟩
    · refine ⟨vs j, (envE_new (l := l') (vs := vs) hlt (base := Array.replicate N undef) (by simp) b (fun q hq hne e => hne (uniq q j k hq (by omega) e b)) i hi a).1, ?_⟩
      rw [← d]
      exact kk_rep (JH j (by omega) (hL j k x a b hk)) M hM
    · obtain ⟨v, v1, v2⟩ := JE k h0 b
      refine ⟨v, by rw [(envE_old (l := l') (vs := vs) #[] k i a).1]; exact v1, ?_⟩
      rw [← d]
      exact kk_rep v2 M hM
  refine W_drawnW (hkeys S.env) n hm hkk hok hlt (J := fun L vs w' => ∃ m ρ xs, Jn L vs w' m ρ xs) ⟨0, ρ, xs, Nat.zero_le _, fun q _ => by simp, ?_, fun t x hx => ?_, fun j _ hj => by cases hj⟩ ?_ ?_
  · rw [hs0]
    have G2 := G.below (Below.refl _ _).drew
    exact ⟨G2.rows, G2.apart, fun k x hk => by simp [hlk] at hk, G2.kept, G2.a0⟩
  · obtain ⟨v, a, b⟩ := (G.below (Below.refl _ _).drew).env t x hx
    rw [hs0, kk_low W x (Nat.le_refl _)]
    exact ⟨v, a, b⟩
  · rintro i o hi ho L vs w1 ⟨m, ρ1, xs1, J⟩ hLi hE hdn
    have H := head i o hi ho
    obtain ⟨T, TS, HT⟩ := H.head
    have hTL : ∀ j t x, j < i → dstAt ops j = some t → hlk T t = some x → L j = true := fun j t x hj hd hx => hE j (by
      rcases (ok.looks i o t hi ho (looks_slotsW (TS t x hx))).1 j (by omega) hd with h | h
      · exact h.2
      · have := edge_down ok h; omega)
    have J0 := J
    obtain ⟨j1, j2, j3, j4, j5⟩ := J
    rcases HT with ⟨q, hq, hqi, hlo, hgd, FT, hS⟩ | ⟨hno, hi', hh1, hh2, hh3, hh4, FT, hrun⟩
    · have hmq : m = q := by
        have a : ¬ q < m := fun e => by have := (j2 q hq).2 e; rw [hqi, hLi] at this; cases this
        rcases Nat.eq_zero_or_pos q with e | e
        · omega
        · obtain ⟨p, rfl⟩ : ∃ p, q = p + 1 := ⟨q - 1, by omega⟩
          have e2 := (hw.up p hq).2
          rw [hqi] at e2
          have := (j2 p (by omega)).1 (hE _ e2)
          omega
      subst hmq
      have GT := frame J0 (by omega) (Nat.le_refl _) FT hTL
      refine ⟨true, by rw [hgd]; rfl, fun _ => ?_, fun e => by cases e⟩
      refine (vcOp_ok (fun x X hx => by simp [evD, hx]) (hS c _ w1 ρ1 xs1 GT)).mono fun u w2 ⟨ρ2, xs2, G2, r2, tr⟩ => ?_
      refine ⟨m + 1, ρ2, xs2, hq, fun p hp => ?_, G2, fun t x hx => ?_, fun j hj hjL => ?_⟩
      · dsimp only
        by_cases e : wAt W p = i
        · rw [if_pos e]
          have : p = m := by
            rcases Nat.lt_trichotomy p m with h | h | h
            · have := hw.mono h hq; omega
            · exact h
            · have := hw.mono h hp; omega
          simp; omega
        · rw [if_neg e, j2 p hp]
          have : p ≠ m := fun e2 => e (by rw [e2]; exact hqi)
          omega
      · obtain ⟨v, a, b⟩ := j4 t x hx
        refine ⟨v, a, ?_⟩
        rw [kk_succ W x (Nat.zero_le _)]
        exact tr _ _ b
      · dsimp only at hjL ⊢
        by_cases e : j = i
        · subst e
          rw [if_pos rfl, hlo, kk_low W _ (Nat.le_refl _)]
          exact r2
        · rw [if_neg e] at hjL ⊢
          have hle : loF W rg j ≤ m := by
            obtain ⟨oj, hoj⟩ : ∃ oj, ops[j]? = some oj := ⟨_, List.getElem?_eq_getElem (by have := ok.hn; omega)⟩
            obtain ⟨Tj, -, HTj⟩ := (head j oj hj hoj).head
            rcases HTj with ⟨q2, hq2, hqi2, hlo2, -⟩ | ⟨-, _, -, -, hh3, hh4, -⟩
            · have := (j2 q2 hq2).1 (by rw [hqi2]; exact hjL)
              omega
            · rcases hh3 with e2 | e2
              · omega
              · have h1 := hdn j _ hjL e2
                rcases Nat.eq_zero_or_pos (loF W rg j) with e3 | e3
                · omega
                · have := (j2 (loF W rg j - 1) (by omega)).1 h1
                  omega
          rw [kk_succ W _ hle]
          exact tr _ _ (j5 j hj hjL)
    · have hlm : loF W rg i ≤ m := by
        rcases hh3 with e | e
        · omega
        · have h1 := hE _ e
          rcases Nat.eq_zero_or_pos (loF W rg i) with e3 | e3
          · omega
          · have := (j2 (loF W rg i - 1) (by omega)).1 h1
            omega
      have hmh : m ≤ hi' := by
        rcases hh2 with e | e
        · omega
        · rcases Nat.lt_or_ge hi' m with h | h
          · have h1 := (j2 hi' (by omega)).2 h
            have := hdn _ _ h1 e
            rw [hLi] at this; cases this
          · exact h
      have GT := frame J0 (by omega) hmh FT hTL
      obtain ⟨b, b1, b2, b3⟩ := hrun m hlm hmh c _ w1 ρ1 xs1 GT
      have step : ∀ (u : Value) (w2 : World), RepH w2 (c.A ρ1 (sts.getD m [])) c.n0 ρ1 u (hs i) → Below w1.heap.size w1 w2 → ∃ m ρ xs, Jn (fun j => if j = i then true else L j) (fun j => if j = i then u else vs j) w2 m ρ xs := by
        intro u w2 hu hB
        refine ⟨m, ρ1, xs1, j1, fun q hq => ?_, j3.below hB, fun t x hx => ?_, fun j hj hjL => ?_⟩
        · dsimp only
          rw [if_neg (hno q hq)]; exact j2 q hq
        · obtain ⟨v, a, b⟩ := j4 t x hx
          exact ⟨v, a, b.above hB⟩
        · dsimp only at hjL ⊢
          by_cases e : j = i
          · subst e
            rw [if_pos rfl]
            exact kk_rep (m := loF W rg j) (by rw [kk_low W _ (Nat.le_refl _)]; exact hu) m hlm
          · rw [if_neg e] at hjL ⊢
            exact (j5 j hj hjL).above hB
      refine ⟨b, b1, fun hb => ?_, fun hb => ?_⟩
      · exact (vcOp_ok (fun x X hx => by simp [evD, hx]) (b2 hb)).mono fun u w2 ⟨hu, hB⟩ => step u w2 hu hB
      · refine step undef w1 ?_ (Below.refl _ _)
        rw [b3 hb]; exact .v _
  · rintro L vs w1 ⟨m, ρ1, xs1, J⟩ hall
    have hmr : m = W.length := by
      obtain ⟨j1, j2, -⟩ := J
      rcases Nat.lt_or_ge m W.length with h | h
      · have := (j2 m h).1 (hall _ (hw.lt m h)); omega
      · omega
    have G2 := frame J (Nat.le_refl _) (by omega) F1 fun j t x hj _ _ => hall j hj
    rw [hmr] at G2
    exact HW_drw.V2.mono' (HV2_VC _ _ _ _ h1 ⟨ρ1, xs1, G2⟩) fun l2 w2 h2 => h2
end
theorem HV2c_name {P : Program} {N : Nat} {ds : List (Option Nat)} {K : HS → Prop} {S S' : HS} {ops : List Oper} (a b : Nat) {ty sz : Nat} {nw : Bool} {els : List (List FV)} (hab : a ≠ b) (hb : rlk S.st b = none) (ha : rlk S.st a = some (.sl nw ty sz els)) (hs : S.name a b = S') (h : HV2s P N ds K ops S') : HV2s P N ds K ops S := fun c l w I => h c l w (hs ▸ I.name hab hb ha)
theorem HW_restS {P : Program} {N : Nat} {x : Code} {Q : HPost} {S S' : HS} (id : Nat) {ty sz : Nat} {nw : Bool} {els : List (List FV)} (hr : rlk S.st id = some (.sl nw ty sz els)) (hs : S.rest id (.lst nw els) = S') (h : HW P N x Q S') : HW P N x Q S := HW_rest id hr (by rw [hs]; exact h)
def cAt : List Nat → Code → Code
  | 0 :: r, .seq a _ => cAt r a
  | 1 :: r, .seq _ b => cAt r b
  | 2 :: r, .cond _ a _ => cAt r a
  | 3 :: r, .cond _ _ b => cAt r b
  | 4 :: r, .loop a => cAt r a
  | 5 :: r, .block _ a => cAt r a
  | _, c => c
theorem nrc {α : Sort _} {p q : α} (h : p = q) : p = q := by rw [h]
theorem nextW_nil (i : Nat) : nextW [] i = none := nrc rfl
theorem nextW_cons (a : Nat) (k : Option Nat) (r : Ws) (i : Nat) : nextW ((a, k) :: r) i = bif a == i then some k else none := nrc rfl
theorem rgOf_nil (i : Nat) : rgOf [] i = none := nrc rfl
theorem rgOf_cons (a lo hi : Nat) (r : Rg) (i : Nat) : rgOf ((a, lo, hi) :: r) i = bif a == i then some (lo, hi) else rgOf r i := nrc rfl
theorem kf_some (id : Nat) : kf (some id) = only id := nrc rfl
theorem kf_no : kf none = fun _ => false := nrc rfl
theorem stays_nil (T : HEnv) : stays [] T = True := nrc rfl
theorem stays_cons (a : Nat) (k : Option Nat) (r : Ws) (T : HEnv) : stays ((a, k) :: r) T = (ekill (kf k) T = T ∧ stays r T) := nrc rfl
theorem strongK_store (T : HEnv) (t : TypeId) (x y : Operand) (h : HV) (k : Option Nat) : strongK T (.store t x y) h k = (k = none) := nrc rfl
theorem strongK_copy (T : HEnv) (args : Array Operand) (ats : Array TypeId) (h : HV) (k : Option Nat) : strongK T (.call ⟨.builtin .copy, args, ats⟩) h k = (k = none) := nrc rfl
theorem strongK_app (T : HEnv) (args : Array Operand) (ats : Array TypeId) (id : Nat) (k : Option Nat) : strongK T (.call ⟨.builtin .append, args, ats⟩) (.own id) k = (k = some id ∧ match args.toList with | a :: _ => hev T a = some (.own id) | [] => False) := nrc rfl
theorem strongK_build (T : HEnv) (t : TypeId) (n : Nat) (ps : Array (Nat × Operand)) (id : Nat) (k : Option Nat) : strongK T (.buildSlice t n ps) (.own id) k = (k = some id) := nrc rfl
theorem hwr2_go (T : HEnv) (st' : Store) (k : Option Nat) (op : Op) (K : HV → Prop) (c : Prop) (h : HV) (S' : HS) : HWr2 T st' k op K (.go c h S') = (strongK T op h k ∧ c ∧ S'.st = st' ∧ K h) := nrc rfl
def HVcA (Wd : Ws) (R : HEnv → Prop) (S' : HS) : Prop := stays Wd (S'.env.take 1) ∧ R S'.env
def HVcB (P : Program) (N : Nat) (ds : List (Option Nat)) (sts : List Store) (Wd : Ws) (o : Oper) (E T : HEnv) (R : HEnv → Prop) (lo hi : Nat) (S' : HS) : Prop := stays (Wd.drop lo) (S'.env.take 1) ∧ HAll P N ds sts o E T S'.env (lo + 1) (hi - lo) ∧ R S'.env
def HVcE (E' : HEnv) (S' : HS) : Prop := S'.env = E'
theorem hvca_eq (Wd : Ws) (R : HEnv → Prop) (E : HEnv) (st : Store) : HVcA Wd R ⟨E, st⟩ = (stays Wd (E.take 1) ∧ R E) := nrc rfl
theorem hvcb_eq (P : Program) (N : Nat) (ds : List (Option Nat)) (sts : List Store) (Wd : Ws) (o : Oper) (E T : HEnv) (R : HEnv → Prop) (lo hi : Nat) (E' : HEnv) (st : Store) : HVcB P N ds sts Wd o E T R lo hi ⟨E', st⟩ = (stays (Wd.drop lo) (E'.take 1) ∧ HAll P N ds sts o E T E' (lo + 1) (hi - lo) ∧ R E') := nrc rfl
theorem hvce_eq (E' E : HEnv) (st : Store) : HVcE E' ⟨E, st⟩ = (E = E') := nrc rfl
theorem hall_zero (P : Program) (N : Nat) (ds : List (Option Nat)) (sts : List Store) (o : Oper) (E T E' : HEnv) (a : Nat) : HAll P N ds sts o E T E' a 0 = True := nrc rfl
theorem hall_one (P : Program) (N : Nat) (ds : List (Option Nat)) (sts : List Store) (o : Oper) (E T E' : HEnv) (a : Nat) : HAll P N ds sts o E T E' a 1 = (HStepR P N o ⟨E, sts.getD a []⟩ ⟨T, sts.getD a []⟩ (HVcE E') (hG T ds o.guard) ∧ True) := nrc rfl
theorem hall_two (P : Program) (N : Nat) (ds : List (Option Nat)) (sts : List Store) (o : Oper) (E T E' : HEnv) (a : Nat) : HAll P N ds sts o E T E' a 2 = (HStepR P N o ⟨E, sts.getD a []⟩ ⟨T, sts.getD a []⟩ (HVcE E') (hG T ds o.guard) ∧ HAll P N ds sts o E T E' (a + 1) 1) := nrc rfl
theorem hall_three (P : Program) (N : Nat) (ds : List (Option Nat)) (sts : List Store) (o : Oper) (E T E' : HEnv) (a : Nat) : HAll P N ds sts o E T E' a 3 = (HStepR P N o ⟨E, sts.getD a []⟩ ⟨T, sts.getD a []⟩ (HVcE E') (hG T ds o.guard) ∧ HAll P N ds sts o E T E' (a + 1) 2) := nrc rfl
theorem hvc1_none (P : Program) (N : Nat) (ds : List (Option Nat)) (sts : List Store) (Wd Wr : Ws) (m : Nat) (o : Oper) (E T : HEnv) (R : HEnv → Prop) : HVc1 P N ds sts Wd Wr m o E T R none = (stays Wr T ∧ HStepR P N o ⟨E, []⟩ ⟨T, []⟩ (HVcA Wd R) (hG T ds o.guard)) := nrc rfl
theorem hvc1_some (P : Program) (N : Nat) (ds : List (Option Nat)) (sts : List Store) (Wd Wr : Ws) (m : Nat) (o : Oper) (E T : HEnv) (R : HEnv → Prop) (lo hi : Nat) : HVc1 P N ds sts Wd Wr m o E T R (some (lo, hi)) = ((o.dst.isSome = true ∧ lo ≤ m ∧ m ≤ hi) ∧ stays (Wr.take (hi - m)) T ∧ HStepR P N o ⟨E, sts.getD lo []⟩ ⟨T, sts.getD lo []⟩ (HVcB P N ds sts Wd o E T R lo hi) (hG T ds o.guard)) := nrc rfl
theorem hvc_nil (P : Program) (N : Nat) (ds : List (Option Nat)) (sts : List Store) (rg : Rg) (K : HEnv → Prop) (i m : Nat) (Wd : Ws) (E : HEnv) : HVc P N ds sts rg K [] i m Wd [] E = K E := by rw [HVc]; simp
def HVcW (P : Program) (N : Nat) (ds : List (Option Nat)) (sts : List Store) (rg : Rg) (K : HEnv → Prop) (d : Option Nat) (rest : List Oper) (i m : Nat) (Wd Wr : Ws) (E : HEnv) (k : Option Nat) (h : HV) : Prop := HVc P N ds sts rg K rest (i + 1) (m + 1) (Wd ++ [(i, k)]) Wr.tail (HS.set ⟨ekill (kf k) E, []⟩ d h).env
theorem hvcw_some (P : Program) (N : Nat) (ds : List (Option Nat)) (sts : List Store) (rg : Rg) (K : HEnv → Prop) (d : Nat) (rest : List Oper) (i m : Nat) (Wd Wr : Ws) (E : HEnv) (k : Option Nat) (h : HV) : HVcW P N ds sts rg K (some d) rest i m Wd Wr E k h = HVc P N ds sts rg K rest (i + 1) (m + 1) (Wd ++ [(i, k)]) Wr.tail ((d, h) :: ekill (kf k) E) := nrc rfl
theorem hvcw_none (P : Program) (N : Nat) (ds : List (Option Nat)) (sts : List Store) (rg : Rg) (K : HEnv → Prop) (rest : List Oper) (i m : Nat) (Wd Wr : Ws) (E : HEnv) (k : Option Nat) (h : HV) : HVcW P N ds sts rg K none rest i m Wd Wr E k h = HVc P N ds sts rg K rest (i + 1) (m + 1) (Wd ++ [(i, k)]) Wr.tail (ekill (kf k) E) := nrc rfl
def HVcS (P : Program) (N : Nat) (ds : List (Option Nat)) (sts : List Store) (rg : Rg) (K : HEnv → Prop) (o : Oper) (rest : List Oper) (i m : Nat) (Wd Wr : Ws) (E T T' : HEnv) : Option (Option Nat) → Prop
  | some k => (o.guard = none ∧ dstOk N o.dst = true) ∧ HWr2 T' (sts.getD (m + 1) []) k o.op (HVcW P N ds sts rg K o.dst rest i m Wd Wr E k) (hop P ⟨T', sts.getD m []⟩ (idOf o.dst) o.op)
  | none => HVc1 P N ds sts Wd Wr m o E T (HVc P N ds sts rg K rest (i + 1) m Wd Wr) (rgOf rg i)
theorem hvcS_some (P : Program) (N : Nat) (ds : List (Option Nat)) (sts : List Store) (rg : Rg) (K : HEnv → Prop) (o : Oper) (rest : List Oper) (i m : Nat) (Wd Wr : Ws) (E T T' : HEnv) (k : Option Nat) : HVcS P N ds sts rg K o rest i m Wd Wr E T T' (some k) = ((o.guard = none ∧ dstOk N o.dst = true) ∧ HWr2 T' (sts.getD (m + 1) []) k o.op (HVcW P N ds sts rg K o.dst rest i m Wd Wr E k) (hop P ⟨T', sts.getD m []⟩ (idOf o.dst) o.op)) := nrc rfl
theorem hvcS_none (P : Program) (N : Nat) (ds : List (Option Nat)) (sts : List Store) (rg : Rg) (K : HEnv → Prop) (o : Oper) (rest : List Oper) (i m : Nat) (Wd Wr : Ws) (E T T' : HEnv) : HVcS P N ds sts rg K o rest i m Wd Wr E T T' none = HVc1 P N ds sts Wd Wr m o E T (HVc P N ds sts rg K rest (i + 1) m Wd Wr) (rgOf rg i) := nrc rfl
theorem slotsW_store (t : TypeId) (x y : Operand) : slotsW (.store t x y) = slotX x ++ slotX y := nrc rfl
theorem slotsW_call (c : Call) : slotsW (.call c) = slotsOf (.call c) := nrc rfl
theorem hvc_cons (P : Program) (N : Nat) (ds : List (Option Nat)) (sts : List Store) (rg : Rg) (K : HEnv → Prop) (o : Oper) (rest : List Oper) (i m : Nat) (Wd Wr : Ws) (E : HEnv) : HVc P N ds sts rg K (o :: rest) i m Wd Wr E = HVcS P N ds sts rg K o rest i m Wd Wr E (pickE E (slotG ds o.guard ++ slotsOf o.op)) (pickE E (slotG ds o.guard ++ slotsW o.op)) (nextW Wr i) := by
  rw [HVc]
  cases nextW Wr i with
  | none => rfl
  | some k => rw [hvcS_some, and_assoc]; rfl
end Go.Eng
