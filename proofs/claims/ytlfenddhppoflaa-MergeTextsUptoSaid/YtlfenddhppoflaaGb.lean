/- What the walk of the law stands on. -/
import Derived.Lib.AppendStr
import Derived.Test.YtlfenddhppoflaaGa
import Derived.Lib.ConvBytes
section
set_option linter.unusedSimpArgs false
set_option linter.unusedVariables false
namespace Go.Eng
open Go Go.RowKit
section
variable {lw : Env} {P : Program} {c : Ctx} {S S' : HS} {look : Nat → Option Value} {w : World} {ρ : Nat → Value} {xs : Nat → List Value} {hv : HV} {cnd : Prop}
structure Flat {α : Type} (R : Value → α → Prop) (sz : Nat) (arr : List Value) (els : List (List α)) : Prop where
  len : arr.length = els.length * sz
  wid : ∀ x ∈ els, x.length = sz
  get : ∀ i k (hi : i < els.length) (hk : k < els[i].length), ∃ u, arr[i * sz + k]? = some u ∧ u.oneCell' = true ∧ R u els[i][k]
theorem Flat.mono {α : Type} {R R' : Value → α → Prop} {sz : Nat} {arr : List Value} {els : List (List α)} (h : Flat R sz arr els) (hR : ∀ u x, R u x → R' u x) : Flat R' sz arr els :=
  ⟨h.len, h.wid, fun i k hi hk => by obtain ⟨u, a, b, d⟩ := h.get i k hi hk; exact ⟨u, a, b, hR _ _ d⟩⟩
theorem Flat.one {α : Type} {R : Value → α → Prop} {sz : Nat} {arr : List Value} {els : List (List α)} (h : Flat R sz arr els) : ∀ u ∈ arr, u.oneCell' = true := by
  intro u hu
  obtain ⟨j, hj, rfl⟩ := List.getElem_of_mem hu
  rw [h.len] at hj
  have hs : 0 < sz := by
    rcases Nat.eq_zero_or_pos sz with e | e
    · subst e; simp at hj
    · exact e
  have hi : j / sz < els.length := Nat.div_lt_of_lt_mul (by rw [Nat.mul_comm]; exact hj)
  have hk : j % sz < els[j / sz].length := by rw [h.wid _ (List.getElem_mem hi)]; exact Nat.mod_lt _ hs
  obtain ⟨u, a, b, d⟩ := h.get _ _ hi hk
  rw [show j / sz * sz + j % sz = j by rw [Nat.mul_comm]; exact Nat.div_add_mod j sz, List.getElem?_eq_getElem (by rw [h.len]; exact hj)] at a
  rw [Option.some.inj a]; exact b
theorem Flat.append {α : Type} {R : Value → α → Prop} {sz : Nat} {a b : List Value} {x y : List (List α)} (h : Flat R sz a x) (h' : Flat R sz b y) : Flat R sz (a ++ b) (x ++ y) := by
  refine ⟨by rw [List.length_append, List.length_append, h.len, h'.len, Nat.add_mul], fun z hz => ?_, fun i k hi hk => ?_⟩
  · rcases List.mem_append.1 hz with h1 | h1
    · exact h.wid z h1
    · exact h'.wid z h1
  · have hw : (x ++ y)[i].length = sz := by
      rcases List.mem_append.1 (List.getElem_mem hi) with h1 | h1
      · exact h.wid _ h1
      · exact h'.wid _ h1
    by_cases e : i < x.length
    · have hk' : k < x[i].length := by rw [List.getElem_append_left e] at hk; exact hk
      obtain ⟨u, a1, a2, a3⟩ := h.get i k e hk'
      refine ⟨u, ?_, a2, ?_⟩
      · rw [List.getElem?_append_left (by rw [h.len]; exact pos_lt e (by omega))]; exact a1
      · simp only [List.getElem_append_left e]; exact a3
    · have hi' : i - x.length < y.length := by rw [List.length_append] at hi; omega
      have hk' : k < y[i - x.length].length := by rw [List.getElem_append_right (by omega)] at hk; exact hk
      obtain ⟨u, a1, a2, a3⟩ := h'.get (i - x.length) k hi' hk'
      refine ⟨u, ?_, a2, ?_⟩
      · have hle : x.length * sz ≤ i * sz := Nat.mul_le_mul_right _ (by omega)
        rw [List.getElem?_append_right (by rw [h.len]; omega), h.len, show i * sz + k - x.length * sz = (i - x.length) * sz + k by rw [Nat.sub_mul]; omega]; exact a1
      · simp only [List.getElem_append_right (Nat.le_of_not_lt e)]; exact a3
theorem Flat.set {α : Type} {R : Value → α → Prop} {sz : Nat} {arr vs : List Value} {els : List (List α)} (h : Flat R sz arr els) {i : Nat} (hi : i < els.length) {fs : List α} (hfs : fs.length = sz) (hv : vs.length = sz) (h1 : ∀ u ∈ vs, u.oneCell' = true)
    (hr : ∀ k (a : k < vs.length) (b : k < fs.length), R vs[k] fs[k]) : Flat R sz (splice arr (i * sz) vs) (els.set i fs) := by
  have hfit : i * sz + vs.length ≤ arr.length := by
    rw [h.len]
    have : (i + 1) * sz ≤ els.length * sz := Nat.mul_le_mul_right _ hi
    rw [Nat.add_mul, Nat.one_mul] at this
    omega
  refine ⟨by rw [splice_len _ _ _ hfit, List.length_set, h.len], fun x hx => ?_, fun p q hp hq => ?_⟩
  · rcases List.mem_or_eq_of_mem_set hx with h' | rfl
    · exact h.wid x h'
    · exact hfs
  · simp only [List.length_set] at hp
    rw [splice_get _ _ _ hfit]
    by_cases e : i = p
    · subst e
      simp only [List.getElem_set_self] at hq ⊢
      rw [if_pos (by omega), show i * sz + q - i * sz = q by omega, List.getElem?_eq_getElem (by omega)]
      exact ⟨_, rfl, h1 _ (List.getElem_mem _), hr _ _ _⟩
    · simp only [List.getElem_set_ne e] at hq ⊢
      have hqs := h.wid _ (List.getElem_mem hp)
      rw [if_neg ?_]
      · exact h.get p q hp hq
      · rintro ⟨b1, b2⟩
        rcases Nat.lt_or_gt_of_ne e with hh | hh
        · have : (i + 1) * sz ≤ p * sz := Nat.mul_le_mul_right _ hh
          rw [Nat.add_mul, Nat.one_mul] at this
          omega
        · have : (p + 1) * sz ≤ i * sz := Nat.mul_le_mul_right _ hh
          rw [Nat.add_mul, Nat.one_mul] at this
          omega
theorem sl_row (G : Good c S look w ρ xs) {id e sz n : Nat} {els : List (List FV)} {l : List Value} {v' : Value} {w' : World} (hO : Own w' 0 e sz v' els.length l) (hb : Below w.heap.size w w') (hblk : ∀ b, v'.ownBlock = some b → w.heap.size ≤ b)
    (hF : Flat (RepF w (c.A ρ S.st) c.n0) sz l els) (h1 : v'.oneCell' = true) :
    InvV c ((S.kill (only id)).row id (.sl true e sz els)) (.own id) v' look w' := by
  refine ⟨_, _, G.new id (.sl true e sz els) l v' hb hblk (fun _ tr => ?_), ?_⟩
  · refine ⟨by rw [zN]; exact hO, ?_, fun b hb' => ?_⟩
    · exact ⟨hF.wid, fun i k hi hk => by obtain ⟨u, a, b, d⟩ := hF.get i k hi hk; exact ⟨u, a, b, tr _ _ d⟩⟩
    · rw [zN] at hb'
      have := hblk b hb'
      have := G.kept.size
      have := c.hn
      exact ⟨.inl (by omega), fun _ => by omega⟩
  · have := RepH.own (w := w') (A := c.A (setR ρ id v') ((S.kill (only id)).row id (.sl true e sz els)).st) (n0 := c.n0) (ρ := setR ρ id v') id (by rw [zN]; exact h1)
    rw [zN] at this
    exact this
theorem Flat.map {α β : Type} {R : Value → α → Prop} {R' : Value → β → Prop} {f : α → β} {sz : Nat} {arr : List Value} {els : List (List α)} (h : Flat R sz arr els) (hR : ∀ u x, R u x → R' u (f x)) : Flat R' sz arr (els.map (List.map f)) := by
  refine ⟨by rw [List.length_map]; exact h.len, fun x hx => ?_, fun i k hi hk => ?_⟩
  · obtain ⟨y, hy, rfl⟩ := List.mem_map.1 hx
    rw [List.length_map]; exact h.wid y hy
  · simp only [List.length_map] at hi
    simp only [List.getElem_map, List.length_map] at hk ⊢
    obtain ⟨u, a, b, d⟩ := h.get i k hi hk
    exact ⟨u, a, b, hR _ _ d⟩
theorem hl_row (G : Good c S look w ρ xs) {id e sz n : Nat} {els : List (List HV)} {l : List Value} {v' : Value} {w' : World} (hO : Own w' 0 e sz v' els.length l) (hb : Below w.heap.size w w') (hblk : ∀ b, v'.ownBlock = some b → w.heap.size ≤ b)
    (hF : Flat (RepH w (c.A ρ S.st) c.n0 ρ) sz l els) (h1 : v'.oneCell' = true) :
    InvV c ((S.kill (only id)).row id (.hl true e sz (hkl id els))) (.own id) v' look w' := by
  refine ⟨_, _, G.new id (.hl true e sz (hkl id els)) l v' hb hblk (fun tr _ => ?_), ?_⟩
  · refine ⟨by rw [zN]; simp only [Row.ty, Row.sz, Row.len, hkl, List.length_map]; exact hO, ?_, fun b hb' => ?_⟩
    · have := hF.map (f := HV.kill (only id)) tr
      exact ⟨this.wid, this.get⟩
    · rw [zN] at hb'
      have := hblk b hb'
      have := G.kept.size
      have := c.hn
      exact ⟨.inl (by omega), fun _ => by omega⟩
  · have := RepH.own (w := w') (A := c.A (setR ρ id v') ((S.kill (only id)).row id (.hl true e sz (hkl id els))).st) (n0 := c.n0) (ρ := setR ρ id v') id (by rw [zN]; exact h1)
    rw [zN] at this
    exact this
theorem rep_zero {R : Value → FV → Prop} {z : Array Value} {sz n : Nat} (hz : z.size = sz) (h1 : z.all (·.oneCell') = true) (hR : ∀ x, R x (.v x)) : Flat R sz (madeCells z (n * sz)).toList (List.replicate n (z.toList.map .v)) := by
  refine ⟨by simp [madeCells], fun x hx => ?_, fun i k hi hk => ?_⟩
  · rw [(List.mem_replicate.1 hx).2]; simp [hz]
  · simp only [List.length_replicate] at hi
    simp only [List.getElem_replicate, List.length_map, Array.length_toList] at hk ⊢
    have hlt := pos_lt (sz := sz) (k := k) hi (by omega)
    refine ⟨z[k], ?_, ?_, ?_⟩
    · rw [Array.getElem?_toList, Array.getElem?_eq_getElem (by simpa [madeCells] using hlt)]
      simp only [madeCells, Array.getElem_map, Array.getElem_range]
      subst hz
      rw [Nat.mul_comm, Nat.mul_add_mod, Nat.mod_eq_of_lt hk]
      simp [hk]
    · rw [Array.all_eq_true] at h1
      exact h1 k hk
    · rw [List.getElem_map, Array.getElem_toList]; exact hR _
theorem rep_zeroH {R : Value → HV → Prop} {z : Array Value} {sz n : Nat} (hz : z.size = sz) (h1 : z.all (·.oneCell') = true) (hR : ∀ x, R x (.v x)) : Flat R sz (madeCells z (n * sz)).toList (List.replicate n (z.toList.map .v)) := by
  refine ⟨by simp [madeCells], fun x hx => ?_, fun i k hi hk => ?_⟩
  · rw [(List.mem_replicate.1 hx).2]; simp [hz]
  · simp only [List.length_replicate] at hi
    simp only [List.getElem_replicate, List.length_map, Array.length_toList] at hk ⊢
    have hlt := pos_lt (sz := sz) (k := k) hi (by omega)
    refine ⟨z[k], ?_, ?_, ?_⟩
    · rw [Array.getElem?_toList, Array.getElem?_eq_getElem (by simpa [madeCells] using hlt)]
      simp only [madeCells, Array.getElem_map, Array.getElem_range]
      subst hz
      rw [Nat.mul_comm, Nat.mul_add_mod, Nat.mod_eq_of_lt hk]
      simp [hk]
    · rw [Array.all_eq_true] at h1
      exact h1 k hk
    · rw [List.getElem_map, Array.getElem_toList]; exact hR _
theorem sound_make (G : Good c S look w ρ xs) (hl : Agr S.env look lw) {id : Nat} {t ty : TypeId} {x y : Operand} (h : hMake S id (seOf P t) (hev S.env x) (hev S.env y) = .go cnd hv S') (hc : cnd) :
    vcOp P lw (.makeSlice t x y) ty w (KV c S' hv look) (KV c S' hv look) := by
  unfold hMake at h
  split at h
  · rename_i e sz by' z n m hse hx hy
    split at h
    · rename_i hz
      simp only [HOut.go.injEq] at h
      obtain ⟨rfl, rfl, rfl⟩ := h
      obtain ⟨rfl, h0, hby, h63⟩ := hc
      simp only [oneAll_all, Bool.and_eq_true, beq_iff_eq] at hz
      obtain ⟨v, e1, e2⟩ := G.ev hl hx
      obtain ⟨u, f1, f2⟩ := G.ev hl hy
      have := repH_v e2
      subst this
      have := repH_v f2
      subst this
      obtain ⟨w', r1, r2, r3, r4⟩ := own_make (P := P) (w := w) hse n.toNat hby h63
      unfold vcOp
      simp only [pureOp, effOp, e1, f1]
      rw [Int.toNat_of_nonneg h0] at r1
      refine ⟨_, w', r1, sl_row G (n := n.toNat) (l := (madeCells z (n.toNat * sz)).toList) ?_ r3 (fun b hb => by simp only [Value.ownBlock, Option.some.injEq] at hb; omega) (rep_zero hz.2 hz.1 fun x => .v x) rfl⟩
      rw [List.length_replicate]
      exact ⟨r2.1, r2.2.imp _root_.id fun ⟨g, cap, cur, a, b, d⟩ => ⟨g, cap, cur, a, Nat.zero_le _, d⟩⟩
    · cases h
  · cases h
theorem lit_rep {w : World} {A : Nat → Prop} {n0 sz : Nat} : ∀ (ps : List (Nat × Value)) (hs : List (Nat × HV)) (arr : Array Value) (els out : List (List FV)) (cnd : Prop), ps.length = hs.length →
    (∀ i (h1 : i < ps.length) (h2 : i < hs.length), ps[i].1 = hs[i].1 ∧ RepH w A n0 ρ ps[i].2 hs[i].2) → Flat (RepF w A n0) sz arr.toList els → hlit sz els hs = some (cnd, out) → cnd →
    ∃ arr', Instr.fill (fun i => some (i * sz, sz)) arr ps = some arr' ∧ Flat (RepF w A n0) sz arr'.toList out ∧ out.length = els.length
  | [], [], arr, els, out, cnd, _, _, hp, h, hc => by
    simp only [hlit, Option.some.injEq, Prod.mk.injEq] at h
    obtain ⟨-, rfl⟩ := h
    exact ⟨arr, rfl, hp, rfl⟩
  | (i, v) :: ps, (j, y) :: hs, arr, els, out, cnd, hl, he, hp, h, hc => by
    have e0 := he 0 (by simp) (by simp)
    simp only [List.getElem_cons_zero] at e0
    obtain ⟨rfl, hr⟩ := e0
    simp only [hlit] at h
    split at h
    · rename_i cs hcs
      split at h
      · rename_i fs hfs
        split at h
        · rename_i c' out' hf
          simp only [Option.some.injEq, Prod.mk.injEq] at h
          obtain ⟨rfl, rfl⟩ := h
          obtain ⟨⟨hn, hi⟩, hc2⟩ := hc
          obtain ⟨b1, b2, b3⟩ := cells_rep hr hcs
          obtain ⟨g1, g2⟩ := fs_len hfs
          have hlen := hp.len
          simp only [Array.length_toList] at hlen
          have hfit : i * sz + v.cells.size ≤ arr.size := by
            have : (i + 1) * sz ≤ els.length * sz := Nat.mul_le_mul_right _ hi
            rw [Nat.add_mul, Nat.one_mul] at this
            omega
          have hfo := fill_one arr (i * sz) v hfit
          have hset := hp.set hi (fs := fs) (vs := v.cells.toList) hn (by simp; omega) b2 (fun k a b => f_rep (b3 k a (by omega)) (g2 k (by omega) b))
          obtain ⟨arr', r1, r2, r3⟩ := lit_rep ps hs (Eng.splice arr.toList (i * sz) v.cells.toList).toArray (els.set i fs) out' c' (by simpa using hl) (fun i a b => by
            have := he (i + 1) (by simpa using a) (by simpa using b)
            simpa using this) (by simpa using hset) hf hc2
          refine ⟨arr', ?_, r2, by simpa using r3⟩
          simp only [Instr.fill]
          rw [if_neg (by simp; omega)]
          rw [← r1, ← hfo]
        · cases h
      · cases h
    · cases h
theorem lit_repH {w : World} {A : Nat → Prop} {n0 sz : Nat} : ∀ (ps : List (Nat × Value)) (hs : List (Nat × HV)) (arr : Array Value) (els out : List (List HV)) (cnd : Prop), ps.length = hs.length →
    (∀ i (h1 : i < ps.length) (h2 : i < hs.length), ps[i].1 = hs[i].1 ∧ RepH w A n0 ρ ps[i].2 hs[i].2) → Flat (RepH w A n0 ρ) sz arr.toList els → hlitH sz els hs = some (cnd, out) → cnd →
    ∃ arr', Instr.fill (fun i => some (i * sz, sz)) arr ps = some arr' ∧ Flat (RepH w A n0 ρ) sz arr'.toList out ∧ out.length = els.length
  | [], [], arr, els, out, cnd, _, _, hp, h, hc => by
    simp only [hlitH, Option.some.injEq, Prod.mk.injEq] at h
    obtain ⟨-, rfl⟩ := h
    exact ⟨arr, rfl, hp, rfl⟩
  | (i, v) :: ps, (j, y) :: hs, arr, els, out, cnd, hl, he, hp, h, hc => by
    have e0 := he 0 (by simp) (by simp)
    simp only [List.getElem_cons_zero] at e0
    obtain ⟨rfl, hr⟩ := e0
    simp only [hlitH] at h
    split at h
    · rename_i cs hcs
      split at h
      · rename_i c' out' hf
        simp only [Option.some.injEq, Prod.mk.injEq] at h
        obtain ⟨rfl, rfl⟩ := h
        obtain ⟨⟨hn, hi⟩, hc2⟩ := hc
        obtain ⟨b1, b2, b3⟩ := cells_rep hr hcs
        have hlen := hp.len
        simp only [Array.length_toList] at hlen
        have hfit : i * sz + v.cells.size ≤ arr.size := by
          have : (i + 1) * sz ≤ els.length * sz := Nat.mul_le_mul_right _ hi
          rw [Nat.add_mul, Nat.one_mul] at this
          omega
        have hfo := fill_one arr (i * sz) v hfit
        have hset := hp.set hi (fs := cs) (vs := v.cells.toList) hn (by simp; omega) b2 b3
        obtain ⟨arr', r1, r2, r3⟩ := lit_repH ps hs (Eng.splice arr.toList (i * sz) v.cells.toList).toArray (els.set i cs) out' c' (by simpa using hl) (fun i a b => by
          have := he (i + 1) (by simpa using a) (by simpa using b)
          simpa using this) (by simpa using hset) hf hc2
        refine ⟨arr', ?_, r2, by simpa using r3⟩
        simp only [Instr.fill]
        rw [if_neg (by simp; omega)]
        rw [← r1, ← hfo]
      · cases h
    · cases h
theorem sound_buildS (G : Good c S look w ρ xs) (hl : Agr S.env look lw) {id n : Nat} {t ty : TypeId} {ps : Array (Nat × Operand)} (h : hBuildS S id n (seOf P t) (partsH S.env ps.toList) = .go cnd hv S') (hc : cnd) :
    vcOp P lw (.buildSlice t n ps) ty w (KV c S' hv look) (KV c S' hv look) := by
  unfold hBuildS at h
  split at h
  · rename_i e sz by' z qs hse hq
    split at h
    · rename_i hz
      simp only [oneAll_all, Bool.and_eq_true, beq_iff_eq] at hz
      unfold hBuildSE at h
      split at h
      · unfold hBuildSF at h
        split at h
        · rename_i c' els hli
          simp only [HOut.go.injEq] at h
          obtain ⟨rfl, rfl, rfl⟩ := h
          obtain ⟨⟨hn1, hn2⟩, hc'⟩ := hc
          obtain ⟨vs, p1, p2, p3⟩ := G.parts hl hq
          obtain ⟨arr, f1, f2, f3⟩ := lit_rep vs qs (madeCells z (n * sz)) (List.replicate n (z.toList.map .v)) els c' p2 p3 (rep_zero hz.2 hz.1 fun x => .v x) hli hc'
          rw [List.length_replicate] at f3
          have hlen := f2.len
          rw [Array.length_toList, f3] at hlen
          obtain ⟨w', r1, r2, r3, r4⟩ := own_lit (P := P) (w := w) (parts := vs.toArray) arr hse hn1 (by simp only [maxLen]; omega) f1 hlen
          unfold vcOp
          simp only [pureOp, effOp, p1]
          refine ⟨_, w', r1, sl_row G (n := n) (l := arr.toList) ?_ r3 (fun b hb => by simp only [Value.ownBlock, Option.some.injEq] at hb; omega) f2 rfl⟩
          rw [f3]
          exact ⟨r2.1, r2.2.imp _root_.id fun ⟨g, cap, cur, a, b, d⟩ => ⟨g, cap, cur, a, Nat.zero_le _, d⟩⟩
        · cases h
      · unfold hBuildSH at h
        split at h
        · rename_i c' els hli
          simp only [HOut.go.injEq] at h
          obtain ⟨rfl, rfl, rfl⟩ := h
          obtain ⟨⟨hn1, hn2⟩, hc'⟩ := hc
          obtain ⟨vs, p1, p2, p3⟩ := G.parts hl hq
          obtain ⟨arr, f1, f2, f3⟩ := lit_repH vs qs (madeCells z (n * sz)) (List.replicate n (z.toList.map .v)) els c' p2 p3 (rep_zeroH hz.2 hz.1 fun x => .v x) hli hc'
          rw [List.length_replicate] at f3
          have hlen := f2.len
          rw [Array.length_toList, f3] at hlen
          obtain ⟨w', r1, r2, r3, r4⟩ := own_lit (P := P) (w := w) (parts := vs.toArray) arr hse hn1 (by simp only [maxLen]; omega) f1 hlen
          unfold vcOp
          simp only [pureOp, effOp, p1]
          refine ⟨_, w', r1, hl_row G (n := n) (l := arr.toList) ?_ r3 (fun b hb => by simp only [Value.ownBlock, Option.some.injEq] at hb; omega) f2 rfl⟩
          rw [f3]
          exact ⟨r2.1, r2.2.imp _root_.id fun ⟨g, cap, cur, a, b, d⟩ => ⟨g, cap, cur, a, Nat.zero_le _, d⟩⟩
        · cases h
    · cases h
  · cases h
def Together (w : World) (v : Value) (m : Nat) (news : List Value) : Prop := (∃ a cp, v = .slice (some a) m cp ∧ ∀ j u, news[j]? = some u → w.cell? (a.add j) = some u) ∨ (v = .slice none 0 0 ∧ m = 0 ∧ news = [])
theorem news_rep (G : Good c S look w ρ xs) {sz : Nat} (hsz : 0 < sz) {v : Value} {x : HV} {els : List (List FV)} (hr : RepH w (c.A ρ S.st) c.n0 ρ v x) (h : newsOf S.st sz x = some (cnd, els)) (hc : cnd) :
    ∃ news, Together w v els.length news ∧ Flat (RepF w (c.A ρ S.st) c.n0) sz news els := by
  unfold newsOf at h
  split at h
  · rename_i id
    split at h
    · rename_i nw ty s els' hrow
      simp only [Option.some.injEq, Prod.mk.injEq] at h
      obtain ⟨rfl, rfl⟩ := h
      have hs : s = sz := hc
      subst hs
      cases hr
      obtain ⟨o1, o2, o3⟩ := rows_sl G hrow
      refine ⟨xs id, ?_, o1.1, o2, o3⟩
      have hl := o1.1
      rcases o1.2 with ⟨hv, h0⟩ | ⟨g, cap, cur, hv, -, -, -⟩
      · right
        refine ⟨hv, h0, ?_⟩
        rw [h0, Nat.zero_mul] at hl
        exact List.eq_nil_of_length_eq_zero hl
      · left
        refine ⟨_, _, hv, fun j u hj => ?_⟩
        have hlt : j < (xs id).length := (List.getElem?_eq_some_iff.1 hj).1
        rw [Addr.add_lit, Nat.zero_add]
        rw [hv] at o1
        rw [World.ownsRow.cellAt o1 j (by omega), hj]
    · cases h
  · rename_i fr l
    simp only [Option.some.injEq, Prod.mk.injEq] at h
    obtain ⟨rfl, rfl⟩ := h
    cases hr with
    | lst hF =>
    cases hF with
    | lst s vals hn hcap hm hnil hs ha h1 hrr =>
    rename_i a n cap
    subst hn
    by_cases h0 : l.length = 0
    · have : l = [] := List.eq_nil_of_length_eq_zero h0
      subst this
      refine ⟨[], ?_, by simp, by simp, fun i k hi => absurd hi (by simp)⟩
      cases a with
      | none => right; exact ⟨by rw [hnil rfl]; rfl, rfl, rfl⟩
      | some a => left; exact ⟨a, cap, rfl, fun j u hj => by simp at hj⟩
    · have hss : s = sz := by
        have hx := List.getElem_mem (l := l) (n := 0) (by omega)
        rw [← hs _ hx, hc _ hx]
      subst hss
      obtain ⟨b, off, rfl, -, -, -, hcell⟩ := ha (by omega)
      refine ⟨(List.range (l.length * s)).map fun j => vals (j / s) (j % s), .inl ⟨_, _, rfl, fun j u hj => ?_⟩, by simp, hs, fun i k hi hk => ?_⟩
      · rw [List.getElem?_map] at hj
        have hlt : j < l.length * s := by
          rcases Nat.lt_or_ge j (l.length * s) with h | h
          · exact h
          · rw [List.getElem?_eq_none (by simpa using h)] at hj; cases hj
        rw [List.getElem?_range hlt] at hj
        simp only [Option.map_some, Option.some.injEq] at hj
        subst hj
        rw [Addr.add_lit]
        have := hcell (j / s) (j % s) (Nat.div_lt_of_lt_mul (by rw [Nat.mul_comm]; exact hlt)) (Nat.mod_lt _ hsz)
        rw [← this]
        congr 2
        rw [Nat.mul_comm (j / s) s, Nat.div_add_mod]
      · have hks : k < s := by rw [← hs _ (List.getElem_mem hi)]; exact hk
        refine ⟨vals i k, ?_, h1 i k hi hks, hrr i k hi hk⟩
        rw [List.getElem?_map, List.getElem?_range (pos_lt hi hks), Option.map_some]
        rw [Nat.mul_comm i s, Nat.mul_add_div hsz, Nat.mul_add_mod, Nat.div_eq_of_lt hks, Nat.mod_eq_of_lt hks, Nat.add_zero]
  · rename_i id s off n
    split at h
    · rename_i nw ty s' els' hrow
      simp only [Option.some.injEq, Prod.mk.injEq] at h
      obtain ⟨rfl, rfl⟩ := h
      obtain ⟨hs, hs'⟩ := hc
      subst hs; subst hs'
      cases hr with
      | vw _ _ _ hg hm hc' hn' hx' ha' =>
      rename_i len c0 c' q q'
      obtain ⟨o1, o2, o3⟩ := rows_sl G hrow
      obtain ⟨q2, cap2, hg2⟩ := own_shape o1
      rw [hg] at hg2
      cases hg2
      have hlen : ((els'.drop off).take n).length = n := by simp; omega
      by_cases h0 : n = 0
      · subst h0
        refine ⟨[], ?_, by simp, by simp, fun i k hi => absurd hi (by simp)⟩
        rw [hlen]
        cases q' with
        | none => right; exact ⟨by rw [hn' rfl], rfl, rfl⟩
        | some a => left; exact ⟨a, c', rfl, fun j u hj => by simp at hj⟩
      · rcases o1.2 with ⟨h3, h4⟩ | ⟨g, cap', cur, h3, hb1, hb2, h4, h5, hb3⟩
        · omega
        · rw [hg] at h3; cases h3
          obtain ⟨g', hg', rfl⟩ := ha' (by omega)
          cases hg'
          have hl := o1.1
          refine ⟨((xs id).drop (off * s')).take (n * s'), .inl ⟨_, _, by rw [hlen], fun j u hj => ?_⟩, by rw [hlen]; simp only [List.length_take, List.length_drop, hl, ← Nat.sub_mul]; exact Nat.min_eq_left (Nat.mul_le_mul_right _ (by omega)), fun x hx => o2 x (List.mem_of_mem_drop (List.mem_of_mem_take hx)), fun i k hi hk => ?_⟩
          · have hj' : j < n * s' := by
              rcases Nat.lt_or_ge j (n * s') with h | h
              · exact h
              · rw [List.getElem?_take_eq_none h] at hj; cases hj
            rw [List.getElem?_take_of_lt hj', List.getElem?_drop] at hj
            rw [Addr.add_lit]
            rw [hg] at o1
            rw [World.ownsRow.cellAt o1 _ (by rw [← hl]; exact (List.getElem?_eq_some_iff.1 hj).1), hj]
          · rw [hlen] at hi
            simp only [List.getElem_take, List.getElem_drop] at hk ⊢
            obtain ⟨u, a, b, d⟩ := o3 (off + i) k (by omega) hk
            have hks := o2 _ (List.getElem_mem (show off + i < els'.length by omega))
            refine ⟨u, ?_, b, d⟩
            rw [List.getElem?_take_of_lt (pos_lt hi (by omega)), List.getElem?_drop, ← a]
            congr 1
            rw [Nat.add_mul]; omega
    · cases h
  · simp only [Option.some.injEq, Prod.mk.injEq] at h
    obtain ⟨rfl, rfl⟩ := h
    have := repH_v hr
    subst this
    exact ⟨[], .inr ⟨rfl, rfl, rfl⟩, by simp, by simp, fun i k hi => absurd hi (by simp)⟩
  · cases h
theorem news_repH (G : Good c S look w ρ xs) {sz : Nat} (hsz : 0 < sz) {v : Value} {x : HV} {els : List (List HV)} (hr : RepH w (c.A ρ S.st) c.n0 ρ v x) (h : newsH S.st sz x = some (cnd, els)) (hc : cnd) :
    ∃ news, Together w v els.length news ∧ Flat (RepH w (c.A ρ S.st) c.n0 ρ) sz news els := by
  have low : ∀ {els' : List (List FV)} {cnd' : Prop}, newsOf S.st sz x = some (cnd', els') → cnd' → els = els'.map (List.map FV.h) → ∃ news, Together w v els.length news ∧ Flat (RepH w (c.A ρ S.st) c.n0 ρ) sz news els := by
    rintro els' cnd' hn hc' rfl
    obtain ⟨news, n1, n2⟩ := news_rep G hsz hr hn hc'
    exact ⟨news, by rw [List.length_map]; exact n1, n2.map fun u x hx => hx.h⟩
  unfold newsH at h
  split at h
  · rename_i id
    split at h
    · rename_i nw ty' s els' hrow
      simp only [Option.some.injEq, Prod.mk.injEq] at h
      obtain ⟨rfl, rfl⟩ := h
      exact low (by simp only [newsOf, hrow]) hc rfl
    · rename_i nw ty' s els' hrow
      simp only [Option.some.injEq, Prod.mk.injEq] at h
      obtain ⟨rfl, rfl⟩ := h
      have hc : s = sz := hc
      subst hc
      cases hr
      obtain ⟨o1, o2, o3⟩ := rows_hl G hrow
      have hl := o1.1
      refine ⟨xs id, ?_, hl, o2, o3⟩
      rcases o1.2 with ⟨h3, h4⟩ | ⟨g, cap', cur, h3, hb1, hb2, h4, h5, hb3⟩
      · right
        exact ⟨h3, h4, List.eq_nil_of_length_eq_zero (by rw [hl, h4, Nat.zero_mul])⟩
      · left
        rw [h3] at o1 ⊢
        refine ⟨_, _, rfl, fun j u hj => ?_⟩
        rw [Addr.add_lit, Nat.zero_add]
        rw [World.ownsRow.cellAt o1 _ (by rw [← hl]; exact (List.getElem?_eq_some_iff.1 hj).1), hj]
    · cases h
  · simp only [Option.some.injEq, Prod.mk.injEq] at h
    obtain ⟨rfl, rfl⟩ := h
    exact low rfl hc rfl
  · simp only [Option.some.injEq, Prod.mk.injEq] at h
    obtain ⟨rfl, rfl⟩ := h
    exact low rfl trivial rfl
  · cases h
theorem append_block {t ty e sz by' : Nat} {z : Array Value} {v : Value} {n : Nat} {l : List Value} (hse : seOf P t = some (e, sz, by', z)) (hz : z.size = sz) (hsz : 0 < sz) (hby0 : 0 < by') (h : Own w 0 e sz v n l)
    {x : Value} {m : Nat} {news : List Value} (hx : Together w x m news) (hl : news.length = m * sz) (h1 : ∀ u ∈ news, u.oneCell' = true) (hby : (n + m) * by' ≤ 140737488355328) :
    ∃ v' w', (Builtin.append_ #[t, t] ty #[v, x]).run P w = .ok v' w' ∧ Own w' 0 e sz v' (n + m) (l ++ news) ∧ w.grownBy w' v.ownBlock ∧ v'.oneCell' = true ∧ ∀ b, v'.ownBlock = some b → w.heap.size ≤ b ∨ v.ownBlock = some b := by
  have h63 : n + m ≤ maxLen := by
    have : n + m ≤ (n + m) * by' := Nat.le_mul_of_pos_right _ hby0
    simp only [maxLen]; omega
  obtain ⟨hu, i, u, hi, h2, h3, h4, h5⟩ := seOf_some hse
  rcases hx with ⟨a, cp, rfl, hnews⟩ | ⟨rfl, rfl, rfl⟩
  · obtain ⟨v', w', r1, r2, r3⟩ := own_append (P := P) (ty := ty) hse hz hsz h a m cp news hl hnews h1 h63 hby (Nat.zero_le _)
    obtain ⟨q, cap', hq⟩ := own_shape r2
    refine ⟨v', w', r1, r2, r3, by rw [hq]; rfl, ?_⟩
    subst h2; subst h3
    rcases h.2 with ⟨rfl, rfl⟩ | ⟨g, cap, cur, rfl, hbg, hg, hnc, hcm, hcs, htake⟩
    · by_cases hm : m = 0
      · subst hm
        have hn : news = [] := List.eq_nil_of_length_eq_zero (by simpa using hl)
        subst hn
        have : (Builtin.append_ #[t, t] ty #[.slice none 0 0, .slice (some a) 0 cp]).run P w = .ok (.slice none 0 0) w := by
          simp [Builtin.append_, run_underlying hu, sizeOf, typeInfo, hi, Builtin.lenOf, Builtin.firstCells, loadCells, loadCellsFrom]
        rw [this] at r1
        simp only [Result.ok.injEq] at r1
        rw [← r1.1]
        intro b hb; cases hb
      · have hr := run_append_nil (P := P) w t ty e i u hu hi h4 a m cp news hl hnews (by omega) (by simp only [maxLen] at h63; omega) (by have hb := hby; simp only [Nat.zero_add] at hb; omega)
        rw [hr] at r1
        simp only [Result.ok.injEq] at r1
        rw [← r1.1]
        intro b hb
        simp only [Value.ownBlock, Option.some.injEq] at hb
        left; omega
    · by_cases hroom : n + m ≤ cap
      · have hfit : n * i.size + news.length ≤ cur.size := by rw [hl, hcs, ← Nat.add_mul]; exact Nat.mul_le_mul_right _ hroom
        have hr := run_append_room (P := P) w t ty e i hu hi g n cap cur hg a m cp news hl hnews h1 hroom hfit
        rw [hr] at r1
        simp only [Result.ok.injEq] at r1
        rw [← r1.1]
        intro b hb
        right; exact hb
      · have holds : ∀ j y, l[j]? = some y → w.cell? ((⟨g, 0, none⟩ : Addr).add j) = some y := h.cells (g := g) rfl
        have hr := run_append_grow (P := P) w t ty e i u hu hi h4 ⟨g, 0, none⟩ n cap l h.1 holds a m cp news hl hnews (by omega) (by simp only [maxLen] at h63; omega) (growslice_fits (by omega) hby)
        rw [hr] at r1
        simp only [Result.ok.injEq] at r1
        rw [← r1.1]
        intro b hb
        simp only [Value.ownBlock, Option.some.injEq] at hb
        left; omega
  · have := run_append_owned_none (P := P) (w := w) 0 t ty e i sz hu hi v n l h
    obtain ⟨q, cap', hq⟩ := own_shape h
    refine ⟨v, w, this, by simpa using h, ⟨rfl, rfl, rfl, Nat.le_refl _, fun _ _ _ => rfl⟩, by rw [hq]; rfl, fun b hb => .inr hb⟩
theorem strT_some {P : Program} {ats : Array TypeId} (h : strT P ats = true) : ∃ t u e i, ats = #[t, u] ∧ P.underlying u = some .string ∧ P.underlying t = some (.slice e) ∧ P.info? e = some i ∧ i.size = 1 ∧ i.bytes = 1 ∧ i.zero = some (.int .u8 0) := by
  unfold strT at h
  split at h
  · rename_i t u hl
    have hats : ats = #[t, u] := by apply Array.toList_inj.1; rw [hl]
    subst hats
    simp only [Bool.and_eq_true] at h
    obtain ⟨h1, h2⟩ := h
    split at h1
    · rename_i hu
      split at h2
      · rename_i e he
        split at h2
        · rename_i i hi
          simp only [Bool.and_eq_true, beq_iff_eq] at h2
          obtain ⟨⟨h3, h4⟩, h5⟩ := h2
          split at h5
          · rename_i hz; exact ⟨t, u, e, i, rfl, hu, he, hi, h3, h4, hz⟩
          · cases h5
        · cases h2
      · cases h2
    · cases h1
  · cases h
theorem byteE_flat {R : Value → FV → Prop} (hR : ∀ x, R x (.v x)) (s : ByteArray) : Flat R 1 (Lib.strCells s) (byteE s) := by
  refine ⟨by simp [Lib.strCells, byteE], fun x hx => ?_, fun i k hi hk => ?_⟩
  · simp only [byteE, List.mem_map] at hx; obtain ⟨b, -, rfl⟩ := hx; rfl
  · have hk' : k < 1 := by simpa [byteE] using hk
    have : k = 0 := by omega
    subst this
    have hi' : i < s.data.toList.length := by simpa [byteE] using hi
    refine ⟨.int .u8 s.data.toList[i].toNat, by simp only [Lib.strCells, Nat.mul_one, Nat.add_zero, List.getElem?_map, List.getElem?_eq_getElem hi', Option.map_some], rfl, ?_⟩
    simp only [byteE, List.getElem_map, List.getElem_cons_zero]
    exact hR _
theorem append_str {t u e : TypeId} {i : TypeInfo} {ty : TypeId} {v : Value} {n : Nat} {l : List Value} (ht : P.underlying t = some (.slice e)) (hu : P.underlying u = some .string) (hi : P.info? e = some i) (hs1 : i.size = 1) (hby : i.bytes = 1) (hz : i.zero = some (.int .u8 0))
    (h : Own w 0 e 1 v n l) (s : ByteArray) (hb : n + s.size ≤ 140737488355328) :
    ∃ v' w', (Builtin.append_ #[t, u] ty #[v, .string s]).run P w = .ok v' w' ∧ Own w' 0 e 1 v' (n + s.size) (l ++ Lib.strCells s) ∧ w.grownBy w' v.ownBlock ∧ v'.oneCell' = true ∧ ∀ b, v'.ownBlock = some b → w.heap.size ≤ b ∨ v.ownBlock = some b := by
  have h63 : n + s.size ≤ maxLen := by simp only [maxLen]; omega
  obtain ⟨v', w', r1, r2, r3, -⟩ := Lib.run_append_own_string (P := P) w 0 t u ty e i ht hu hi hz hs1 hby v n l h s h63 hb (Nat.zero_le _)
  obtain ⟨q, cap', hq⟩ := own_shape r2
  refine ⟨v', w', r1, r2, r3, by rw [hq]; rfl, ?_⟩
  have hxl : l.length = n := by simpa using h.1
  rcases h.2 with ⟨rfl, rfl⟩ | ⟨g, cap, cur, rfl, hbg, hg, hnc, hcm, hcs, htake⟩
  · by_cases hm : s.size = 0
    · have hf := Lib.run_firstCells_string (P := P) w 1 s
      rw [hm] at hf
      have hn : Lib.strCells s = [] := List.eq_nil_of_length_eq_zero (by rw [Lib.strCells_length]; exact hm)
      have hr : (Builtin.append_ #[t, u] ty #[.slice none 0 0, .string s]).run P w = .ok (.slice none 0 0) w := by
        simp [Builtin.append_, run_underlying ht, run_underlying hu, sizeOf, typeInfo, hi, hs1, Builtin.lenOf, hm, hf]
      rw [hr] at r1
      simp only [Result.ok.injEq] at r1
      rw [← r1.1]
      intro b hb'; cases hb'
    · have hr := run_append_nil_string (P := P) w t u ty e i (.int .u8 0) ht hu hi hz s (by omega) (by omega) (by rw [hby]; omega)
      rw [hr] at r1
      simp only [Result.ok.injEq] at r1
      rw [← r1.1]
      intro b hb'
      simp only [Value.ownBlock, Option.some.injEq] at hb'
      left; omega
  · by_cases hroom : n + s.size ≤ cap
    · have hcs' : cur.size = cap := by simpa using hcs
      have hr := Lib.run_append_room_string (P := P) w t u ty e i ht hu hi hs1 g n cap cur hg s hroom (by omega)
      rw [hr] at r1
      simp only [Result.ok.injEq] at r1
      rw [← r1.1]
      intro b hb'; right; exact hb'
    · have holds : ∀ j y, l[j]? = some y → w.cell? ((⟨g, 0, none⟩ : Addr).add j) = some y := h.cells (g := g) rfl
      have hr := Lib.run_append_grow_string (P := P) w t u ty e i (.int .u8 0) ht hu hi hz ⟨g, 0, none⟩ n cap l (by rw [hs1]; simpa using hxl) holds s (by omega) (by omega) (by rw [hby]; exact growslice_fits (by omega) (by omega))
      rw [hr] at r1
      simp only [Result.ok.injEq] at r1
      rw [← r1.1]
      intro b hb'
      simp only [Value.ownBlock, Option.some.injEq] at hb'
      left; omega
theorem sound_append (G : Good c S look w ρ xs) (hl : Agr S.env look lw) {nid : Nat} {args : Array Operand} {ats : Array TypeId} {ty : TypeId} (h : hAppend S nid (ats == #[ats0 ats, ats0 ats]) (strT P ats) (seOf P (ats0 ats)) (hevs S.env args.toList) = .go cnd hv S') (hc : cnd) :
    vcOp P lw (.call ⟨.builtin .append, args, ats⟩) ty w (KV c S' hv look) (KV c S' hv look) := by
  have two : ∀ {p q : HV}, hevs S.env args.toList = some [p, q] → ∃ u v, evs lw args.toList = some [u, v] ∧ RepH w (c.A ρ S.st) c.n0 ρ u p ∧ RepH w (c.A ρ S.st) c.n0 ρ v q := by
    intro p q hpq
    obtain ⟨vs, e1, e2, e3⟩ := G.evs hl hpq
    match vs, e2 with
    | [u, v], _ => exact ⟨u, v, e1, e3 0 (by simp) (by simp), e3 1 (by simp) (by simp)⟩
  unfold hAppend at h
  split at h
  · rename_i e sz by' z id x hse hargs
    split at h
    · rename_i hs
      simp only [Bool.and_eq_true, beq_iff_eq] at hs
      obtain ⟨hats, hz⟩ := hs
      obtain ⟨u, v, e1, e2, e3⟩ := two hargs
      unfold hAppR at h
      split at h
      · rename_i nw ty' s els hrow
        split at h
        · rename_i hd
          simp only [Bool.and_eq_true, decide_eq_true_eq] at hd
          obtain ⟨rfl, rfl⟩ := hd
          unfold hAppN at h
          split at h
          · rename_i c' news hn
            simp only [HOut.go.injEq] at h
            obtain ⟨rfl, rfl, rfl⟩ := h
            obtain ⟨hc', hby, hby0, hsz⟩ := hc
            cases e2
            obtain ⟨o1, o2, o3⟩ := rows_sl G hrow
            obtain ⟨nv, v', w', r1, r2, r3, r4, r5, n2⟩ : ∃ nv v' w', (Builtin.append_ ats ty #[ρ id, v]).run P w = .ok v' w' ∧ Own w' 0 ty' s v' (els.length + news.length) (xs id ++ nv) ∧ w.grownBy w' (ρ id).ownBlock ∧ v'.oneCell' = true ∧ (∀ b, v'.ownBlock = some b → w.heap.size ≤ b ∨ (ρ id).ownBlock = some b) ∧ Flat (RepF w (c.A ρ S.st) c.n0) s nv news := by
              unfold newsA at hn
              split at hn
              · rename_i hsame
                have hats : ats = #[ats0 ats, ats0 ats] := by simpa using hsame
                obtain ⟨nv, n1, n2⟩ := news_rep G hsz e3 hn hc'
                obtain ⟨v', w', r1, r2, r3, r4, r5⟩ := append_block (P := P) (ty := ty) hse hz hsz hby0 o1 n1 n2.len n2.one hby
                exact ⟨nv, v', w', by rw [hats]; exact r1, r2, r3, r4, r5, n2⟩
              · split at hn
                · rename_i hstr
                  unfold newsS at hn
                  split at hn
                  · rename_i str
                    simp only [Option.some.injEq, Prod.mk.injEq] at hn
                    obtain ⟨-, rfl⟩ := hn
                    have := repH_v e3
                    subst this
                    obtain ⟨t, u, e', i, rfl, hu, ht, hi, hs1, hb1, hzz⟩ := strT_some hstr
                    obtain ⟨hu', i', u', hi', q2, q3, q4, q5⟩ := seOf_some hse
                    have hu' : P.underlying t = some (.slice ty') := hu'
                    rw [ht] at hu'
                    simp only [Option.some.injEq, TypeDesc.slice.injEq] at hu'
                    subst hu'
                    rw [hi] at hi'
                    simp only [Option.some.injEq] at hi'
                    subst hi'
                    have hs' : s = 1 := by omega
                    subst hs'
                    have hbl : (byteE str).length = str.size := by simp [byteE]
                    have hb2 : els.length + str.size ≤ 140737488355328 := by
                      have e1 : by' = 1 := by omega
                      rw [hbl, e1, Nat.mul_one] at hby
                      exact hby
                    obtain ⟨v', w', r1, r2, r3, r4, r5⟩ := append_str (P := P) (ty := ty) ht hu hi hs1 hb1 hzz o1 str hb2
                    exact ⟨_, v', w', r1, by rw [hbl]; exact r2, r3, r4, r5, byteE_flat (fun x => .v x) str⟩
                  · cases hn
                · cases hn
            have hF : Flat (RepF w (c.A ρ S.st) c.n0) s (xs id ++ nv) (els ++ news) := Flat.append ⟨o1.1, o2, o3⟩ n2
            unfold vcOp
            simp only [pureOp, effOp, e1, pureBuiltin]
            refine ⟨v', w', r1, setR ρ id v', _, G.put id (.sl nw ty' s (els ++ news)) (xs id ++ nv) r3.size r3.os r3.tape r3.output (ρ id).ownBlock (fun b hb => ⟨_, hrow, hb⟩) (fun b hlt hne => r3.block b hlt hne) (fun i hi => setR_ne ρ id v' i hi)
              (fun b hb => r5 b (by rw [zN] at hb; exact hb)) (fun _ tr => ?_), ?_⟩
            · refine ⟨by rw [zN]; simp only [Row.ty, Row.sz, Row.len, List.length_append]; exact r2, ?_, fun b hb => ?_⟩
              · exact ⟨hF.wid, fun i k hi hk => by obtain ⟨u, a, b, d⟩ := hF.get i k hi hk; exact ⟨u, a, b, tr _ _ d⟩⟩
              · rw [zN] at hb
                rcases r5 b hb with hge | ho
                · have := G.kept.size; have := c.hn; exact ⟨.inl (by omega), fun _ => by omega⟩
                · exact (G.rows id _ hrow).new b ho
            · have := RepH.own (w := w') (A := c.A (setR ρ id v') ((S.kill (only id)).row id (.sl nw ty' s (els ++ news))).st) (n0 := c.n0) (ρ := setR ρ id v') id (by rw [zN]; exact r4)
              rw [zN] at this
              exact this
          · cases h
        · cases h
      · rename_i nw ty' s els hrow
        split at h
        · rename_i hd
          simp only [Bool.and_eq_true, decide_eq_true_eq] at hd
          obtain ⟨hsame, rfl, rfl⟩ := hd
          unfold hAppH at h
          split at h
          · rename_i c' news hn
            simp only [HOut.go.injEq] at h
            obtain ⟨rfl, rfl, rfl⟩ := h
            obtain ⟨hc', hby, hby0, hsz⟩ := hc
            cases e2
            obtain ⟨o1, o2, o3⟩ := rows_hl G hrow
            have hats2 : ats = #[ats0 ats, ats0 ats] := by simpa using hsame
            obtain ⟨nv, n1, n2⟩ := news_repH G hsz e3 hn hc'
            obtain ⟨v', w', r1, r2, r3, r4, r5⟩ := append_block (P := P) (ty := ty) hse hz hsz hby0 o1 n1 n2.len n2.one hby
            rw [← hats2] at r1
            have hF : Flat (RepH w (c.A ρ S.st) c.n0 ρ) s (xs id ++ nv) (els ++ news) := Flat.append ⟨o1.1, o2, o3⟩ n2
            unfold vcOp
            simp only [pureOp, effOp, e1, pureBuiltin]
            refine ⟨v', w', r1, setR ρ id v', _, G.put id (.hl nw ty' s (hkl id (els ++ news))) (xs id ++ nv) r3.size r3.os r3.tape r3.output (ρ id).ownBlock (fun b hb => ⟨_, hrow, hb⟩) (fun b hlt hne => r3.block b hlt hne) (fun i hi => setR_ne ρ id v' i hi)
              (fun b hb => r5 b (by rw [zN] at hb; exact hb)) (fun tr _ => ?_), ?_⟩
            · refine ⟨by rw [zN]; simp only [Row.ty, Row.sz, Row.len, hkl, List.length_map, List.length_append]; exact r2, ?_, fun b hb => ?_⟩
              · have := hF.map (f := HV.kill (only id)) tr
                exact ⟨this.wid, this.get⟩
              · rw [zN] at hb
                rcases r5 b hb with hge | ho
                · have := G.kept.size; have := c.hn; exact ⟨.inl (by omega), fun _ => by omega⟩
                · exact (G.rows id _ hrow).new b ho
            · have := RepH.own (w := w') (A := c.A (setR ρ id v') ((S.kill (only id)).row id (.hl nw ty' s (hkl id (els ++ news)))).st) (n0 := c.n0) (ρ := setR ρ id v') id (by rw [zN]; exact r4)
              rw [zN] at this
              exact this
          · cases h
        · cases h
      · cases h
    · cases h
  · rename_i e sz by' z x hse hargs
    split at h
    · rename_i hs
      simp only [Bool.and_eq_true, beq_iff_eq] at hs
      obtain ⟨hats, hz⟩ := hs
      obtain ⟨u, v, e1, e2, e3⟩ := two hargs
      have := repH_v e2
      subst this
      unfold hAppN at h
      split at h
      · rename_i c' news hn
        simp only [HOut.go.injEq] at h
        obtain ⟨rfl, rfl, rfl⟩ := h
        obtain ⟨hc', hby, hby0, hsz⟩ := hc
        obtain ⟨nv, n1, n2⟩ := news_rep G hsz e3 hn hc'
        have o1 : Own w 0 e sz (.slice none 0 0) 0 [] := World.ownsRow_nil w 0 e sz
        obtain ⟨v', w', r1, r2, r3, r4, r5⟩ := append_block (P := P) (ty := ty) hse hz hsz hby0 o1 n1 n2.len n2.one (by simpa using hby)
        unfold vcOp
        simp only [pureOp, effOp, e1, pureBuiltin]
        rw [hats]
        refine ⟨v', w', r1, sl_row G (n := news.length) (l := nv) (els := [] ++ news) (by simpa using r2) ⟨r3.os, r3.tape, r3.output, r3.size, fun b hb => r3.block b hb (by simp [Value.ownBlock])⟩ (fun b hb => (r5 b hb).resolve_right (by simp [Value.ownBlock])) (by simpa using n2) r4⟩
      · cases h
    · cases h
  · cases h
theorem Flat.take {α : Type} {R : Value → α → Prop} {sz : Nat} {a : List Value} {x : List (List α)} (h : Flat R sz a x) (n : Nat) : Flat R sz (a.take (n * sz)) (x.take n) := by
  refine ⟨by rw [List.length_take, List.length_take, h.len]; rcases Nat.le_total n x.length with e | e
             · rw [Nat.min_eq_left e, Nat.min_eq_left (Nat.mul_le_mul_right _ e)]
             · rw [Nat.min_eq_right e, Nat.min_eq_right (Nat.mul_le_mul_right _ e)], fun z hz => h.wid z (List.mem_of_mem_take hz), fun i k hi hk => ?_⟩
  have hi' : i < n ∧ i < x.length := by rw [List.length_take] at hi; omega
  simp only [List.getElem_take] at hk ⊢
  obtain ⟨u, p, q, r⟩ := h.get i k hi'.2 hk
  have hw := h.wid _ (List.getElem_mem hi'.2)
  exact ⟨u, by rw [List.getElem?_take_of_lt (pos_lt hi'.1 (by omega))]; exact p, q, r⟩
theorem Flat.drop {α : Type} {R : Value → α → Prop} {sz : Nat} {a : List Value} {x : List (List α)} (h : Flat R sz a x) (n : Nat) : Flat R sz (a.drop (n * sz)) (x.drop n) := by
  refine ⟨by rw [List.length_drop, List.length_drop, h.len, Nat.sub_mul], fun z hz => h.wid z (List.mem_of_mem_drop hz), fun i k hi hk => ?_⟩
  have hi' : n + i < x.length := by rw [List.length_drop] at hi; omega
  simp only [List.getElem_drop] at hk ⊢
  obtain ⟨u, p, q, r⟩ := h.get (n + i) k hi' hk
  exact ⟨u, by rw [List.getElem?_drop, ← p]; congr 1; rw [Nat.add_mul]; omega, q, r⟩
theorem Flat.splice {α : Type} {R : Value → α → Prop} {sz : Nat} {a b : List Value} {x y : List (List α)} (h : Flat R sz a x) (h' : Flat R sz b y) (off : Nat) : Flat R sz (splice a (off * sz) b) (splice x off y) := by
  unfold Eng.splice
  refine Flat.append (Flat.append (h.take off) h') ?_
  rw [h'.len, ← Nat.add_mul]
  exact h.drop _
theorem sset_same {st : Store} {id : Nat} {r : Row} (hr : rlk st id = some r) (i : Nat) : rlk (sset id r st) i = rlk st i := by
  rw [rlk_sset id r _ _ hr]
  by_cases h : i = id
  · subst h; rw [if_pos rfl, hr]
  · rw [if_neg h]
theorem Good.sameA (G : Good c S look w ρ xs) {id : Nat} {r : Row} (hr : rlk S.st id = some r) : c.A ρ (sset id r S.st) = c.A ρ S.st := by
  funext b; simp only [Ctx.A, Owns, sset_same hr]
theorem Good.same (G : Good c S look w ρ xs) {id : Nat} {r : Row} (hr : rlk S.st id = some r) : Good c ⟨S.env, sset id r S.st⟩ look w ρ xs := by
  have e : ∀ i, rlk (sset id r S.st) i = rlk S.st i := fun i => by
    rw [rlk_sset id r _ _ hr]
    by_cases h : i = id
    · subst h; rw [if_pos rfl, hr]
    · rw [if_neg h]
  have eA : c.A ρ (sset id r S.st) = c.A ρ S.st := by funext b; simp only [Ctx.A, Owns, e]
  exact ⟨fun i s hi => by rw [eA]; exact G.rows i s (by rw [← e]; exact hi), fun i j s t b hne hi hj => G.apart i j s t b hne (by rw [← e]; exact hi) (by rw [← e]; exact hj), fun k x hk => by rw [eA]; exact G.env k x hk, G.kept, G.a0⟩
theorem copy_none {t ty e : TypeId} {i : TypeInfo} (hu : P.underlying t = some (.slice e)) (hi : P.info? e = some i) {a : Option Addr} {dLen dCap m : Nat} {x : Value} {news : List Value} (hx : Together w x m news) (hn : min m dLen = 0) :
    (Builtin.copy_ #[t, t] ty #[.slice a dLen dCap, x]).run P w = .ok (goInt 0) w := by
  have hn' : Nat.min m dLen = 0 := hn
  have h0 : Nat.min 0 dLen = 0 := Nat.zero_min _
  rcases hx with ⟨b, cp, rfl, -⟩ | ⟨rfl, rfl, rfl⟩
  · cases a <;> simp [Builtin.copy_, run_underlying hu, sizeOf, typeInfo, hi, Builtin.lenOf, Builtin.firstCells, loadCells, loadCellsFrom, storeCells, hn']
  · cases a <;> simp [Builtin.copy_, run_underlying hu, sizeOf, typeInfo, hi, Builtin.lenOf, Builtin.firstCells, loadCells, loadCellsFrom, storeCells, h0]
theorem copy_some {t ty e : TypeId} {i : TypeInfo} (hu : P.underlying t = some (.slice e)) (hi : P.info? e = some i) {g o dLen dCap m : Nat} {x : Value} {news : List Value} {cur : Array Value} {t' : TypeId} (hx : Together w x m news) (hl : news.length = m * i.size)
    (h1 : ∀ u ∈ news, u.oneCell' = true) (hg : Blk w g cur t') (hfit : o + min m dLen * i.size ≤ cur.size) (h0 : 0 < min m dLen) :
    (Builtin.copy_ #[t, t] ty #[.slice (some ⟨g, o, none⟩) dLen dCap, x]).run P w = .ok (goInt (min m dLen : Nat)) (w.setRow g (splice cur.toList o (news.take (min m dLen * i.size))).toArray) := by
  rcases hx with ⟨b, cp, rfl, hc⟩ | ⟨rfl, rfl, rfl⟩
  · have hlt : (news.take (min m dLen * i.size)).length = min m dLen * i.size := by
      rw [List.length_take, hl]; exact Nat.min_eq_left (Nat.mul_le_mul_right _ (Nat.min_le_left _ _))
    have r1 := run_loadCells_list (P := P) w b (news.take (min m dLen * i.size)) (fun j v hj => hc j v (by
      have : j < min m dLen * i.size := by
        rcases Nat.lt_or_ge j (min m dLen * i.size) with h | h
        · exact h
        · rw [List.getElem?_take_eq_none h] at hj; cases hj
      rw [List.getElem?_take_of_lt this] at hj; exact hj))
    have r2 := run_storeCells_at P g o t' (news.take (min m dLen * i.size)) 0 cur w hg (by rw [hlt]; simpa using hfit) (fun v hv => h1 v (List.mem_of_mem_take hv))
    rw [hlt] at r1
    have e : Nat.min m dLen = min m dLen := rfl
    simp [Builtin.copy_, run_underlying hu, sizeOf, typeInfo, hi, Builtin.lenOf, Builtin.firstCells, e, r1, r2, Eng.splice]
  · rw [Nat.zero_min] at h0; omega
abbrev KVr (c : Ctx) (S S' : HS) (hv : HV) (look : Nat → Option Value) (ρ : Nat → Value) (w : World) (v : Value) (w' : World) : Prop :=
  ∃ xs', Good c S' look w' ρ xs' ∧ RepH w' (c.A ρ S'.st) c.n0 ρ v hv ∧ ∀ u h, RepH w (c.A ρ S.st) c.n0 ρ u h → RepH w' (c.A ρ S'.st) c.n0 ρ u h
theorem sound_copyS (G : Good c S look w ρ xs) (hl : Agr S.env look lw) {args : Array Operand} {ats : Array TypeId} {ty : TypeId} (h : hCopy S (ats == #[ats0 ats, ats0 ats]) (uSlice P (ats0 ats)) (hevs S.env args.toList) = .go cnd hv S') (hc : cnd) :
    vcOp P lw (.call ⟨.builtin .copy, args, ats⟩) ty w (KVr c S S' hv look ρ w) (KVr c S S' hv look ρ w) := by
  have two : ∀ {p q : HV}, hevs S.env args.toList = some [p, q] → ∃ u v, evs lw args.toList = some [u, v] ∧ RepH w (c.A ρ S.st) c.n0 ρ u p ∧ RepH w (c.A ρ S.st) c.n0 ρ v q := by
    intro p q hpq
    obtain ⟨vs, e1, e2, e3⟩ := G.evs hl hpq
    match vs, e2 with
    | [u, v], _ => exact ⟨u, v, e1, e3 0 (by simp) (by simp), e3 1 (by simp) (by simp)⟩
  -- what is shown of the operation, from its run
  have run : ∀ {u v r : Value} {w' : World}, evs lw args.toList = some [u, v] → ats = #[ats0 ats, ats0 ats] → (Builtin.copy_ #[ats0 ats, ats0 ats] ty #[u, v]).run P w = .ok r w' → KVr c S S' hv look ρ w r w' →
      vcOp P lw (.call ⟨.builtin .copy, args, ats⟩) ty w (KVr c S S' hv look ρ w) (KVr c S S' hv look ρ w) := by
    intro u v r w' he hats hr hk
    unfold vcOp
    simp only [pureOp, he, pureBuiltin, effOp]
    have all : ∀ {l : List Operand} {vs : List Value}, evs lw l = some vs → (∀ x ∈ l, (ev lw x).isSome = true) ∧ l.map (evD lw) = vs := by
      intro l
      induction l with
      | nil => intro vs h; simp only [evs, Option.some.injEq] at h; subst h; exact ⟨by simp, rfl⟩
      | cons y l ih =>
        intro vs h
        simp only [evs] at h
        split at h
        · rename_i X hX
          split at h
          · rename_i us hus
            simp only [Option.some.injEq] at h
            subst h
            obtain ⟨i1, i2⟩ := ih hus
            refine ⟨fun z hz => ?_, by simp [i2, evD, hX]⟩
            rcases List.mem_cons.1 hz with rfl | hz
            · rw [hX]; rfl
            · exact i1 z hz
          · cases h
        · cases h
    obtain ⟨a1, a2⟩ := all he
    refine ⟨fun x hx => a1 x (by simpa [Op.operands, Call.operands] using hx), r, w', ?_, hk⟩
    have e3 : args.map (evD lw) = #[u, v] := by apply Array.toList_inj.1; rw [Array.toList_map, a2]
    simp [execOp, opOf, resolve, invoke, builtin, e3]
    rw [← hats] at hr
    rw [hr]; rfl
  have core : ∀ {id off n : Nat} {s0 : Option Nat} {nn : Option Nat} {a : Option Addr} {dl dc : Nat} {x : HV} {u v : Value}, evs lw args.toList = some [u, v] → ats = #[ats0 ats, ats0 ats] → u = .slice a n dc → RepH w (c.A ρ S.st) c.n0 ρ v x →
      (∀ nw ty' s els, rlk S.st id = some (.sl nw ty' s els) → s0.getD s = s → nn.getD els.length = n ∧ (0 < n → ∃ g m cp, ρ id = .slice (some ⟨g, 0, none⟩) m cp ∧ a = some ⟨g, off * s, none⟩)) →
      hCopyR S id off s0 nn x (uSlice P (ats0 ats)) (rlk S.st id) = .go cnd hv S' → vcOp P lw (.call ⟨.builtin .copy, args, ats⟩) ty w (KVr c S S' hv look ρ w) (KVr c S S' hv look ρ w) := by
    intro id off n s0 nn a dl dc x u v he hats hu hv' hpos h
    subst hu
    unfold hCopyR at h
    split at h
    · rename_i e sz nw ty' s els hus hrow
      split at h
      · rename_i hd
        have hd : sz = s := by simpa using hd
        subst hd
        unfold hCopyN at h
        split at h
        · rename_i c' news hn
          simp only [HOut.go.injEq] at h
          obtain ⟨rfl, rfl, rfl⟩ := h
          obtain ⟨hc', hfit, hsz, hs0⟩ := hc
          obtain ⟨p1, p2⟩ := hpos _ _ _ _ hrow hs0
          rw [p1] at hfit run ⊢
          obtain ⟨nv, n1, n2⟩ := news_rep G hsz hv' hn hc'
          obtain ⟨o1, o2, o3⟩ := rows_sl G hrow
          obtain ⟨i, hu, hi, hisz⟩ : ∃ i, P.underlying (ats0 ats) = some (.slice e) ∧ P.info? e = some i ∧ i.size = sz := by
            unfold uSlice at hus
            split at hus
            · rename_i e' hu
              cases hi : P.info? e' with
              | none => rw [hi] at hus; cases hus
              | some i => rw [hi] at hus; simp only [Option.map_some, Option.some.injEq, Prod.mk.injEq] at hus; obtain ⟨rfl, rfl⟩ := hus; exact ⟨i, hu, hi, rfl⟩
            · cases hus
          subst hisz
          by_cases h0 : min news.length n = 0
          · have e2 : news.take n = [] := by
              apply List.eq_nil_of_length_eq_zero
              rw [List.length_take, Nat.min_comm]; exact h0
            have e3 : splice els off ([] : List (List FV)) = els := by simp [Eng.splice]
            refine run he hats (copy_none hu hi n1 h0) ?_
            rw [e2, e3, h0]
            refine ⟨xs, G.same hrow, .v _, fun u h hu => ?_⟩
            have eA := G.sameA hrow
            dsimp only
            rw [eA]; exact hu
          · obtain ⟨g, m, cp, hρ, rfl⟩ := p2 (by omega)
            have o1' := o1
            obtain ⟨q, cp', hq⟩ := own_shape o1
            rw [hρ] at hq
            cases hq
            rw [hρ] at o1'
            obtain ⟨cur, hcur, hle⟩ := own_cur o1'
            have hlen := o1.1
            have hmul : off * i.size + min news.length n * i.size ≤ els.length * i.size := by rw [← Nat.add_mul]; exact Nat.mul_le_mul_right _ (by omega)
            have hfit2 : off * i.size + min news.length n * i.size ≤ cur.size := by omega
            have r := copy_some (ty := ty) (dCap := dc) hu hi n1 n2.len n2.one hcur hfit2 (by omega)
            have hB := blk_setRow hcur (splice cur.toList (off * i.size) (nv.take (min news.length n * i.size))).toArray
            have etk : nv.take (min news.length n * i.size) = nv.take (n * i.size) := by
              rcases Nat.le_total news.length n with e | e
              · rw [Nat.min_eq_left e, List.take_of_length_le (by rw [n2.len]; exact Nat.le_refl _), List.take_of_length_le (by rw [n2.len]; exact Nat.mul_le_mul_right _ e)]
              · rw [Nat.min_eq_right e]
            have hF := Flat.splice (R := RepF w (c.A ρ S.st) c.n0) ⟨hlen, o2, o3⟩ (n2.take n) off
            have hlt : (news.take n).length = min news.length n := by rw [List.length_take, Nat.min_comm]
            have hO := only_setRow w g (splice cur.toList (off * i.size) (nv.take (min news.length n * i.size))).toArray
            refine run he hats r ⟨_, G.upd id _ (.sl nw ty' i.size (splice els off (news.take n))) (splice (xs id) (off * i.size) (nv.take (n * i.size))) hO.size.symm hO.os hO.tape hO.output hrow rfl (only_fields hO (by rw [hρ]; rfl)) _ (rlk_sset id _ _ _ hrow) fun _ tr => ?_, .v _, fun u h hu => ?_⟩
            rotate_left
            · refine hu.up (Nat.le_of_eq hO.size.symm) (fun b hb hnA => hO.block b fun e => hnA (.inr ⟨id, _, hrow, by rw [hρ, e]; rfl⟩)) (fun b _ hA => ?_) (Nat.le_refl _)
              rcases hA with h0 | ⟨i2, s2, h2, h3⟩
              · exact .inl h0
              · dsimp only at h2
                rw [rlk_sset id _ _ _ hrow] at h2
                by_cases e2 : i2 = id
                · subst e2; exact .inr ⟨_, _, hrow, h3⟩
                · rw [if_neg e2] at h2; exact .inr ⟨_, _, h2, h3⟩
            have hls : (splice els off (news.take n)).length = els.length := splice_len _ _ _ (by rw [hlt]; omega)
            refine ⟨?_, ⟨hF.wid, fun p k hp hk => by obtain ⟨y, a, b, d⟩ := hF.get p k hp hk; exact ⟨y, a, b, tr _ _ d⟩⟩, (G.rows id _ hrow).new⟩
            simp only [Row.ty, Row.sz, Row.len, hls]
            rw [hρ] at o1 ⊢
            rw [etk] at hB ⊢
            refine own_splice o1 hcur hB ?_
            rw [hlen, (n2.take n).len, hlt]; exact hmul
        · cases h
      · cases h
    · cases h
  unfold hCopy at h
  split at h
  · rename_i id x hargs
    split at h
    · rename_i hs
      have hats : ats = #[ats0 ats, ats0 ats] := by simpa using hs
      obtain ⟨u, v, e1, e2, e3⟩ := two hargs
      cases e2
      rename_i h1
      cases hrow : rlk S.st id with
      | none => rw [hrow] at h; rcases hus : uSlice P (ats0 ats) with _ | ⟨e, sz⟩ <;> rw [hus] at h <;> cases h
      | some r =>
        cases r with
        | sl nw ty' s els =>
          obtain ⟨o1, o2, o3⟩ := rows_sl G hrow
          obtain ⟨q, cp, hq⟩ := own_shape o1
          refine core (dl := 0) e1 hats hq e3 (fun nw2 ty2 s2 els2 hr2 _ => ?_) h
          rw [hrow] at hr2
          cases hr2
          refine ⟨rfl, fun h0 => ?_⟩
          rcases o1.2 with ⟨h3, h4⟩ | ⟨g, cap', cur, h3, -⟩
          · omega
          · rw [hq] at h3; cases h3
            exact ⟨g, _, _, hq, by simp⟩
        | _ => rw [hrow] at h; rcases hus : uSlice P (ats0 ats) with _ | ⟨e, sz⟩ <;> rw [hus] at h <;> cases h
    · cases h
  · rename_i id s off n x hargs
    split at h
    · rename_i hs
      have hats : ats = #[ats0 ats, ats0 ats] := by simpa using hs
      obtain ⟨u, v, e1, e2, e3⟩ := two hargs
      cases e2 with
      | vw _ _ _ hg hm hc2 hn' hx' ha' =>
      rename_i len c0 c' q q'
      refine core (dl := 0) e1 hats rfl e3 (fun nw2 ty2 s2 els2 hr2 hs2 => ?_) h
      have hs2 : s = s2 := hs2
      subst hs2
      refine ⟨rfl, fun h0 => ?_⟩
      obtain ⟨o1, o2, o3⟩ := rows_sl G hr2
      have hcap : len ≤ c0 := by
        rcases o1.2 with ⟨h3, h4⟩ | ⟨g, cap', cur, h3, hb1, hb2, h4, -⟩
        · rw [hg] at h3
          injection h3 with _ f1 f2
          omega
        · rw [hg] at h3
          injection h3 with _ f1 f2
          omega
      obtain ⟨g, rfl, rfl⟩ := ha' (by omega)
      exact ⟨g, _, _, hg, rfl⟩
    · cases h
  · cases h
theorem sound_copy (G : Good c S look w ρ xs) (hl : Agr S.env look lw) {args : Array Operand} {ats : Array TypeId} {ty : TypeId} (h : hCopy S (ats == #[ats0 ats, ats0 ats]) (uSlice P (ats0 ats)) (hevs S.env args.toList) = .go cnd hv S') (hc : cnd) :
    vcOp P lw (.call ⟨.builtin .copy, args, ats⟩) ty w (KV c S' hv look) (KV c S' hv look) := by
  have := sound_copyS (ty := ty) G hl h hc
  unfold vcOp at *
  simp only [pureOp] at this ⊢
  split at this
  · exact ⟨this.1, by obtain ⟨xs', g, r, -⟩ := this.2; exact ⟨ρ, xs', g, r⟩⟩
  · exact effOp_left this (fun v w' ⟨xs', g, r, _⟩ => ⟨ρ, xs', g, r⟩) (fun v w' ⟨xs', g, r, _⟩ => ⟨ρ, xs', g, r⟩)
end
end Go.Eng
end

section
set_option linter.unusedSimpArgs false
set_option linter.unusedVariables false
namespace Go.Eng
open Go Go.RowKit

theorem evs_mono {l1 l2 : Env} (hm : ∀ x X, ev l1 x = some X → ev l2 x = some X) : ∀ {xs : List Operand} {vs : List Value}, evs l1 xs = some vs → evs l2 xs = some vs
  | [], vs, h => h
  | x :: r, vs, h => by
    simp only [evs] at h ⊢
    split at h
    · rename_i v hv
      split at h
      · rename_i us hus
        rw [hm _ _ hv, evs_mono hm hus]; exact h
      · cases h
    · cases h
theorem oInt_mono {l1 l2 : Env} (hm : ∀ x X, ev l1 x = some X → ev l2 x = some X) {o : Option Operand} {d n : Int} (h : oInt l1 o d = some n) : oInt l2 o d = some n := by
  unfold oInt at *
  cases o with
  | none => exact h
  | some x =>
    dsimp only at *
    split at h
    · rename_i k m hx; rw [hm _ _ hx]; exact h
    · cases h
theorem pureOp_mono {P : Program} {l1 l2 : Env} (hm : ∀ x X, ev l1 x = some X → ev l2 x = some X) {o : Op} {r : Prop × Value} (h : pureOp P l1 o = some r) : pureOp P l2 o = some r := by
  unfold pureOp at h ⊢
  split at h
  · split at h
    · rename_i v hv; simp only [hm _ _ hv]; exact h
    · cases h
  · split at h
    · rename_i v hv; simp only [hm _ _ hv]; exact h
    · cases h
  · split at h
    · rename_i t ht
      split at h
      · rename_i u hu
        split at h
        · rename_i v hv; simp only [hm _ _ ht, hm _ _ hu, hm _ _ hv]; exact h
        · cases h
      · cases h
    · cases h
  · split at h
    · rename_i X hX
      split at h
      · rename_i Y hY; simp only [hm _ _ hX, hm _ _ hY]; exact h
      · cases h
    · cases h
  · split at h
    · rename_i v hv; simp only [hm _ _ hv]; exact h
    · cases h
  · split at h
    · rename_i v hv; simp only [hm _ _ hv]; exact h
    · cases h
  · split at h
    · rename_i v hv; simp only [hm _ _ hv]; exact h
    · cases h
  · split at h
    · rename_i vs hv; simp only [hm _ _ hv]; exact h
    · cases h
  · split at h
    · rename_i a ha; simp only [hm _ _ ha]; exact h
    · cases h
  · split at h
    · rename_i X hX
      split at h
      · rename_i Y hY; simp only [hm _ _ hX, hm _ _ hY]; exact h
      · cases h
    · cases h
  · split at h
    · rename_i X hX
      split at h
      · rename_i Y hY; simp only [hm _ _ hX, hm _ _ hY]; exact h
      · cases h
    · cases h
  · split at h
    · rename_i X hX
      simp only [hm _ _ hX]
      unfold pureSlice at h ⊢
      split at h
      · split at h
        · rename_i a b ha hb; simp only [oInt_mono hm ha, oInt_mono hm hb]; exact h
        · cases h
      · split at h
        · rename_i a b x y ha hb hu; simp only [oInt_mono hm ha, oInt_mono hm hb, hu]; exact h
        · cases h
      · cases h
    · cases h
  · split at h
    · rename_i a ha; simp only [hm _ _ ha]; exact h
    · cases h
  · split at h
    · rename_i vs hv; simp only [evs_mono hm hv]; exact h
    · cases h
  · cases h

section
variable {lw : Env} {P : Program} {c : Ctx} {S S' : HS} {look : Nat → Option Value} {w : World} {ρ : Nat → Value} {xs : Nat → List Value} {hv : HV} {cnd : Prop}
theorem vcOp_mono {l : Env} {o : Op} {ty : TypeId} {K K' : Value → World → Prop} (h : vcOp P l o ty w K K) (hk : ∀ v w', K v w' → K' v w') : vcOp P l o ty w K' K' := by
  unfold vcOp at *
  split at h
  · exact ⟨h.1, hk _ _ h.2⟩
  · exact effOp_left h (fun v w' => hk v w') (fun v w' => hk v w')
theorem sound_eff (G : Good c S look w ρ xs) (hl : Agr S.env look lw) {id : Nat} {o : Op} {ty : TypeId} (h : heff P S id o = .go cnd hv S') (hc : cnd) : vcOp P lw o ty w (KV c S' hv look) (KV c S' hv look) := by
  unfold heff at h
  split at h
  · exact vcOp_mono (sound_move G hl (.inl rfl) h hc) fun v w' ⟨_, G', r⟩ => ⟨ρ, xs, G', r⟩
  · exact vcOp_mono (sound_move G hl (.inr rfl) h hc) fun v w' ⟨_, G', r⟩ => ⟨ρ, xs, G', r⟩
  · exact vcOp_mono (sound_pick G hl h hc) fun v w' ⟨_, G', r⟩ => ⟨ρ, xs, G', r⟩
  · exact vcOp_mono (sound_extract G hl h hc) fun v w' ⟨_, G', r⟩ => ⟨ρ, xs, G', r⟩
  · exact vcOp_mono (sound_field G hl h hc) fun v w' ⟨_, G', r⟩ => ⟨ρ, xs, G', r⟩
  · exact vcOp_mono (sound_index G hl h hc) fun v w' ⟨_, G', r⟩ => ⟨ρ, xs, G', r⟩
  · exact vcOp_mono (sound_faddr G hl h hc) fun v w' ⟨_, G', r⟩ => ⟨ρ, xs, G', r⟩
  · exact vcOp_mono (sound_nil G hl h hc) fun v w' ⟨_, G', r⟩ => ⟨ρ, xs, G', r⟩
  · exact vcOp_mono (sound_iaddr G hl h hc) fun v w' ⟨_, G', r⟩ => ⟨ρ, xs, G', r⟩
  · exact vcOp_mono (sound_slice G hl h hc) fun v w' ⟨_, G', r⟩ => ⟨ρ, xs, G', r⟩
  · exact vcOp_mono (sound_load G hl h hc) fun v w' ⟨_, G', r⟩ => ⟨ρ, xs, G', r⟩
  · exact sound_store G hl h hc
  · exact sound_alloc G hl h hc
  · exact sound_box G hl h hc
  · exact vcOp_mono (sound_build G hl h hc) fun v w' ⟨_, G', r⟩ => ⟨ρ, xs, G', r⟩
  · exact sound_buildS G hl h hc
  · exact sound_make G hl h hc
  · split at h
    · rename_i y hy; exact vcOp_mono (sound_len G hl hy h hc) fun v w' ⟨_, G', r⟩ => ⟨ρ, xs, G', r⟩
    · cases h
  · exact sound_append G hl h hc
  · exact sound_copy G hl h hc
  · unfold hCall at h; split at h <;> cases h
  · exact vcOp_mono (sound_eqp (neg := false) G hl h hc) fun v w' ⟨_, G', r⟩ => ⟨ρ, xs, G', r⟩
  · exact vcOp_mono (sound_eqp (neg := true) G hl h hc) fun v w' ⟨_, G', r⟩ => ⟨ρ, xs, G', r⟩
  · exact vcOp_mono (sound_conv G hl h hc) fun v w' ⟨_, G', r⟩ => ⟨ρ, xs, G', r⟩
  · cases h
theorem sound_hop (G : Good c S look w ρ xs) (hl : Agr S.env look lw) {id : Nat} {o : Op} {ty : TypeId} (h : hop P S id o = .go cnd hv S') (hc : cnd) : vcOp P lw o ty w (KV c S' hv look) (KV c S' hv look) := by
  unfold hop hPure at h
  split at h
  · rename_i c' v hp
    simp only [HOut.go.injEq] at h
    obtain ⟨rfl, rfl, rfl⟩ := h
    have := pureOp_mono (fun x X hx => low_leaf G hl hx) hp
    unfold vcOp
    simp only [this]
    exact ⟨hc, ρ, xs, G, .v v⟩
  · exact sound_eff G hl h hc
def Reps (w : World) (A : Nat → Prop) (n0 : Nat) (ρ : Nat → Value) (vs : List Value) (hs : List HV) : Prop := vs.length = hs.length ∧ ∀ i (h1 : i < vs.length) (h2 : i < hs.length), RepH w A n0 ρ vs[i] hs[i]
def HAt (P : Program) (f : FuncId) (args : List HV) (S : HS) (K : HV → HS → Prop) : Prop :=
  callable P f = true ∧ ∀ (c : Ctx) (look : Nat → Option Value) (w : World) (ρ : Nat → Value) (xs : Nat → List Value) (vs : List Value), Good c S look w ρ xs → Reps w (c.A ρ S.st) c.n0 ρ vs args →
    Calls P f vs.toArray w (Ret fun v w' => ∃ h S', K h S' ∧ InvV c S' h v look w')
theorem hop_call {id : Nat} {o : Op} {f : FuncId} {args : List HV} (h : hop P S id o = .call f args) : ∃ as ats, o = .call ⟨.value (.func f), as, ats⟩ ∧ hevs S.env as.toList = some args := by
  unfold hop hPure at h
  split at h
  · cases h
  · unfold heff at h
    split at h <;> try (exfalso; first
      | (unfold hMove at h; split at h <;> cases h)
      | (unfold hPick at h; split at h <;> cases h)
      | (unfold hExtract at h; (repeat' split at h) <;> cases h)
      | (unfold hField at h; (repeat' split at h) <;> cases h)
      | (unfold hIndexA at h; (repeat' split at h) <;> cases h)
      | (unfold hFAddr at h; (repeat' split at h) <;> cases h)
      | (unfold hNil at h; (repeat' split at h) <;> cases h)
      | (unfold hIAddr hIAddrR hIAddrL hIAddrP hIAddrE hIAddrV at h; (repeat' split at h) <;> cases h)
      | (unfold hSlice hSliceL hSliceR hSliceV at h; (repeat' split at h) <;> cases h)
      | (unfold hLoad hLoadR hLoadE at h; (repeat' split at h) <;> cases h)
      | (unfold hStore hStoreR hStoreS hStoreB hStoreH at h; (repeat' split at h) <;> cases h)
      | (unfold hAlloc at h; (repeat' split at h) <;> cases h)
      | (unfold hBox hBoxC at h; (repeat' split at h) <;> cases h)
      | (unfold hBuild hBuildF at h; (repeat' split at h) <;> cases h)
      | (unfold hBuildS hBuildSE hBuildSF hBuildSH at h; (repeat' split at h) <;> cases h)
      | (unfold hMake at h; (repeat' split at h) <;> cases h)
      | (unfold hLen hLenR at h; (repeat' split at h) <;> cases h)
      | (unfold hAppend hAppR hAppN hAppH at h; (repeat' split at h) <;> cases h)
      | (unfold hCopy hCopyR hCopyN at h; (repeat' split at h) <;> cases h)
      | (unfold hEq hEqL at h; (repeat' split at h) <;> cases h)
      | (unfold hConv hConvR hConvL at h; (repeat' split at h) <;> cases h)
      | cases h)
    rename_i g as ats _
    unfold hCall at h
    split at h
    · rename_i hs hhs
      simp only [HOut.call.injEq] at h
      obtain ⟨rfl, rfl⟩ := h
      exact ⟨as, ats, rfl, hhs⟩
    · cases h
theorem leafs_rep {A : Nat → Prop} {n0 : Nat} : ∀ {hs : List HV} {vs : List Value} {cs : List Value}, leafs hs = some vs → cs.length = hs.length → (∀ j (h1 : j < cs.length) (h2 : j < hs.length), RepH w A n0 ρ cs[j] hs[j]) → cs = vs
  | [], vs, cs, h, hn, _ => by
    simp only [leafs, Option.some.injEq] at h
    subst h
    exact List.eq_nil_of_length_eq_zero (by simpa using hn)
  | x :: r, vs, cs, h, hn, hr => by
    cases x <;> simp only [leafs, reduceCtorEq] at h
    split at h
    · rename_i x us hus
      simp only [Option.some.injEq] at h
      subst h
      match cs, hn with
      | u :: cs, hn =>
        have h0 := hr 0 (by simp) (by simp)
        simp only [List.getElem_cons_zero] at h0
        have := repH_v h0
        subst this
        rw [leafs_rep (cs := cs) hus (by simpa using hn) (fun j a b => by
          have := hr (j + 1) (by simpa using a) (by simpa using b)
          simpa using this)]
    · cases h
theorem hop_eqn {id : Nat} {o : Op} {t : TypeId} {x y : List Value} {neg : Bool} (h : hop P S id o = .eqn t x y neg) : ∃ a b t' hx hy, (o = .binOp (if neg then .neq else .eql) t a b t') ∧ hev S.env a = some (.agg hx) ∧ hev S.env b = some (.agg hy) ∧ leafs hx = some x ∧ leafs hy = some y := by
  unfold hop hPure at h
  split at h
  · cases h
  · unfold heff at h
    split at h <;> try (exfalso; first
      | (unfold hMove at h; split at h <;> cases h)
      | (unfold hPick at h; split at h <;> cases h)
      | (unfold hExtract at h; (repeat' split at h) <;> cases h)
      | (unfold hField at h; (repeat' split at h) <;> cases h)
      | (unfold hIndexA at h; (repeat' split at h) <;> cases h)
      | (unfold hFAddr at h; (repeat' split at h) <;> cases h)
      | (unfold hNil at h; (repeat' split at h) <;> cases h)
      | (unfold hIAddr hIAddrR hIAddrL hIAddrP hIAddrE hIAddrV at h; (repeat' split at h) <;> cases h)
      | (unfold hSlice hSliceL hSliceR hSliceV at h; (repeat' split at h) <;> cases h)
      | (unfold hLoad hLoadR hLoadE at h; (repeat' split at h) <;> cases h)
      | (unfold hStore hStoreR hStoreS hStoreB hStoreH at h; (repeat' split at h) <;> cases h)
      | (unfold hAlloc at h; (repeat' split at h) <;> cases h)
      | (unfold hBox hBoxC at h; (repeat' split at h) <;> cases h)
      | (unfold hBuild hBuildF at h; (repeat' split at h) <;> cases h)
      | (unfold hBuildS hBuildSE hBuildSF hBuildSH at h; (repeat' split at h) <;> cases h)
      | (unfold hMake at h; (repeat' split at h) <;> cases h)
      | (unfold hLen hLenR at h; (repeat' split at h) <;> cases h)
      | (unfold hAppend hAppR hAppN hAppH at h; (repeat' split at h) <;> cases h)
      | (unfold hCopy hCopyR hCopyN at h; (repeat' split at h) <;> cases h)
      | (unfold hCall at h; (repeat' split at h) <;> cases h)
      | (unfold hConv hConvR hConvL at h; (repeat' split at h) <;> cases h)
      | cases h)
    all_goals
      rename_i tt a b t' _
      unfold hEq at h
      split at h
      · rename_i hx hy ha hb
        unfold hEqL at h
        split at h
        · rename_i us vs e1 e2
          simp only [HOut.eqn.injEq] at h
          obtain ⟨rfl, rfl, rfl, rfl⟩ := h
          exact ⟨a, b, t', hx, hy, rfl, ha, hb, e1, e2⟩
        · cases h
      all_goals cases h
theorem sound_eqns (G : Good c S look w ρ xs) (hl : Agr S.env look lw) {id : Nat} {o : Op} {ty t : TypeId} {x y : List Value} {neg r : Bool} (h : hop P S id o = .eqn t x y neg) (hr : EqR P t x.toArray y.toArray r) :
    vcOp P lw o ty w (KVs c S (.v (.bool (neg ^^ r))) look ρ xs w) (KVs c S (.v (.bool (neg ^^ r))) look ρ xs w) := by
  obtain ⟨a, b, t', hx, hy, rfl, ha, hb, e1, e2⟩ := hop_eqn h
  obtain ⟨u, u1, u2⟩ := G.ev hl ha
  obtain ⟨v, v1, v2⟩ := G.ev hl hb
  cases u2 with
  | agg hn h1 hR =>
  cases v2 with
  | agg hn' h1' hR' =>
  rename_i cs ds
  have c1 : cs.toList = x := leafs_rep e1 (by simpa using hn) (fun j p q => by simpa using hR j (by simpa using p) q)
  have c2 : ds.toList = y := leafs_rep e2 (by simpa using hn') (fun j p q => by simpa using hR' j (by simpa using p) q)
  subst c1; subst c2
  simp only [Array.toArray_toList] at hr
  unfold vcOp
  cases neg with
  | false => simp only [Bool.false_eq_true, if_false, pureOp, u1, v1, pureBin, effOp, effEq]; exact ⟨r, hr, rfl, G, by cases r <;> exact .v _⟩
  | true => simp only [if_true, pureOp, u1, v1, pureBin, effOp, effEq]; exact ⟨r, hr, rfl, G, by cases r <;> exact .v _⟩
theorem sound_eqn (G : Good c S look w ρ xs) (hl : Agr S.env look lw) {id : Nat} {o : Op} {ty t : TypeId} {x y : List Value} {neg r : Bool} (h : hop P S id o = .eqn t x y neg) (hr : EqR P t x.toArray y.toArray r) :
    vcOp P lw o ty w (KV c S (.v (.bool (neg ^^ r))) look) (KV c S (.v (.bool (neg ^^ r))) look) := vcOp_mono (sound_eqns G hl h hr) fun v w' ⟨_, G', r⟩ => ⟨ρ, xs, G', r⟩
theorem hop_bytes {id : Nat} {o : Op} {ok : Bool} {s : ByteArray} (h : hop P S id o = .bytes ok s) : ∃ a d x, o = .convert a d x ∧ hConv S (convOk P a d) (convB P a d) (hev S.env x) = .bytes ok s ∧ pureOp P (lo S.env) o = none := by
  unfold hop hPure at h
  split at h
  · cases h
  · rename_i hpu
    unfold heff at h
    split at h <;> try (exfalso; first
      | (unfold hMove at h; (repeat' split at h) <;> cases h)
      | (unfold hPick at h; (repeat' split at h) <;> cases h)
      | (unfold hExtract at h; (repeat' split at h) <;> cases h)
      | (unfold hField at h; (repeat' split at h) <;> cases h)
      | (unfold hIndexA at h; (repeat' split at h) <;> cases h)
      | (unfold hFAddr at h; (repeat' split at h) <;> cases h)
      | (unfold hNil at h; (repeat' split at h) <;> cases h)
      | (unfold hIAddr hIAddrR hIAddrL hIAddrP hIAddrE hIAddrV at h; (repeat' split at h) <;> cases h)
      | (unfold hSlice hSliceL hSliceR hSliceV at h; (repeat' split at h) <;> cases h)
      | (unfold hLoad hLoadR hLoadE at h; (repeat' split at h) <;> cases h)
      | (unfold hStore hStoreR hStoreS hStoreB hStoreH at h; (repeat' split at h) <;> cases h)
      | (unfold hAlloc at h; (repeat' split at h) <;> cases h)
      | (unfold hBox hBoxC at h; (repeat' split at h) <;> cases h)
      | (unfold hBuild hBuildF at h; (repeat' split at h) <;> cases h)
      | (unfold hBuildS hBuildSE hBuildSF hBuildSH at h; (repeat' split at h) <;> cases h)
      | (unfold hMake at h; (repeat' split at h) <;> cases h)
      | (unfold hLen hLenR at h; (repeat' split at h) <;> cases h)
      | (unfold hAppend hAppR hAppN hAppH at h; (repeat' split at h) <;> cases h)
      | (unfold hCopy hCopyR hCopyN at h; (repeat' split at h) <;> cases h)
      | (unfold hEq hEqL at h; (repeat' split at h) <;> cases h)
      | (unfold hCall at h; (repeat' split at h) <;> cases h)
      | cases h)
    exact ⟨_, _, _, rfl, h, hpu⟩
theorem sound_bytes (G : Good c S look w ρ xs) (hl : Agr S.env look lw) {id : Nat} {o : Op} {ty : TypeId} {ok : Bool} {s : ByteArray} (h : hop P S id o = .bytes ok s) (hok : ok = true) (hs : s.size ≤ 9223372036854775807) :
    vcOp P lw o ty w (KV c S (.lst true (byteE s)) look) (KV c S (.lst true (byteE s)) look) := by
  obtain ⟨a, d, x, rfl, h, hpu⟩ := hop_bytes h
  obtain ⟨e1, rfl⟩ := bytes_at G hl h
  unfold convB at hok
  simp only [Bool.and_eq_true] at hok
  obtain ⟨h1, h2⟩ := hok
  obtain ⟨u, hu⟩ := Option.isSome_iff_exists.1 h1
  split at h2
  · rename_i e hd
    split at h2
    · rename_i he
      have hns : uStr P d = false := by unfold uStr; rw [hd]
      have hrun := Lib.run_convert_string_bytes (P := P) w a d e s hu hd he
      unfold vcOp
      simp only [pureOp, e1, pureConv, hns, effOp]
      have hold : ∀ b, b < w.heap.size → (Lib.bytesWorld w e s).heap[b]? = w.heap[b]? := fun b hb => Lib.bytesWorld_at_old w e s b hb
      have hB : Below w.heap.size w (Lib.bytesWorld w e s) := ⟨rfl, rfl, rfl, by rw [Lib.bytesWorld_size]; omega, fun b hb => hold b hb⟩
      refine ⟨fun y hy => ?_, .slice (some ⟨w.heap.size, 0, none⟩) s.size (grownCap w s.size 0 e), Lib.bytesWorld w e s, by simp [execOp, opOf, evD, e1, hrun], ρ, xs, G.below hB, .lst ?_⟩
      · have : y = x := by simpa [Op.operands] using hy
        rw [this, e1]; rfl
      · have hsz : s.size ≤ maxLen := by simp only [maxLen]; omega
        have hbl : (byteE s).length = s.size := by simp [byteE]
        refine .lst 1 (fun i _ => .int .u8 (s.data.toList.getD i 0).toNat) hbl (grownCap_ge w s.size 0 e) (grownCap_le_maxLen w s.size 0 e hsz) (fun h => by cases h) (fun y hy => ?_) (fun h0 => ?_) (fun i k hi hk => rfl) (fun i k hi hk => ?_)
        · simp only [byteE, List.mem_map] at hy; obtain ⟨b, -, rfl⟩ := hy; rfl
        · refine ⟨w.heap.size, 0, rfl, ?_, by rw [Lib.bytesWorld_size]; omega, fun _ => ?_, fun i k hi hk => ?_⟩
          · rintro (h0 | ⟨j, r, hj, hb⟩)
            · have := (G.a0 _ h0).1; have := G.kept.size; omega
            · have := G.lt hj hb; omega
          · have := G.kept.size; have := c.hn; omega
          · have : k = 0 := by omega
            subst this
            rw [Nat.zero_add, Nat.mul_one, Nat.add_zero]
            exact Lib.bytesWorld_cell w e s i hi
        · have hk' : k = 0 := by simpa [byteE] using hk
          subst hk'
          have hi' : i < s.data.toList.length := by simpa [byteE] using hi
          simp only [byteE, List.getElem_map, List.getElem_cons_zero, List.getD_eq_getElem?_getD, List.getElem?_eq_getElem hi', Option.getD_some]
          exact .v _
    · cases h2
  · cases h2
theorem sound_call (G : Good c S look w ρ xs) (hl : Agr S.env look lw) {id : Nat} {o : Op} {ty : TypeId} {f : FuncId} {args : List HV} {K : HV → HS → Prop} (h : hop P S id o = .call f args) (hK : HAt P f args S K) :
    vcOp P lw o ty w (fun v w' => ∃ h S', K h S' ∧ InvV c S' h v look w') (fun v w' => ∃ h S', K h S' ∧ InvV c S' h v look w') := by
  obtain ⟨as, ats, rfl, has⟩ := hop_call h
  obtain ⟨vs, e1, e2, e3⟩ := G.evs hl has
  unfold vcOp
  simp only [pureOp, effOp, e1]
  exact ⟨hK.1, hK.2 c look w ρ xs vs G ⟨e2, e3⟩⟩
end
end Go.Eng
end

section
set_option linter.unusedSimpArgs false
set_option linter.unusedVariables false
namespace Go.Eng
open Go Go.RowKit

section
variable {c : Ctx} {S S' : HS} {look : Nat → Option Value} {w w' : World} {ρ ρ' : Nat → Value} {xs : Nat → List Value} {A A' : Nat → Prop} {n0 n1 : Nat}
theorem row_lst {v : Value} {ty sz : Nat} {els : List (List FV)} {l : List Value} {fr : Bool} (o1 : Own w 0 ty sz v els.length l) (o2 : ∀ x ∈ els, x.length = sz)
    (o3 : ∀ i k (hi : i < els.length) (hk : k < els[i].length), ∃ u, l[i * sz + k]? = some u ∧ u.oneCell' = true ∧ RepF w A n0 u els[i][k]) (hA : ∀ b, v.ownBlock = some b → ¬ A b ∧ (fr = true → n0 ≤ b)) : RepF w A n0 v (.lst fr els) := by
  have hl := o1.1
  have hh := o1
  have val : ∀ i k (hi : i < els.length) (hk : k < els[i].length), ∃ u, l.getD (i * sz + k) (.bool false) = u ∧ l[i * sz + k]? = some u ∧ u.oneCell' = true ∧ RepF w A n0 u els[i][k] := fun i k hi hk => by
    obtain ⟨u, a, b, d⟩ := o3 i k hi hk
    exact ⟨u, by rw [List.getD_eq_getElem?_getD, a]; rfl, a, b, d⟩
  rcases o1.2 with ⟨rfl, h0⟩ | ⟨g, cap, cur, rfl, -, hg, hn, hm, hs, ht⟩
  · have : els = [] := List.eq_nil_of_length_eq_zero h0
    subst this
    exact .lst sz (fun _ _ => .bool false) rfl (Nat.le_refl _) (Nat.zero_le _) (fun _ => rfl) (by simp) (fun h => absurd h (Nat.lt_irrefl _)) (fun i k hi => absurd hi (Nat.not_lt_zero _)) (fun i k hi => absurd hi (by simp))
  · obtain ⟨h1, h2⟩ := hA g rfl
    refine .lst sz (fun i k => l.getD (i * sz + k) (.bool false)) rfl hn hm (fun h => by cases h) o2 (fun _ => ⟨g, 0, rfl, h1, (Array.getElem?_eq_some_iff.1 hg).1, h2, fun i k hi hk => ?_⟩) (fun i k hi hk => ?_) (fun i k hi hk => ?_)
    · obtain ⟨u, a, b, -⟩ := val i k hi (by rw [o2 _ (List.getElem_mem hi)]; exact hk)
      rw [Nat.zero_add, World.ownsRow.cellAt hh _ (by rw [← hl]; exact (List.getElem?_eq_some_iff.1 b).1), b, a]
    · obtain ⟨u, a, b, d, -⟩ := val i k hi (by rw [o2 _ (List.getElem_mem hi)]; exact hk)
      rw [a]; exact d
    · obtain ⟨u, a, b, -, d⟩ := val i k hi hk
      rw [a]; exact d
def vwSub (x : HV) (sz o n : Nat) : HV := match x with
  | .lst fr xs => bif xs.all (fun y => y.length == sz) then .lst fr ((xs.take (o + n)).drop o) else .junk
  | _ => .junk
def HV.sub (id : Nat) (x : HV) : HV → HV
  | .own i => if i = id then x else .own i
  | .vw i sz o n => if i = id then vwSub x sz o n else .vw i sz o n
  | .ptr i sz j k => if i = id then .junk else .ptr i sz j k
  | .agg cs => .agg (cs.map (sub id x))
  | .tup cs => .tup (cs.map (sub id x))
  | .v x => .v x
  | .lst fr xs => .lst fr xs
  | .elt fr xs sz i k => .elt fr xs sz i k
  | .junk => .junk
def Row.sub (id : Nat) (x : HV) : Row → Row
  | .sl n t s xs => .sl n t s xs
  | .bx n t cs => .bx n t (cs.map (HV.sub id x))
  | .hl n t s xs => .hl n t s (xs.map (List.map (HV.sub id x)))
def esub (id : Nat) (x : HV) : HEnv → HEnv
  | [] => []
  | (k, h) :: s => (k, HV.sub id x h) :: esub id x s
def ssub (id : Nat) (x : HV) : Store → Store
  | [] => []
  | (k, r) :: s => if k = id then ssub id x s else (k, r.sub id x) :: ssub id x s
def HS.rest (S : HS) (id : Nat) (x : HV) : HS := ⟨esub id x S.env, ssub id x S.st⟩
theorem hlk_esub (id : Nat) (x : HV) : ∀ (l : HEnv) (k : Nat), hlk (esub id x l) k = (hlk l k).map (HV.sub id x)
  | [], k => rfl
  | (j, h) :: r, k => by
    simp only [esub, hlk]
    split
    · rfl
    · exact hlk_esub id x r k
theorem rlk_ssub (id : Nat) (x : HV) : ∀ (l : Store) (k : Nat), rlk (ssub id x l) k = if k = id then none else (rlk l k).map (Row.sub id x)
  | [], k => by simp [ssub, rlk]
  | (j, h) :: r, k => by
    simp only [ssub, rlk]
    by_cases e2 : j = k
    · subst e2
      by_cases e : j = id
      · rw [if_pos e, if_pos e, rlk_ssub id x r j, if_pos e]
      · rw [if_neg e, if_neg e, if_pos rfl]; simp [rlk]
    · rw [if_neg e2]
      by_cases e : j = id
      · rw [if_pos e]; exact rlk_ssub id x r k
      · rw [if_neg e]; simp only [rlk, if_neg e2]; exact rlk_ssub id x r k
theorem repH_lst {v : Value} {fr : Bool} {l : List (List FV)} (h : RepH w A n0 ρ v (.lst fr l)) : RepF w A n0 v (.lst fr l) := by
  cases h with
  | lst h => exact h
theorem RepH.sub {v : Value} {h x : HV} {id : Nat} (hr : RepH w A n0 ρ v h) (hx : RepH w A n0 ρ (ρ id) x) : RepH w A n0 ρ v (HV.sub id x h) := by
  induction hr with
  | v y => rw [HV.sub]; exact .v y
  | lst h => rw [HV.sub]; exact .lst h
  | own j h1 =>
    rw [HV.sub]
    split
    · rename_i e; subst e; exact hx
    · exact .own j h1
  | vw sz o m hg hm hc hn' hx' ha =>
    rw [HV.sub]
    split
    · rename_i e
      subst e
      unfold vwSub
      split
      · rename_i fr l
        cases hall : l.all (fun y => y.length == sz) with
        | false => exact .junk _
        | true =>
        have hF := repH_lst hx
        rw [hg] at hF
        cases hF with
        | lst s vals hn hcap hm' hnil hsz ha' h1 hr =>
        refine .lst (.lst s (fun i k => vals (o + i) k) (by simp; omega) (by omega) hx' hn' (fun y hy => hsz y (List.mem_of_mem_take (List.mem_of_mem_drop hy))) (fun h0 => ?_) (fun i k hi hk => h1 _ _ (by omega) hk) (fun i k hi hk => ?_))
        · obtain ⟨b, off, e1, h2, h3, h4, h5⟩ := ha' (by omega)
          obtain ⟨g, e2, e3⟩ := ha (by omega)
          rw [e1] at e2
          simp only [Option.some.injEq, Addr.mk.injEq] at e2
          obtain ⟨rfl, rfl, -⟩ := e2
          have hss : s = sz := by
            have hmem := List.getElem_mem (l := l) (n := 0) (by omega)
            have := List.all_eq_true.1 hall _ hmem
            rw [← hsz _ hmem]; simpa using this
          subst hss
          refine ⟨b, o * s, e3, h2, h3, h4, fun i k hi hk => ?_⟩
          rw [← h5 (o + i) k (by omega) hk]
          congr 2
          rw [Nat.add_mul]; omega
        · simp only [List.getElem_drop, List.getElem_take] at hk ⊢
          exact hr (o + i) k _ hk
      · exact .junk _
    · exact .vw sz o m hg hm hc hn' hx' ha
  | ptr sz i k h =>
    rw [HV.sub]
    split
    · exact .junk _
    · exact .ptr sz i k h
  | elt h h1 h2 => rw [HV.sub]; exact .elt h h1 h2
  | agg hn h1 h ih => rw [HV.sub]; exact .agg (by simpa using hn) h1 (fun j a b => by rw [List.getElem_map]; exact ih j a (by simpa using b))
  | tup hn h ih => rw [HV.sub]; exact .tup (by simpa using hn) (fun j a b => by rw [List.getElem_map]; exact ih j a (by simpa using b))
  | junk v => rw [HV.sub]; exact .junk v
theorem Row.sub_facts (id : Nat) (x : HV) (r : Row) : (r.sub id x).ty = r.ty ∧ (r.sub id x).sz = r.sz ∧ (r.sub id x).len = r.len ∧ (r.sub id x).nw = r.nw := by cases r <;> simp [Row.sub, Row.ty, Row.sz, Row.len, Row.nw]
theorem Inv.rest (I : Inv c S look w) {id ty sz : Nat} {nw : Bool} {els : List (List FV)} (hr : rlk S.st id = some (.sl nw ty sz els)) : Inv c (S.rest id (.lst nw els)) look w := by
  obtain ⟨ρ, xs, G⟩ := I
  obtain ⟨o1, o2, o3⟩ := rows_sl G hr
  have hA : ∀ b, c.A ρ (S.rest id (.lst nw els)).st b → c.A ρ S.st b ∧ ((ρ id).ownBlock = some b → c.A0 b) := by
    rintro b (h0 | ⟨i, s, hi, hb⟩)
    · exact ⟨.inl h0, fun _ => h0⟩
    · simp only [HS.rest, rlk_ssub] at hi
      by_cases e : i = id
      · rw [if_pos e] at hi; cases hi
      · rw [if_neg e] at hi
        cases hs : rlk S.st i with
        | none => rw [hs] at hi; cases hi
        | some s0 => exact ⟨.inr ⟨i, s0, hs, hb⟩, fun h => (G.apart i id s0 _ b e hs hr hb h).elim⟩
  have hx : RepH w (c.A ρ (S.rest id (.lst nw els)).st) c.n0 ρ (ρ id) (.lst nw els) := by
    refine .lst (row_lst o1 o2 (fun i k hi hk => ?_) (fun b hb => ?_))
    · obtain ⟨u, a, b, d⟩ := o3 i k hi hk
      exact ⟨u, a, b, d.up (Nat.le_refl _) (fun _ _ _ => rfl) (fun b _ h => (hA b h).1) (Nat.le_refl _)⟩
    · obtain ⟨h1, h2⟩ := (G.rows id _ hr).new b hb
      refine ⟨fun h' => ?_, h2⟩
      rcases h1 with h | h
      · have := (G.a0 b ((hA b h').2 hb)).1; omega
      · exact (G.a0 b ((hA b h').2 hb)).2 h
  have tr : ∀ v x, RepH w (c.A ρ S.st) c.n0 ρ v x → RepH w (c.A ρ (S.rest id (.lst nw els)).st) c.n0 ρ v (HV.sub id (.lst nw els) x) := fun v x h => (h.up (Nat.le_refl _) (fun _ _ _ => rfl) (fun b _ h => (hA b h).1) (Nat.le_refl _)).sub hx
  have back : ∀ i r, rlk (S.rest id (.lst nw els)).st i = some r → ∃ r0, i ≠ id ∧ rlk S.st i = some r0 ∧ r = r0.sub id (.lst nw els) := by
    intro i r hi
    simp only [HS.rest, rlk_ssub] at hi
    by_cases e : i = id
    · rw [if_pos e] at hi; cases hi
    · rw [if_neg e] at hi
      cases hs : rlk S.st i with
      | none => rw [hs] at hi; cases hi
      | some s0 => rw [hs] at hi; simp only [Option.map_some, Option.some.injEq] at hi; exact ⟨s0, e, rfl, hi.symm⟩
  refine ⟨ρ, xs, fun i r hi => ?_, fun i j r s b hne hi hj => ?_, fun k x hk => ?_, G.kept, G.a0⟩
  · obtain ⟨r0, hne, h0, rfl⟩ := back i r hi
    have R := G.rows i r0 h0
    obtain ⟨f1, f2, f3, f4⟩ := Row.sub_facts id (.lst nw els) r0
    refine ⟨by rw [f1, f2, f3]; exact R.own, ?_, fun b hb => by rw [f4]; exact R.new b hb⟩
    have := R.rep
    cases r0 with
    | sl n' t' s' els' =>
      refine ⟨this.1, fun p k hp hk => ?_⟩
      obtain ⟨u, u1, u2, u3⟩ := this.2 p k hp hk
      exact ⟨u, u1, u2, u3.up (Nat.le_refl _) (fun _ _ _ => rfl) (fun b _ h => (hA b h).1) (Nat.le_refl _)⟩
    | bx n' t' cells =>
      refine ⟨this.1, fun k hk => ?_⟩
      rw [List.length_map] at hk
      obtain ⟨u, u1, u2, u3⟩ := this.2 k hk
      refine ⟨u, u1, u2, ?_⟩
      rw [List.getElem_map]
      exact tr _ _ u3
    | hl n' t' s' els' =>
      refine ⟨fun x hx => ?_, fun p k hp hk => ?_⟩
      · obtain ⟨y, hy, rfl⟩ := List.mem_map.1 hx
        rw [List.length_map]; exact this.1 y hy
      · simp only [List.length_map] at hp
        simp only [List.getElem_map, List.length_map] at hk ⊢
        obtain ⟨u, u1, u2, u3⟩ := this.2 p k hp hk
        exact ⟨u, u1, u2, tr _ _ u3⟩
  · obtain ⟨r0, h1, h2, -⟩ := back i r hi
    obtain ⟨s0, h3, h4, -⟩ := back j s hj
    exact G.apart i j r0 s0 b hne h2 h4
  · simp only [HS.rest, hlk_esub] at hk
    cases hx0 : hlk S.env k with
    | none => rw [hx0] at hk; cases hk
    | some x0 =>
      rw [hx0] at hk
      simp only [Option.map_some, Option.some.injEq] at hk
      subst hk
      obtain ⟨v, h1, h2⟩ := G.env k x0 hx0
      exact ⟨v, h1, tr v x0 h2⟩
def ownCell : HV → List Nat
  | .own i => [i]
  | _ => []
def ownIds : HV → List Nat
  | .own i => [i]
  | .agg cs => cs.flatMap ownCell
  | _ => []
def held : Nat := 1000000
def restOne (S : HS) (i : Nat) : HS := match Nat.blt i held with
  | true => match rlk S.st i with
    | some (.sl nw _ _ els) => S.rest i (.lst nw els)
    | _ => S
  | false => S
def restAll (S : HS) : List Nat → HS
  | [] => S
  | i :: r => restAll (restOne S i) r
def ownsR (S : HS) (h : HV) : Option Row → List Nat
  | some (.sl _ _ _ _) => ownIds h
  | _ => []
def ownsS (S : HS) : Option HV → Option HV → List Nat
  | some (.ptr id _ _ _), some h => ownsR S h (rlk S.st id)
  | _, _ => []
def ownsP : Option (List (Nat × HV)) → List Nat
  | some ps => ps.flatMap fun p => ownIds p.2
  | none => []
def hpre (S : HS) : Op → HS
  | .store _ x y => restAll S (ownsS S (hev S.env x) (hev S.env y))
  | .buildSlice _ _ ps => restAll S (ownsP (partsH S.env ps.toList))
  | _ => S
theorem Inv.restAll : ∀ {ids : List Nat} {S : HS}, Inv c S look w → Inv c (restAll S ids) look w
  | [], S, I => I
  | i :: r, S, I => by
    rw [Eng.restAll]
    refine Inv.restAll ?_
    unfold restOne
    split
    · split
      · rename_i nw ty sz els hr; exact I.rest hr
      · exact I
    · exact I
theorem Inv.pre (I : Inv c S look w) (o : Op) : Inv c (hpre S o) look w := by
  unfold hpre
  split
  · exact I.restAll
  · exact I.restAll
  · exact I
end
inductive GOut where
  | yes
  | no
  | ask (d : Nat) (b want : Bool)
  | bad
def hGv (d : Nat) (want : Bool) : Option HV → GOut
  | some (.v (.bool b)) => .ask d b want
  | some (.v (.tuple _)) => .no
  | _ => .bad
def hG (l : HEnv) (ds : List (Option Nat)) : Option (Nat × Bool) → GOut
  | none => .yes
  | some (j, want) => match ds[j]? with
    | some (some d) => hGv d want (hlk l d)
    | _ => .bad
def hrep (d : Nat) (h : HV) : HEnv → HEnv
  | [] => []
  | (k, x) :: r => if k = d then (k, h) :: r else (k, x) :: hrep d h r
def HS.rep (S : HS) (d : Nat) (h : HV) : HS := ⟨hrep d h S.env, S.st⟩
def HS.set (S : HS) (d : Option Nat) (h : HV) : HS := match d with
  | none => S
  | some k => ⟨(k, h) :: S.env, S.st⟩
def idOf : Option Nat → Nat
  | some k => 8 * k
  | none => 0
def HStop (K : HS → Prop) (S : HS) : Prop := K S
theorem hstop {K : HS → Prop} {S : HS} (h : K S) : HStop K S := h
def HGoOut (P : Program) (d : Option Nat) (S : HS) (K : HS → Prop) : HOut → Prop
  | .go c h S' => c ∧ K (S'.set d h)
  | .call f args => HAt P f args S (fun h S' => HStop K (S'.set d h))
  | .eqn t x y neg => ∃ r, EqR P t x.toArray y.toArray r ∧ HStop K (S.set d (.v (.bool (neg ^^ r))))
  | .bytes ok s => Cond (ok = true ∧ s.size ≤ 9223372036854775807) ∧ K (S.set d (.lst true (byteE s)))
  | .bad => False
def HGo1 (P : Program) (N : Nat) (o : Oper) (S : HS) (K : HS → Prop) : Prop := match dstOk N o.dst with
  | true => HGoOut P o.dst S K (hop P S (idOf o.dst) o.op)
  | false => False
def HGo (P : Program) (N : Nat) (o : Oper) (S : HS) (K : HS → Prop) : Prop := HGo1 P N o (hpre S o.op) K
def HSkip (N : Nat) (d : Option Nat) (S : HS) (K : HS → Prop) : Prop := match dstOk N d with
  | true => K (S.set d (.v undef))
  | false => False
def HStep (P : Program) (N : Nat) (o : Oper) (S : HS) (K : HS → Prop) : GOut → Prop
  | .yes => HGo P N o S K
  | .no => HSkip N o.dst S K
  | .ask d b want => match b == want with
    | true => HGo P N o (S.rep d (.v (.bool want))) K
    | false => HSkip N o.dst (S.rep d (.v (.bool (!want)))) K
  | .bad => False
def HV2 (P : Program) (N : Nat) (ds : List (Option Nat)) (K : HS → Prop) : List Oper → HS → Prop
  | [], S => K S
  | o :: rest, S => HStep P N o S (HV2 P N ds K rest) (hG S.env ds o.guard)

section
variable {P : Program} {N : Nat} {c : Ctx} {S S' : HS} {l : Env} {look : Nat → Option Value} {w : World} {ρ : Nat → Value} {xs : Nat → List Value}
theorem hlk_hrep (d : Nat) (h : HV) : ∀ (l : HEnv) (k : Nat), hlk (hrep d h l) k = if k = d then (hlk l d).map (fun _ => h) else hlk l k
  | [], k => by simp [hrep, hlk]
  | (j, x) :: r, k => by
    simp only [hrep]
    by_cases e : j = d
    · subst e
      simp only [if_true, hlk]
      by_cases e2 : j = k
      · subst e2; simp
      · rw [if_neg e2, if_neg (by omega), if_neg e2]
    · simp only [if_neg e, hlk]
      by_cases e2 : j = k
      · subst e2; simp [e]
      · rw [if_neg e2, if_neg e2, hlk_hrep d h r k]
theorem Inv.rep (I : Inv c S look w) {d : Nat} {h : HV} (hd : hlk S.env d = some h) : Inv c (S.rep d h) look w := by
  obtain ⟨ρ, xs, G⟩ := I
  refine ⟨ρ, xs, G.rows, G.apart, fun k x hk => ?_, G.kept, G.a0⟩
  simp only [HS.rep, hlk_hrep] at hk
  by_cases e : k = d
  · subst e
    rw [if_pos rfl, hd] at hk
    simp only [Option.map_some, Option.some.injEq] at hk
    subst hk
    exact G.env k _ hd
  · rw [if_neg e] at hk; exact G.env k x hk
theorem InvV.set {h : HV} {v : Value} (I : InvV c S h v (lk l) w) (d : Option Nat) : Inv c (S.set d h) (lk (stp d v l)) w := by
  obtain ⟨ρ, xs, G, hr⟩ := I
  cases d with
  | none => exact ⟨ρ, xs, G⟩
  | some d =>
    refine ⟨ρ, xs, G.rows, G.apart, fun k x hk => ?_, G.kept, G.a0⟩
    simp only [HS.set, hlk] at hk
    simp only [stp, lk]
    by_cases e : d = k
    · rw [if_pos e] at hk ⊢
      simp only [Option.some.injEq] at hk
      subst hk
      exact ⟨v, rfl, hr⟩
    · rw [if_neg e] at hk ⊢; exact G.env k x hk
theorem agr_self (env : HEnv) (l : Env) : Agr env (lk l) l := fun _ _ _ _ h => h
theorem HGo_vc {o : Oper} {K : HS → Prop} (I : Inv c S (lk l) w) (h : HGo P N o S K) :
    dstLt N o.dst ∧ vcOp P l o.op o.type w (fun v w' => ∃ S', Inv c S' (lk (stp o.dst v l)) w' ∧ K S') (fun v w' => ∃ S', Inv c S' (lk (stp o.dst v l)) w' ∧ K S') := by
  unfold HGo HGo1 at h
  have I := I.pre o.op
  generalize hpre S o.op = S at *
  split at h
  · rename_i hd
    refine ⟨dstOk_lt hd, ?_⟩
    obtain ⟨ρ, xs, G⟩ := I
    cases ho : hop P S (idOf o.dst) o.op with
    | go c' hv S' =>
      rw [ho] at h
      obtain ⟨h1, h2⟩ := h
      exact vcOp_mono (sound_hop G (agr_self _ _) ho h1) fun v w' hv => ⟨_, InvV.set hv o.dst, h2⟩
    | call f args =>
      rw [ho] at h
      exact vcOp_mono (sound_call G (agr_self _ _) ho h) fun v w' ⟨x, S1, hK, hI⟩ => ⟨_, InvV.set hI o.dst, hK⟩
    | eqn t x y neg =>
      rw [ho] at h
      obtain ⟨r, h1, h2⟩ := h
      exact vcOp_mono (sound_eqn G (agr_self _ _) ho h1) fun v w' hv => ⟨_, InvV.set hv o.dst, h2⟩
    | bytes ok s =>
      rw [ho] at h
      obtain ⟨⟨h1, h2⟩, h3⟩ := h
      exact vcOp_mono (sound_bytes G (agr_self _ _) ho h1 h2) fun v w' hv => ⟨_, InvV.set hv o.dst, h3⟩
    | bad => rw [ho] at h; exact h.elim
  · exact h.elim
theorem HSkip_vc {d : Option Nat} {K : HS → Prop} (I : Inv c S (lk l) w) (h : HSkip N d S K) : dstLt N d ∧ ∃ S', Inv c S' (lk (stp d undef l)) w ∧ K S' := by
  unfold HSkip at h
  split at h
  · rename_i hd
    obtain ⟨ρ, xs, G⟩ := I
    exact ⟨dstOk_lt hd, _, InvV.set ⟨ρ, xs, G, .v undef⟩ d, h⟩
  · exact h.elim
theorem hG_ask {ds : List (Option Nat)} {g : Option (Nat × Bool)} {d : Nat} {b want : Bool} (h : hG S.env ds g = .ask d b want) : ∃ j, g = some (j, want) ∧ ds[j]? = some (some d) ∧ hlk S.env d = some (.v (.bool b)) := by
  unfold hG at h
  split at h
  · cases h
  · rename_i j want'
    split at h
    · rename_i d' hd
      unfold hGv at h
      split at h
      · rename_i b' hb
        simp only [GOut.ask.injEq] at h
        obtain ⟨rfl, rfl, rfl⟩ := h
        exact ⟨j, rfl, hd, hb⟩
      · cases h
      · cases h
    · cases h
theorem hG_no {ds : List (Option Nat)} {g : Option (Nat × Bool)} (h : hG S.env ds g = .no) : ∃ j want d vs, g = some (j, want) ∧ ds[j]? = some (some d) ∧ hlk S.env d = some (.v (.tuple vs)) := by
  unfold hG at h
  split at h
  · cases h
  · rename_i j want'
    split at h
    · rename_i d' hd
      unfold hGv at h
      split at h
      · cases h
      · rename_i vs hb
        exact ⟨j, want', d', vs, rfl, hd, hb⟩
      · cases h
    · cases h
theorem hG_yes {ds : List (Option Nat)} {g : Option (Nat × Bool)} (h : hG S.env ds g = .yes) : g = none := by
  unfold hG at h
  split at h
  · rfl
  · split at h
    · unfold hGv at h
      split at h <;> cases h
    · cases h
theorem gd_yes {ds : List (Option Nat)} {g : Option (Nat × Bool)} {k : Bool → Prop} (h : hG S.env ds g = .yes) (hk : k true) : gd l ds g k := by
  rw [hG_yes h]; exact hk
theorem gd_no (I : Inv c S (lk l) w) {ds : List (Option Nat)} {g : Option (Nat × Bool)} {k : Bool → Prop} (h : hG S.env ds g = .no) (hk : k false) : gd l ds g k := by
  obtain ⟨j, want, d, vs, rfl, hd, hb⟩ := hG_no h
  obtain ⟨ρ, xs, G⟩ := I
  obtain ⟨v, h1, h2⟩ := G.env d _ hb
  have := repH_v h2
  subst this
  simp only [gd, hd, h1]
  exact hk
theorem gd_ask (I : Inv c S (lk l) w) {ds : List (Option Nat)} {g : Option (Nat × Bool)} {k : Bool → Prop} {d : Nat} {b want : Bool} (h : hG S.env ds g = .ask d b want) (hk : k (b == want)) : gd l ds g k ∧ hlk S.env d = some (.v (.bool b)) := by
  obtain ⟨j, rfl, hd, hb⟩ := hG_ask h
  refine ⟨?_, hb⟩
  obtain ⟨ρ, xs, G⟩ := I
  obtain ⟨v, h1, h2⟩ := G.env d _ hb
  have := repH_v h2
  subst this
  simp only [gd, hd, h1]
  exact hk
theorem HV2_VC {ds : List (Option Nat)} {K : HS → Prop} : ∀ (ops : List Oper) (S : HS) (l : Env) (w : World), HV2 P N ds K ops S → Inv c S (lk l) w → VC P N ds (fun l' w' => ∃ S', Inv c S' (lk l') w' ∧ K S') ops l w
  | [], S, l, w, h, I => ⟨S, I, h⟩
  | o :: rest, S, l, w, h, I => by
    rw [HV2] at h
    rw [VC]
    have ih := HV2_VC (ds := ds) (K := K) rest
    have go : ∀ S, Inv c S (lk l) w → HGo P N o S (HV2 P N ds K rest) → dstLt N o.dst ∧ vcOp P l o.op o.type w (fun v w' => VC P N ds (fun l' w' => ∃ S', Inv c S' (lk l') w' ∧ K S') rest (stp o.dst v l) w') (fun v w' => VC P N ds (fun l' w' => ∃ S', Inv c S' (lk l') w' ∧ K S') rest (stp o.dst v l) w') := fun S I h => by
      obtain ⟨a, b⟩ := HGo_vc I h
      exact ⟨a, vcOp_mono b fun v w' ⟨S', hI, hK⟩ => ih S' _ _ hK hI⟩
    have sk : ∀ S, Inv c S (lk l) w → HSkip N o.dst S (HV2 P N ds K rest) → dstLt N o.dst ∧ VC P N ds (fun l' w' => ∃ S', Inv c S' (lk l') w' ∧ K S') rest (stp o.dst undef l) w := fun S I h => by
      obtain ⟨a, S', hI, hK⟩ := HSkip_vc I h
      exact ⟨a, ih S' _ _ hK hI⟩
    cases hg : hG S.env ds o.guard with
    | yes => rw [hg] at h; exact gd_yes hg (go S I h)
    | no => rw [hg] at h; exact gd_no I hg (sk S I h)
    | ask d b want =>
      rw [hg] at h
      have hlook := (gd_ask I hg (k := fun _ => True) trivial).2
      refine (gd_ask I hg ?_).1
      simp only [HStep] at h
      split at h
      · rename_i e
        have e' : b = want := by simpa using e
        subst e'
        rw [e]
        exact go _ (I.rep hlook) h
      · rename_i e
        have e' : b = !want := by cases b <;> cases want <;> simp_all
        subst e'
        rw [e]
        exact sk _ (I.rep hlook) h
    | bad => rw [hg] at h; exact h.elim
end

def quiet : Op → Bool
  | .move _ | .assign _ | .pick .. | .extract .. | .field .. | .fieldAddr .. | .nilCheck _ | .indexAddr .. | .slice .. | .load .. | .build .. | .binOp .. | .unOp .. | .convert .. | .index .. => true
  | .call ⟨.builtin .len, _, _⟩ => true
  | .call ⟨.builtin .min, _, _⟩ => true
  | _ => false
def HAtQ (P : Program) (f : FuncId) (args : List HV) (S : HS) (K : Value → Prop) : Prop :=
  callable P f = true ∧ ∃ x, K x ∧ ∀ (c : Ctx) (look : Nat → Option Value) (w : World) (ρ : Nat → Value) (xs : Nat → List Value) (vs : List Value), Good c S look w ρ xs → Reps w (c.A ρ S.st) c.n0 ρ vs args →
    Calls P f vs.toArray w (Ret fun u w' => u = x ∧ Below w.heap.size w w')
def HGoQOut (P : Program) (o : Oper) (S : HS) (K : HS → Prop) : HOut → Prop
  | .go c h _ => quiet o.op = true ∧ c ∧ K (S.set o.dst h)
  | .call f args => HAtQ P f args S (fun x => HStop K (S.set o.dst (.v x)))
  | .eqn t x y neg => ∃ r, EqR P t x.toArray y.toArray r ∧ HStop K (S.set o.dst (.v (.bool (neg ^^ r))))
  | .bytes _ _ => False
  | .bad => False
def HGoQ (P : Program) (N : Nat) (o : Oper) (S : HS) (K : HS → Prop) : Prop := match dstOk N o.dst with
  | true => HGoQOut P o S K (hop P S (idOf o.dst) o.op)
  | false => False
def HStepQ (P : Program) (N : Nat) (o : Oper) (S : HS) (K : HS → Prop) : GOut → Prop
  | .yes => HGoQ P N o S K
  | .no => HSkip N o.dst S K
  | .ask d b want => match b == want with
    | true => HGoQ P N o (S.rep d (.v (.bool want))) K
    | false => HSkip N o.dst (S.rep d (.v (.bool (!want)))) K
  | .bad => False
def HVq (P : Program) (N : Nat) (ds : List (Option Nat)) (K : HS → Prop) : List Oper → HS → Prop
  | [], S => K S
  | o :: rest, S => HStepQ P N o S (HVq P N ds K rest) (hG S.env ds o.guard)
section
variable {P : Program} {N : Nat} {c : Ctx} {S S' : HS} {l : Env} {look : Nat → Option Value} {w : World} {ρ : Nat → Value} {xs : Nat → List Value}
theorem vcQ_pure {o : Op} (ho : quiet o = true) (h1 : ∀ t x, o ≠ .load t x) (h2 : ∀ t x, o ≠ .build t x) {ty : TypeId} {K : Value → World → Prop} (h : vcOp P l o ty w K (fun _ _ => False)) : vcQ P l o w (fun v => K v w) (fun v => K v w) := by
  unfold vcOp at h
  unfold vcQ
  split at h
  · exact h
  · exfalso
    have fin : (∀ x ∈ o.operands, (ev l x).isSome = true) ∧ (∃ v w', (execOp (evD l) (opOf o ty)).run P w = .ok (.value v) w' ∧ False) → False := fun h => by obtain ⟨_, _, _, _, h⟩ := h; exact h
    cases o with
    | load t x => exact h1 t x rfl
    | build t x => exact h2 t x rfl
    | binOp b t x y yt =>
      unfold effOp at h
      dsimp only at h
      split at h
      · split at h
        · unfold effEq at h
          split at h
          · obtain ⟨_, _, h⟩ := h; exact h
          · obtain ⟨_, _, h⟩ := h; exact h
          · exact h
        · exact h
      · exact h
    | call cl =>
      obtain ⟨callee, args, ats⟩ := cl
      cases callee with
      | builtin b => cases b <;> first | (simp [quiet] at ho; done) | exact fin h
      | value f => simp [quiet] at ho
      | invoke r m => simp [quiet] at ho
    | _ => first | (simp [quiet] at ho; done) | exact fin h
theorem vcQ_load {t : TypeId} {x : Operand} {ty : TypeId} {K : Value → World → Prop} (h : vcOp P l (.load t x) ty w K K) : vcQ P l (.load t x) w (fun v => K v w) (fun v => K v w) := h
theorem vcQ_build {t : TypeId} {x : Array (Nat × Operand)} {ty : TypeId} {K : Value → World → Prop} (h : vcOp P l (.build t x) ty w K K) : vcQ P l (.build t x) w (fun v => K v w) (fun v => K v w) := h
theorem vcQ_mono {o : Op} {K K' : Value → Prop} (h : vcQ P l o w K K) (hk : ∀ v, K v → K' v) : vcQ P l o w K' K' := by
  unfold vcQ at *
  split at h
  · exact ⟨h.1, hk _ h.2⟩
  · exact effQ_left h hk hk
theorem sound_hops {lw : Env} (G : Good c S look w ρ xs) (hl : Agr S.env look lw) {id : Nat} {o : Op} {ty : TypeId} {cnd : Prop} {hv : HV} (h : hop P S id o = .go cnd hv S') (hq : quiet o = true) (hc : cnd) : vcQ P lw o w (fun v => KVs c S hv look ρ xs w v w) (fun v => KVs c S hv look ρ xs w v w) := by
  unfold hop hPure at h
  split at h
  · rename_i c' v hp
    simp only [HOut.go.injEq] at h
    obtain ⟨rfl, rfl, rfl⟩ := h
    have := pureOp_mono (fun x X hx => low_leaf G hl hx) hp
    unfold vcQ
    simp only [this]
    exact ⟨hc, rfl, G, .v v⟩
  · unfold heff at h
    split at h
    · have e : S' = S := by unfold hMove at h; (repeat' split at h) <;> cases h; rfl
      subst e
      exact vcQ_pure (ty := 0) hq (fun _ _ e => by cases e) (fun _ _ e => by cases e) (sound_move G hl (.inl rfl) h hc)
    · have e : S' = S := by unfold hMove at h; (repeat' split at h) <;> cases h; rfl
      subst e
      exact vcQ_pure (ty := 0) hq (fun _ _ e => by cases e) (fun _ _ e => by cases e) (sound_move G hl (.inr rfl) h hc)
    · have e : S' = S := by unfold hPick at h; (repeat' split at h) <;> cases h; rfl
      subst e
      exact vcQ_pure (ty := 0) hq (fun _ _ e => by cases e) (fun _ _ e => by cases e) (sound_pick G hl h hc)
    · have e : S' = S := by unfold hExtract at h; (repeat' split at h) <;> cases h; rfl
      subst e
      exact vcQ_pure (ty := 0) hq (fun _ _ e => by cases e) (fun _ _ e => by cases e) (sound_extract G hl h hc)
    · have e : S' = S := by unfold hField at h; (repeat' split at h) <;> cases h <;> rfl
      subst e
      exact vcQ_pure (ty := 0) hq (fun _ _ e => by cases e) (fun _ _ e => by cases e) (sound_field G hl h hc)
    · have e : S' = S := by unfold hIndexA at h; (repeat' split at h) <;> cases h <;> rfl
      subst e
      exact vcQ_pure (ty := 0) hq (fun _ _ e => by cases e) (fun _ _ e => by cases e) (sound_index G hl h hc)
    · have e : S' = S := by unfold hFAddr at h; (repeat' split at h) <;> cases h <;> rfl
      subst e
      exact vcQ_pure (ty := 0) hq (fun _ _ e => by cases e) (fun _ _ e => by cases e) (sound_faddr G hl h hc)
    · have e : S' = S := by unfold hNil at h; (repeat' split at h) <;> cases h <;> rfl
      subst e
      exact vcQ_pure (ty := 0) hq (fun _ _ e => by cases e) (fun _ _ e => by cases e) (sound_nil G hl h hc)
    · have e : S' = S := by unfold hIAddr hIAddrR hIAddrL hIAddrP hIAddrE hIAddrV at h; (repeat' split at h) <;> cases h <;> rfl
      subst e
      exact vcQ_pure (ty := 0) hq (fun _ _ e => by cases e) (fun _ _ e => by cases e) (sound_iaddr G hl h hc)
    · have e : S' = S := by unfold hSlice hSliceL hSliceR hSliceV at h; (repeat' split at h) <;> cases h <;> rfl
      subst e
      exact vcQ_pure (ty := 0) hq (fun _ _ e => by cases e) (fun _ _ e => by cases e) (sound_slice G hl h hc)
    · have e : S' = S := by unfold hLoad hLoadR hLoadE at h; (repeat' split at h) <;> cases h <;> rfl
      subst e
      exact vcQ_load (ty := 0) (sound_load G hl h hc)
    · simp [quiet] at hq
    · simp [quiet] at hq
    · simp [quiet] at hq
    · have e : S' = S := by unfold hBuild hBuildF at h; (repeat' split at h) <;> cases h <;> rfl
      subst e
      exact vcQ_build (ty := 0) (sound_build G hl h hc)
    · simp [quiet] at hq
    · simp [quiet] at hq
    · split at h
      · rename_i y hy
        have e : S' = S := by unfold hLen hLenR at h; (repeat' split at h) <;> cases h <;> rfl
        subst e
        exact vcQ_pure (ty := 0) hq (fun _ _ e => by cases e) (fun _ _ e => by cases e) (sound_len G hl hy h hc)
      · cases h
    · simp [quiet] at hq
    · simp [quiet] at hq
    · simp [quiet] at hq
    · have e : S' = S := by unfold hEq hEqL at h; (repeat' split at h) <;> cases h <;> rfl
      subst e
      exact vcQ_pure (ty := 0) hq (fun _ _ e => by cases e) (fun _ _ e => by cases e) (sound_eqp (neg := false) G hl h hc)
    · have e : S' = S := by unfold hEq hEqL at h; (repeat' split at h) <;> cases h <;> rfl
      subst e
      exact vcQ_pure (ty := 0) hq (fun _ _ e => by cases e) (fun _ _ e => by cases e) (sound_eqp (neg := true) G hl h hc)
    · exact sound_convq G hl h hc
    · cases h
theorem sound_hopq {lw : Env} (G : Good c S look w ρ xs) (hl : Agr S.env look lw) {id : Nat} {o : Op} {ty : TypeId} {cnd : Prop} {hv : HV} (h : hop P S id o = .go cnd hv S') (hq : quiet o = true) (hc : cnd) : vcQ P lw o w (fun v => InvV c S hv v look w) (fun v => InvV c S hv v look w) :=
  vcQ_mono (sound_hops (ty := ty) G hl h hq hc) fun v ⟨_, G', r⟩ => ⟨ρ, xs, G', r⟩
theorem HGoQ_vc {o : Oper} {K : HS → Prop} (I : Inv c S (lk l) w) (h : HGoQ P N o S K) :
    dstLt N o.dst ∧ vcQ P l o.op w (fun v => ∃ S', Inv c S' (lk (stp o.dst v l)) w ∧ K S') (fun v => ∃ S', Inv c S' (lk (stp o.dst v l)) w ∧ K S') := by
  unfold HGoQ at h
  split at h
  · rename_i hd
    refine ⟨dstOk_lt hd, ?_⟩
    obtain ⟨ρ, xs, G⟩ := I
    cases ho : hop P S (idOf o.dst) o.op with
    | go c' hv S' =>
      rw [ho] at h
      obtain ⟨h0, h1, h2⟩ := h
      exact vcQ_mono (sound_hopq (ty := 0) G (agr_self _ _) ho h0 h1) fun v hv => ⟨_, InvV.set hv o.dst, h2⟩
    | call f args =>
      rw [ho] at h
      obtain ⟨hf, x, hK, hc⟩ := h
      obtain ⟨as, ats, e, has⟩ := hop_call ho
      rw [e]
      obtain ⟨vs, e1, e2, e3⟩ := G.evs (agr_self _ _) has
      unfold vcQ
      simp only [pureOp, effQ, e1]
      exact ⟨hf, x, fun w' hw' => Ret.mono (hc c (lk l) w' ρ xs vs (G.below hw') ⟨e2, fun i a b => (e3 i a b).up hw'.size (fun b hlt _ => hw'.block b hlt) (fun b _ h => h) (Nat.le_refl _)⟩) fun u w'' hu => ⟨hu.1, hw'.trans (hu.2.mono hw'.size)⟩, _, InvV.set ⟨ρ, xs, G, .v x⟩ o.dst, hK⟩
    | eqn t x y neg =>
      rw [ho] at h
      obtain ⟨r, h1, h2⟩ := h
      have := sound_eqn (ty := 0) G (agr_self _ l) ho h1
      obtain ⟨a, b, t', hx, hy, e, ha, hb, e1, e2⟩ := hop_eqn ho
      rw [e] at this ⊢
      refine vcQ_mono (K := fun v => InvV c S (.v (.bool (neg ^^ r))) v (lk l) w) ?_ fun v hv => ⟨_, InvV.set hv o.dst, h2⟩
      unfold vcOp at this
      unfold vcQ
      split at this
      · exact this
      · exact this
    | bytes ok s => rw [ho] at h; exact h.elim
    | bad => rw [ho] at h; exact h.elim
  · exact h.elim
theorem HVq_VCq {ds : List (Option Nat)} {K : HS → Prop} : ∀ (ops : List Oper) (S : HS) (l : Env), HVq P N ds K ops S → Inv c S (lk l) w → VCq P N ds w (fun l' => ∃ S', Inv c S' (lk l') w ∧ K S') ops l
  | [], S, l, h, I => ⟨S, I, h⟩
  | o :: rest, S, l, h, I => by
    rw [HVq] at h
    rw [VCq]
    have ih := HVq_VCq (ds := ds) (K := K) rest
    have go : ∀ S, Inv c S (lk l) w → HGoQ P N o S (HVq P N ds K rest) → dstLt N o.dst ∧ vcQ P l o.op w (fun v => VCq P N ds w (fun l' => ∃ S', Inv c S' (lk l') w ∧ K S') rest (stp o.dst v l)) (fun v => VCq P N ds w (fun l' => ∃ S', Inv c S' (lk l') w ∧ K S') rest (stp o.dst v l)) := fun S I h => by
      obtain ⟨a, b⟩ := HGoQ_vc I h
      exact ⟨a, vcQ_mono b fun v ⟨S', hI, hK⟩ => ih S' _ hK hI⟩
    have sk : ∀ S, Inv c S (lk l) w → HSkip N o.dst S (HVq P N ds K rest) → dstLt N o.dst ∧ VCq P N ds w (fun l' => ∃ S', Inv c S' (lk l') w ∧ K S') rest (stp o.dst undef l) := fun S I h => by
      obtain ⟨a, S', hI, hK⟩ := HSkip_vc I h
      exact ⟨a, ih S' _ hK hI⟩
    cases hg : hG S.env ds o.guard with
    | yes => rw [hg] at h; exact gd_yes hg (go S I h)
    | no => rw [hg] at h; exact gd_no I hg (sk S I h)
    | ask d b want =>
      rw [hg] at h
      have hlook := (gd_ask I hg (k := fun _ => True) trivial).2
      refine (gd_ask I hg ?_).1
      simp only [HStepQ] at h
      split at h
      · rename_i e
        have e' : b = want := by simpa using e
        subst e'
        rw [e]
        exact go _ (I.rep hlook) h
      · rename_i e
        have e' : b = !want := by cases b <;> cases want <;> simp_all
        subst e'
        rw [e]
        exact sk _ (I.rep hlook) h
    | bad => rw [hg] at h; exact h.elim
end
end Go.Eng
end

section
set_option linter.unusedSimpArgs false
set_option linter.unusedVariables false
namespace Go.Eng
open Go Go.RowKit

abbrev HPost := Exit → HS → Prop
def HQ (c : Ctx) (Q : HPost) : Post := fun e l w => ∃ S, Inv c S (lk l) w ∧ Q e S
def HW (P : Program) (N : Nat) (x : Code) (Q : HPost) (S : HS) : Prop := ∀ (c : Ctx) (l : Env) (w : World), Inv c S (lk l) w → W P N x (HQ c Q) l w
def hseqQ (K : HS → Prop) (Q : HPost) : HPost
  | .normal, S => K S
  | e, S => Q e S
def hblkQ (id : Nat) (Q : HPost) : HPost
  | .exit id', S => if id' = id then Q .normal S else Q (.exit id') S
  | e, S => Q e S
def hkeep (ks : List Nat) (l : HEnv) : HEnv := match ks with
  | [] => []
  | k :: r => match hlk l k with
    | some v => (k, v) :: hkeep r l
    | none => hkeep r l
def rkeep (ids : List Nat) (s : Store) : Store := match ids with
  | [] => []
  | k :: r => match rlk s k with
    | some v => (k, v) :: rkeep r s
    | none => rkeep r s
def HS.keep (S : HS) (ks ids : List Nat) : HS := ⟨hkeep ks S.env, rkeep ids S.st⟩
theorem hkeep_get {ks : List Nat} {l : HEnv} : ∀ {k : Nat} {h : HV}, hlk (hkeep ks l) k = some h → k ∈ ks ∧ hlk l k = some h := by
  induction ks with
  | nil => intro k h e; simp [hkeep, hlk] at e
  | cons a r ih =>
    intro k h e
    simp only [hkeep] at e
    split at e
    · rename_i v hv
      simp only [hlk] at e
      by_cases ha : a = k
      · subst ha; rw [if_pos rfl] at e; exact ⟨by simp, by rw [hv]; exact e⟩
      · rw [if_neg ha] at e; obtain ⟨h1, h2⟩ := ih e; exact ⟨by simp [h1], h2⟩
    · obtain ⟨h1, h2⟩ := ih e; exact ⟨by simp [h1], h2⟩
theorem rkeep_get {ks : List Nat} {l : Store} : ∀ {k : Nat} {h : Row}, rlk (rkeep ks l) k = some h → rlk l k = some h := by
  induction ks with
  | nil => intro k h e; simp [rkeep, rlk] at e
  | cons a r ih =>
    intro k h e
    simp only [rkeep] at e
    split at e
    · rename_i v hv
      simp only [rlk] at e
      by_cases ha : a = k
      · subst ha; rw [if_pos rfl] at e; rw [hv]; exact e
      · rw [if_neg ha] at e; exact ih e
    · exact ih e
theorem keep_lk {ks : List Nat} {l : Env} : ∀ {k : Nat}, k ∈ ks → lk (keep ks l) k = lk l k := by
  induction ks with
  | nil => intro k h; simp at h
  | cons a r ih =>
    intro k h
    simp only [keep]
    by_cases e : a = k
    · subst e
      split
      · rename_i v hv; simp only [lk, if_true, hv]
      · rename_i hv
        by_cases hr : a ∈ r
        · exact ih hr
        · rw [hv]
          cases hh : lk (keep r l) a with
          | none => rfl
          | some v => have := keep_get hh; rw [hv] at this; cases this
    · have hk : k ∈ r := by simpa [Ne.symm e] using h
      split
      · simp only [lk, if_neg e]; exact ih hk
      · exact ih hk
section
variable {P : Program} {N : Nat} {c : Ctx} {S S' : HS} {Q Q' : HPost} {l : Env} {look : Nat → Option Value} {w : World} {ρ : Nat → Value} {xs : Nat → List Value}
theorem Inv.less (I : Inv c S look w) {S' : HS} (h1 : ∀ k h, hlk S'.env k = some h → hlk S.env k = some h) (h2 : ∀ k h, rlk S'.st k = some h → rlk S.st k = some h) : Inv c S' look w := by
  obtain ⟨ρ, xs, G⟩ := I
  have hA : ∀ b, c.A ρ S'.st b → c.A ρ S.st b := by
    rintro b (h0 | ⟨i, s, hi, hb⟩)
    · exact .inl h0
    · exact .inr ⟨i, s, h2 i s hi, hb⟩
  refine ⟨ρ, xs, fun id r hr => ?_, fun i j r s b hne hi hj => G.apart i j r s b hne (h2 i r hi) (h2 j s hj), fun k h hk => ?_, G.kept, G.a0⟩
  · exact (G.rows id r (h2 id r hr)).up (Nat.le_refl _) (fun _ _ _ => rfl) (fun b _ => hA b) (fun _ _ => rfl)
  · obtain ⟨v, a, b⟩ := G.env k h (h1 k h hk)
    exact ⟨v, a, b.up (Nat.le_refl _) (fun _ _ _ => rfl) (fun b _ => hA b) (Nat.le_refl _)⟩
theorem Inv.agree {look' : Nat → Option Value} (I : Inv c S look w) (h : ∀ k x, hlk S.env k = some x → look' k = look k) : Inv c S look' w := by
  obtain ⟨ρ, xs, G⟩ := I
  exact ⟨ρ, xs, G.rows, G.apart, fun k x hk => by rw [h k x hk]; exact G.env k x hk, G.kept, G.a0⟩
theorem Inv.keep (I : Inv c S look w) (ks ids : List Nat) : Inv c (S.keep ks ids) look w := I.less (fun k h e => (hkeep_get e).2) (fun k h e => rkeep_get e)
theorem HW.mono {x : Code} (h : HW P N x Q S) (hq : ∀ e S, Q e S → Q' e S) : HW P N x Q' S :=
  fun c l w I => (h c l w I).mono fun e l' w' ⟨S', I', q⟩ => ⟨S', I', hq e S' q⟩
theorem qE {x y : Code} (h : HW P N x (hseqQ (fun S => HW P N y Q S) Q) S) : HW P N (.seq x y) Q S := fun c l w I =>
  W_seq ((h c l w I).mono fun e l' w' ⟨S', I', q⟩ => by
    cases e with
    | normal => exact q c l' w' I'
    | _ => exact ⟨S', I', q⟩)
theorem qJ {id : Nat} {ops : List Oper} (h : ∀ K : HS → Prop, (∀ S', Q .normal S' → K S') → HV2 P N (dsts ops) K ops S) : HW P N (.region id ops.toArray false) Q S := fun c l w I =>
  W_region fun K hK => by
    have := HV2_VC (c := c) ops S l w (h (Q .normal) fun _ h => h) I
    exact (V.mono this fun l' w' h => hK l' w' h)
where V.mono {ds : List (Option Nat)} {K K' : Env → World → Prop} : ∀ {ops : List Oper} {l : Env} {w : World}, VC P N ds K ops l w → (∀ l w, K l w → K' l w) → VC P N ds K' ops l w
  | [], l, w, h, hk => hk _ _ h
  | o :: rest, l, w, h, hk => by
    rw [VC] at h ⊢
    obtain ⟨b, hb, hd, h⟩ := gd_val h
    have conv : ∀ {k : Bool → Prop}, k b → gd l ds o.guard k := by
      intro k hkb
      unfold gd at hb ⊢
      split
      · rename_i hg; rw [hg] at hb; dsimp only at hb; rw [hb]; exact hkb
      · rename_i j want hg
        rw [hg] at hb
        dsimp only at hb
        split
        · rename_i d hd'
          rw [hd'] at hb
          dsimp only at hb
          split
          · rename_i b' hb'; rw [hb'] at hb; dsimp only at hb; rw [hb]; exact hkb
          · rename_i v hv hb'
            rw [hb'] at hb
            cases v <;> dsimp only at hb <;> first | (exact (hv _ rfl).elim) | (rw [hb]; exact hkb)
          · rename_i hb'; rw [hb'] at hb; exact hb.elim
        · rename_i hn
          split at hb
          · rename_i d hd'; exact (hn d hd').elim
          · exact hb.elim
    refine conv ⟨hd, ?_⟩
    cases b with
    | true => exact vcOp_mono h fun v w' hv => V.mono hv hk
    | false => exact V.mono h hk
theorem qC (h : Q .normal S) : HW P N .skip Q S := fun c l w I => W_skip ⟨S, I, h⟩
theorem qW (h : Q .ret S) : HW P N .ret Q S := fun c l w I => W_ret ⟨S, I, h⟩
theorem qT {id : Nat} (h : Q (.exit id) S) : HW P N (.exit id) Q S := fun c l w I => W_exit ⟨S, I, h⟩
theorem HW_cond {x : Operand} {a b : Code} {t : Bool} (hx : hev S.env x = some (.v (.bool t))) (ht : t = true → HW P N a Q S) (hf : t = false → HW P N b Q S) : HW P N (.cond x a b) Q S := fun c l w I => by
  obtain ⟨ρ, xs, G⟩ := I
  obtain ⟨v, h1, h2⟩ := G.ev (agr_self _ l) hx
  have := repH_v h2
  subst this
  exact W_cond h1 (fun e => ht e c l w ⟨ρ, xs, G⟩) (fun e => hf e c l w ⟨ρ, xs, G⟩)
theorem zD {x : Operand} {a b : Code} (hx : hev S.env x = some (.v (.bool true))) (ht : HW P N a Q S) : HW P N (.cond x a b) Q S := HW_cond hx (fun _ => ht) (fun h => by cases h)
theorem zC {x : Operand} {a b : Code} (hx : hev S.env x = some (.v (.bool false))) (hf : HW P N b Q S) : HW P N (.cond x a b) Q S := HW_cond hx (fun h => by cases h) (fun _ => hf)
theorem qD {id : Nat} {x : Code} (h : HW P N x (hblkQ id Q) S) : HW P N (.block id x) Q S := fun c l w I =>
  W_block ((h c l w I).mono fun e l' w' ⟨S', I', q⟩ => by
    cases e with
    | exit id' =>
      simp only [blkQ]
      simp only [hblkQ] at q
      split
      · rename_i e; rw [if_pos e] at q; exact ⟨S', I', q⟩
      · rename_i e; rw [if_neg e] at q; exact ⟨S', I', q⟩
    | _ => exact ⟨S', I', q⟩)
theorem qA {K : HS → Prop} (h : K S) : hseqQ K Q .normal S := h
theorem qK {K : HS → Prop} (h : Q .ret S) : hseqQ K Q .ret S := h
theorem qG {K : HS → Prop} {id : Nat} (h : Q (.exit id) S) : hseqQ K Q (.exit id) S := h
theorem qB {id : Nat} (h : Q .normal S) : hblkQ id Q .normal S := h
theorem qL {id : Nat} (h : Q .ret S) : hblkQ id Q .ret S := h
theorem qH {id : Nat} (h : Q .normal S) : hblkQ id Q (.exit id) S := by simp only [hblkQ, if_true]; exact h
theorem qF {id id' : Nat} (hne : (id' == id) = false) (h : Q (.exit id') S) : hblkQ id Q (.exit id') S := by simp only [hblkQ]; rw [if_neg (by simpa using hne)]; exact h
theorem zB {x : Code} (ks ids : List Nat) {S' : HS} (he : S.keep ks ids = S') (h : HW P N x Q S') : HW P N x Q S := fun c l w I => h c l w (by rw [← he]; exact I.keep ks ids)
theorem HW_loop {ι : Type} {x : Code} (E : ι → HS) (I : ι → Prop) (μ : ι → Nat) (ks ids : List Nat) (i : ι) (h0 : S.keep ks ids = E i) (hI : I i)
    (round : ∀ i, I i → HW P N x (hseqQ (fun S' => ∃ j, S'.keep ks ids = E j ∧ I j ∧ μ j < μ i) Q) (E i)) : HW P N (.loop x) Q S := fun c l w Iv => by
  refine W_loop (ι := ι × Env) (fun p => p.2) (fun p w => Inv c (E p.1) (lk p.2) w ∧ I p.1) (fun p => μ p.1) ks (i, keep ks l) rfl ⟨?_, hI⟩ ?_
  · rw [← h0]
    exact (Iv.keep ks ids).agree fun k h hk => keep_lk (hkeep_get hk).1
  · rintro ⟨j, l1⟩ w1 ⟨I1, hj⟩
    refine (round j hj c l1 w1 I1).mono fun e l' w' ⟨S', I', q⟩ => ?_
    cases e with
    | normal =>
      obtain ⟨j', hE, hI', hμ⟩ := q
      refine ⟨(j', keep ks l'), rfl, ⟨?_, hI'⟩, hμ⟩
      rw [← hE]
      exact (I'.keep ks ids).agree fun k h hk => keep_lk (hkeep_get hk).1
    | _ => exact ⟨S', I', q⟩
def hkeys (l : HEnv) : List Nat := l.map (·.1)
theorem hkeys_get : ∀ {l : HEnv} {k : Nat}, k ∈ hkeys l → ∃ h, hlk l k = some h
  | [], k, h => by simp [hkeys] at h
  | (j, x) :: r, k, h => by
    simp only [hlk]
    by_cases e : j = k
    · exact ⟨x, by rw [if_pos e]⟩
    · rw [if_neg e]
      refine hkeys_get ?_
      simp only [hkeys, List.map_cons, List.mem_cons] at h
      rcases h with h | h
      · exact absurd h.symm e
      · exact h
theorem keysE_keep {ks : List Nat} {l : Env} (h : ∀ k ∈ ks, ∃ v, lk l k = some v) : keysE (keep ks l) = ks := by
  induction ks with
  | nil => rfl
  | cons a r ih =>
    obtain ⟨v, hv⟩ := h a (by simp)
    simp only [keep, hv, keysE, List.map_cons]
    congr 1
    exact ih fun k hk => h k (by simp [hk])
theorem HW_drw {id : Nat} {ops : List Oper} (n : Nat) (hm : P.follows .mixedOrders = true) (hok : regOk (hkeys S.env) ops n = true)
    (h : ∀ K : HS → Prop, (∀ S', Q .normal S' → K S') → HVq P N (dsts ops) (fun S' => HStop (HV2 P N (dsts ops) K (ops.drop n)) S') (ops.take n) S) : HW P N (.region id ops.toArray true) Q S := fun c l w I => by
  have hks : ∀ k ∈ hkeys S.env, ∃ v, lk l k = some v := fun k hk => by
    obtain ⟨x, hx⟩ := hkeys_get hk
    obtain ⟨ρ, xs, G⟩ := I
    obtain ⟨v, h1, -⟩ := G.env k x hx
    exact ⟨v, h1⟩
  refine W_keep (hkeys S.env) ?_
  have I' : Inv c S (lk (keep (hkeys S.env) l)) w := I.agree fun k x hk => keep_lk (by
    have : ∀ (e : HEnv), hlk e k = some x → k ∈ hkeys e := by
      intro e
      induction e with
      | nil => intro h; simp [hlk] at h
      | cons p r ih =>
        obtain ⟨j, y⟩ := p
        intro h
        simp only [hlk] at h
        by_cases ej : j = k
        · simp [hkeys, ej]
        · rw [if_neg ej] at h
          have := ih h
          simp only [hkeys, List.map_cons, List.mem_cons]
          exact .inr this
    exact this _ hk)
  refine W_drawn (hkeys S.env) n hm (keysE_keep hks) hok fun K hK => ?_
  refine VCq.mono' (HVq_VCq _ _ _ (h (Q .normal) fun _ h => h) I') fun l' ⟨S1, I1, h1⟩ w' hw' => ?_
  have I2 : Inv c S1 (lk l') w' := by obtain ⟨ρ, xs, G⟩ := I1; exact ⟨ρ, xs, G.below hw'⟩
  exact V2.mono' (HV2_VC _ _ _ _ h1 I2) fun l2 w2 h2 => hK l2 w2 h2
where
  V2.mono' {ds : List (Option Nat)} {K K' : Env → World → Prop} {ops : List Oper} {l : Env} {w : World} (h : VC P N ds K ops l w) (hk : ∀ l w, K l w → K' l w) : VC P N ds K' ops l w := qJ.V.mono h hk
  VCq.mono' {ds : List (Option Nat)} {w : World} {K K' : Env → Prop} : ∀ {ops : List Oper} {l : Env}, VCq P N ds w K ops l → (∀ l, K l → K' l) → VCq P N ds w K' ops l
  | [], l, h, hk => hk _ h
  | o :: rest, l, h, hk => by
    rw [VCq] at h ⊢
    obtain ⟨b, hb, hd, h⟩ := gd_val h
    have conv : ∀ {k : Bool → Prop}, k b → gd l ds o.guard k := by
      intro k hkb
      unfold gd at hb ⊢
      split
      · rename_i hg; rw [hg] at hb; dsimp only at hb; rw [hb]; exact hkb
      · rename_i j want hg
        rw [hg] at hb
        dsimp only at hb
        split
        · rename_i d hd'
          rw [hd'] at hb
          dsimp only at hb
          split
          · rename_i b' hb'; rw [hb'] at hb; dsimp only at hb; rw [hb]; exact hkb
          · rename_i v hv hb'
            rw [hb'] at hb
            cases v <;> dsimp only at hb <;> first | (exact (hv _ rfl).elim) | (rw [hb]; exact hkb)
          · rename_i hb'; rw [hb'] at hb; exact hb.elim
        · rename_i hn
          split at hb
          · rename_i d hd'; exact (hn d hd').elim
          · exact hb.elim
    refine conv ⟨hd, ?_⟩
    cases b with
    | true => exact vcQ_mono h fun v hv => VCq.mono' hv hk
    | false => exact VCq.mono' h hk
end
end Go.Eng
end

section
set_option linter.unusedSimpArgs false
set_option linter.unusedVariables false
namespace Go.Eng
open Go Go.RowKit

inductive FreshF : FV → Prop
  | v (x : Value) : FreshF (.v x)
  | lst {xs : List (List FV)} (h : ∀ x ∈ xs, ∀ f ∈ x, FreshF f) : FreshF (.lst true xs)
inductive FreshH : HV → Prop
  | v (x : Value) : FreshH (.v x)
  | lst {fr : Bool} {xs : List (List FV)} (h : FreshF (.lst fr xs)) : FreshH (.lst fr xs)
  | own (id : Nat) : FreshH (.own id)
  | vw (id sz o n : Nat) : FreshH (.vw id sz o n)
  | ptr (id sz i k : Nat) : FreshH (.ptr id sz i k)
  | agg {hs : List HV} (h : ∀ x ∈ hs, FreshH x) : FreshH (.agg hs)
  | tup {hs : List HV} (h : ∀ x ∈ hs, FreshH x) : FreshH (.tup hs)
  | junk : FreshH .junk
def FreshR : Row → Prop
  | .sl nw _ _ els => nw = true ∧ ∀ x ∈ els, ∀ f ∈ x, FreshF f
  | .bx nw _ cells => nw = true ∧ ∀ x ∈ cells, FreshH x
  | .hl nw _ _ els => nw = true ∧ ∀ x ∈ els, ∀ f ∈ x, FreshH f
def HV.ren (m : Nat → Option Nat) : HV → HV
  | .own i => match m i with
    | some j => .own j
    | none => .junk
  | .vw i sz o n => match m i with
    | some j => .vw j sz o n
    | none => .junk
  | .ptr i sz j k => match m i with
    | some i' => .ptr i' sz j k
    | none => .junk
  | .agg cs => .agg (cs.map (ren m))
  | .tup cs => .tup (cs.map (ren m))
  | .v x => .v x
  | .lst fr xs => .lst fr xs
  | .elt fr xs sz i k => .elt fr xs sz i k
  | .junk => .junk
def Row.ren (m : Nat → Option Nat) : Row → Row
  | .sl n t s xs => .sl n t s xs
  | .bx n t cs => .bx n t (cs.map (HV.ren m))
  | .hl n t s xs => .hl n t s (xs.map (List.map (HV.ren m)))
def FV.old : FV → FV
  | .v x => .v x
  | .lst _ xs => .lst false (xs.map fun x => x.map old)
termination_by x => SizeOf.sizeOf x
decreasing_by
  rename_i h1 _ h2
  have a := List.sizeOf_lt_of_mem h1
  have b := List.sizeOf_lt_of_mem h2
  simp only [FV.lst.sizeOf_spec]
  omega
def olds (xs : List (List FV)) : List (List FV) := xs.map fun x => x.map FV.old
section
variable {P : Program} {N : Nat} {c : Ctx} {S S' : HS} {Q Q' : HPost} {l : Env} {look : Nat → Option Value} {w w' : World} {ρ ρ' : Nat → Value} {xs : Nat → List Value} {A A' : Nat → Prop} {n0 n1 : Nat}
theorem RepF.fresh {v : Value} {x : FV} (h : RepF w A n0 v x) (hf : FreshF x) : RepF w (fun b => A b ∨ b < n0) n0 v x := by
  induction h with
  | v x => exact .v x
  | lst sz vals hn hc hm hnil hsz ha h1 hr ih =>
    cases hf with
    | lst hf =>
    refine .lst sz vals hn hc hm hnil hsz (fun h0 => ?_) h1 (fun i k hi hk => ih i k hi hk (hf _ (List.getElem_mem hi) _ (List.getElem_mem hk)))
    obtain ⟨b, off, ea, h2, h3, h4, h5⟩ := ha h0
    exact ⟨b, off, ea, fun h => h.elim h2 (by have := h4 rfl; omega), h3, h4, h5⟩
theorem RepH.fresh {v : Value} {x : HV} (h : RepH w A n0 ρ v x) (hf : FreshH x) : RepH w (fun b => A b ∨ b < n0) n0 ρ v x := by
  induction h with
  | v x => exact .v x
  | lst h => cases hf with | lst hf => exact .lst (h.fresh hf)
  | own id h1 => exact .own id h1
  | vw sz off m h a b d x e => exact .vw sz off m h a b d x e
  | ptr sz i k h => exact .ptr sz i k h
  | elt h h1 h2 => cases hf
  | agg hn h1 h ih => cases hf with | agg hf => exact .agg hn h1 fun j a b => ih j a b (hf _ (List.getElem_mem b))
  | tup hn h ih => cases hf with | tup hf => exact .tup hn fun j a b => ih j a b (hf _ (List.getElem_mem b))
  | junk v => exact .junk v
theorem RepH.ren {v : Value} {x : HV} {m : Nat → Option Nat} (h : RepH w A n0 ρ v x) (hm : ∀ i j, m i = some j → ρ' j = ρ i) : RepH w A n0 ρ' v (x.ren m) := by
  induction h with
  | v x => rw [HV.ren]; exact .v x
  | lst h => rw [HV.ren]; exact .lst h
  | own j h1 =>
    rw [HV.ren]
    split
    · rename_i k e; rw [← hm j k e]; exact .own k (by rw [hm j k e]; exact h1)
    · exact .junk _
  | vw sz off m' h a b d x e =>
    rw [HV.ren]
    split
    · rename_i k' ek; exact .vw sz off m' (by rw [hm _ k' ek]; exact h) a b d x e
    · exact .junk _
  | ptr sz i k h =>
    rw [HV.ren]
    split
    · rename_i k' e; exact .ptr sz i k (by rw [hm _ k' e]; exact h)
    · exact .junk _
  | elt h h1 h2 => rw [HV.ren]; exact .elt h h1 h2
  | agg hn h1 h ih =>
    rw [HV.ren]
    exact .agg (by simpa using hn) h1 (fun j a b => by rw [List.getElem_map]; exact ih j a (by simpa using b))
  | tup hn h ih =>
    rw [HV.ren]
    exact .tup (by simpa using hn) (fun j a b => by rw [List.getElem_map]; exact ih j a (by simpa using b))
  | junk v => rw [HV.ren]; exact .junk v
theorem RepF.old {v : Value} {x : FV} (h : RepF w A n0 v x) (hs : w.heap.size ≤ w'.heap.size) (hb : ∀ b, b < w.heap.size → ¬ A b → w'.heap[b]? = w.heap[b]?) (hA : ∀ b, b < w.heap.size → A' b → A b) : RepF w' A' n1 v x.old := by
  induction h with
  | v x => rw [FV.old]; exact .v x
  | lst sz vals hn hc hm hnil hsz ha h1 hr ih =>
    rw [FV.old]
    refine .lst sz vals (by simpa using hn) hc hm hnil (fun x hx => ?_) (fun h0 => ?_) h1 (fun i k hi hk => ?_)
    · obtain ⟨y, hy, rfl⟩ := List.mem_map.1 hx
      rw [List.length_map]; exact hsz y hy
    · obtain ⟨b, off, ea, h2, h3, h4, h5⟩ := ha h0
      exact ⟨b, off, ea, fun hA' => h2 (hA b h3 hA'), by omega, fun hf => by (cases hf), fun i k hi hk => by rw [cell_block (hb b h3 h2)]; exact h5 i k hi hk⟩
    · have hi' := hi
      rw [List.length_map] at hi'
      have hk' := hk
      simp only [List.getElem_map, List.length_map] at hk'
      simp only [List.getElem_map]
      exact ih i k hi' hk'
def HFun (P : Program) (f : FuncId) (args : List HV) (Q : HV → Store → Prop) : Prop :=
  ∀ (w : World) (vs : List Value), Reps w (fun _ => False) w.heap.size (fun _ => undef) vs args →
    Calls P f vs.toArray w (Ret fun v w' => Below w.heap.size w w' ∧ ∃ h st', (∀ i r, rlk st' i = some r → i < 8) ∧ Q h st' ∧ InvV (cx w (fun _ => False) (fun b => b < w.heap.size)) ⟨[], st'⟩ h v (fun _ => none) w')
theorem HFun.mono {f : FuncId} {args : List HV} {Q Q' : HV → Store → Prop} (h : HFun P f args Q) (hq : ∀ h st, Q h st → Q' h st) : HFun P f args Q' :=
  fun w vs hr => Ret.mono (h w vs hr) fun v w' ⟨B, x, st', h8, q, I⟩ => ⟨B, x, st', h8, hq _ _ q, I⟩
def argsH : Nat → List HV → HEnv
  | _, [] => []
  | k, v :: r => (k, v) :: argsH (k + 1) r
def pos (ids : List Nat) (i : Nat) : Option Nat := match ids with
  | [] => none
  | k :: r => if k = i then some 0 else (pos r i).map (· + 1)
def rpick (m : Nat → Option Nat) (st : Store) : Nat → List Nat → Store
  | _, [] => []
  | k, id :: r => match rlk st id with
    | some row => (k, row.ren m) :: rpick m st (k + 1) r
    | none => rpick m st (k + 1) r
def dup : List Nat → Bool
  | [] => false
  | k :: r => r.contains k || dup r
def HRes (S : HS) (h : HV) (Q : HV → Store → Prop) : Prop :=
  ∃ ids, ids.length ≤ 8 ∧ dup ids = false ∧ FreshH h ∧ (∀ id ∈ ids, ∀ r, rlk S.st id = some r → FreshR r) ∧ Q (h.ren (pos ids)) (rpick (pos ids) S.st 0 ids)
def htup : List HV → HV
  | [h] => h
  | hs => .tup hs
def resH (P : Program) (S : HS) : List ResultVar → (List HV → Prop) → Prop
  | [], K => K []
  | .tmp t :: r, K => match hlk S.env t with
    | some h => resH P S r fun hs => K (h :: hs)
    | none => False
  | _, _ => False
def hfunQ (P : Program) (rs : List ResultVar) (Q : HV → Store → Prop) : HPost
  | .normal, S => resH P S rs fun hs => HRes S (htup hs) Q
  | .ret, S => resH P S rs fun hs => HRes S (htup hs) Q
  | _, _ => False
theorem argsH_get : ∀ (hs : List HV) (k t : Nat) (h : HV), hlk (argsH k hs) t = some h → k ≤ t ∧ hs[t - k]? = some h
  | [], k, t, h, e => by simp [argsH, hlk] at e
  | x :: r, k, t, h, e => by
    simp only [argsH, hlk] at e
    by_cases ek : k = t
    · subst ek; rw [if_pos rfl] at e; simp only [Option.some.injEq] at e; subst e; exact ⟨Nat.le_refl _, by simp⟩
    · rw [if_neg ek] at e
      obtain ⟨h1, h2⟩ := argsH_get r (k + 1) t h e
      refine ⟨by omega, ?_⟩
      rw [show t - k = (t - (k + 1)) + 1 by omega]
      simpa using h2
theorem argsE_at : ∀ (vs : List Value) (k t : Nat) (v : Value), k ≤ t → vs[t - k]? = some v → lk (argsE k vs) t = some v
  | [], k, t, v, h1, h2 => by simp at h2
  | u :: r, k, t, v, h1, h2 => by
    simp only [argsE, lk]
    by_cases e : k = t
    · subst e; rw [if_pos rfl]; simpa using h2
    · rw [if_neg e]
      refine argsE_at r (k + 1) t v (by omega) ?_
      rw [show t - k = (t - (k + 1)) + 1 by omega] at h2
      simpa using h2
theorem pos_get {ids : List Nat} : ∀ {i j : Nat}, pos ids i = some j → ids[j]? = some i := by
  induction ids with
  | nil => intro i j h; simp [pos] at h
  | cons k r ih =>
    intro i j h
    simp only [pos] at h
    by_cases e : k = i
    · subst e; rw [if_pos rfl] at h; simp only [Option.some.injEq] at h; subst h; rfl
    · rw [if_neg e] at h
      cases hr : pos r i with
      | none => rw [hr] at h; cases h
      | some j' => rw [hr] at h; simp only [Option.map_some, Option.some.injEq] at h; subst h; simpa using ih hr
theorem rpick_get {m : Nat → Option Nat} {st : Store} : ∀ {ids : List Nat} {k j : Nat} {r : Row}, rlk (rpick m st k ids) j = some r → k ≤ j ∧ ∃ id r0, ids[j - k]? = some id ∧ rlk st id = some r0 ∧ r = r0.ren m
  | [], k, j, r, h => by simp [rpick, rlk] at h
  | id :: rest, k, j, r, h => by
    simp only [rpick] at h
    have tail : rlk (rpick m st (k + 1) rest) j = some r → k ≤ j ∧ ∃ id' r0, (id :: rest)[j - k]? = some id' ∧ rlk st id' = some r0 ∧ r = r0.ren m := by
      intro h
      obtain ⟨h1, id', r0, h2, h3, h4⟩ := rpick_get h
      refine ⟨by omega, id', r0, ?_, h3, h4⟩
      rw [show j - k = (j - (k + 1)) + 1 by omega]
      simpa using h2
    split at h
    · rename_i row hrow
      simp only [rlk] at h
      by_cases e : k = j
      · subst e
        rw [if_pos rfl] at h
        simp only [Option.some.injEq] at h
        exact ⟨Nat.le_refl _, id, row, by simp, hrow, h.symm⟩
      · rw [if_neg e] at h; exact tail h
    · exact tail h
theorem dup_ne {ids : List Nat} (h : dup ids = false) : ∀ {i j a : Nat}, ids[i]? = some a → ids[j]? = some a → i = j := by
  induction ids with
  | nil => intro i j a h1; simp at h1
  | cons k r ih =>
    simp only [dup, Bool.or_eq_false_iff] at h
    intro i j a h1 h2
    have nm : ∀ n, r[n]? = some k → False := fun n hn => by
      have := List.mem_of_getElem? hn
      have h0 := h.1
      rw [List.contains_eq_mem] at h0
      simp [this] at h0
    cases i with
    | zero =>
      simp only [List.getElem?_cons_zero, Option.some.injEq] at h1
      subst h1
      cases j with
      | zero => rfl
      | succ j => exact (nm j (by simpa using h2)).elim
    | succ i =>
      cases j with
      | zero =>
        simp only [List.getElem?_cons_zero, Option.some.injEq] at h2
        subst h2
        exact (nm i (by simpa using h1)).elim
      | succ j => exact congrArg (· + 1) (ih h.2 (i := i) (j := j) (a := a) (by simpa using h1) (by simpa using h2))
theorem Row.ren_facts (m : Nat → Option Nat) (r : Row) : (r.ren m).ty = r.ty ∧ (r.ren m).sz = r.sz ∧ (r.ren m).len = r.len ∧ (r.ren m).nw = r.nw := by cases r <;> simp [Row.ren, Row.ty, Row.sz, Row.len, Row.nw]
theorem res_good {w0 : World} (G : Good (cx w0 (fun _ => False) (fun _ => False)) S look w ρ xs) {v : Value} {h : HV} (hr : RepH w (Ctx.A (cx w0 (fun _ => False) (fun _ => False)) ρ S.st) w0.heap.size ρ v h) {Q : HV → Store → Prop} (R : HRes S h Q) :
    Below w0.heap.size w0 w ∧ ∃ h st', (∀ i r, rlk st' i = some r → i < 8) ∧ Q h st' ∧ InvV (cx w0 (fun _ => False) (fun b => b < w0.heap.size)) ⟨[], st'⟩ h v (fun _ => none) w := by
  obtain ⟨ids, hlen, hd, hf, hfr, q⟩ := R
  refine ⟨G.kept.below (fun _ _ h => h), h.ren (pos ids), _, fun i r hi => ?_, q, fun j => ρ (ids.getD j 0), fun j => xs (ids.getD j 0), ?_, ?_⟩
  · obtain ⟨_, id, r0, h2, -⟩ := rpick_get hi
    have := (List.getElem?_eq_some_iff.1 h2).1
    omega
  · have hm : ∀ i j, pos ids i = some j → ρ (ids.getD j 0) = ρ i := fun i j h => by rw [List.getD_eq_getElem?_getD, pos_get h]; rfl
    have hA : ∀ b, Ctx.A (cx w0 (fun _ => False) (fun b => b < w0.heap.size)) (fun j => ρ (ids.getD j 0)) (rpick (pos ids) S.st 0 ids) b → (Ctx.A (cx w0 (fun _ => False) (fun _ => False)) ρ S.st b ∨ b < w0.heap.size) := by
      rintro b (h0 | ⟨i, s, hi, hb⟩)
      · exact .inr h0
      · obtain ⟨_, id, r0, h2, h3, -⟩ := rpick_get hi
        rw [Nat.sub_zero] at h2
        try dsimp only at hb
        rw [List.getD_eq_getElem?_getD, h2, Option.getD_some] at hb
        exact .inl (.inr ⟨id, r0, h3, hb⟩)
    refine ⟨fun i r hi => ?_, fun i j r s b hne hi hj hbi hbj => ?_, fun k x hk => by simp [hlk] at hk, G.kept, fun b hb => ⟨hb, fun h => h⟩⟩
    · obtain ⟨_, id, r0, h2, h3, rfl⟩ := rpick_get hi
      rw [Nat.sub_zero] at h2
      have e : ids.getD i 0 = id := by rw [List.getD_eq_getElem?_getD, h2]; rfl
      have R0 := G.rows id r0 h3
      have F0 := hfr id (List.mem_of_getElem? h2) r0 h3
      obtain ⟨f1, f2, f3, f4⟩ := Row.ren_facts (pos ids) r0
      refine ⟨by rw [f1, f2, f3]; (try dsimp only); rw [e]; exact R0.own, ?_, fun b hb => ?_⟩
      · have := R0.rep
        cases r0 with
        | sl nw ty sz els =>
          refine ⟨this.1, fun a k ha hk => ?_⟩
          obtain ⟨u, u1, u2, u3⟩ := this.2 a k ha hk
          try dsimp only
          rw [e]
          refine ⟨u, u1, u2, ?_⟩
          exact (u3.fresh (F0.2 _ (List.getElem_mem ha) _ (List.getElem_mem hk))).up (Nat.le_refl _) (fun _ _ _ => rfl) (fun b _ => hA b) (Nat.le_refl _)
        | bx nw ty cells =>
          refine ⟨by (try dsimp only); rw [e]; exact this.1, fun k hk => ?_⟩
          rw [List.length_map] at hk
          obtain ⟨u, u1, u2, u3⟩ := this.2 k hk
          try dsimp only
          rw [e]
          refine ⟨u, u1, u2, ?_⟩
          rw [List.getElem_map]
          exact ((u3.fresh (F0.2 _ (List.getElem_mem hk))).up (Nat.le_refl _) (fun _ _ _ => rfl) (fun b _ => hA b) (Nat.le_refl _)).ren hm
        | hl nw ty sz els =>
          refine ⟨fun x hx => ?_, fun a k ha hk => ?_⟩
          · obtain ⟨y, hy, rfl⟩ := List.mem_map.1 hx
            rw [List.length_map]; exact this.1 y hy
          · simp only [List.length_map] at ha
            simp only [List.getElem_map, List.length_map] at hk ⊢
            obtain ⟨u, u1, u2, u3⟩ := this.2 a k ha hk
            try dsimp only
            rw [e]
            exact ⟨u, u1, u2, ((u3.fresh (F0.2 _ (List.getElem_mem ha) _ (List.getElem_mem hk))).up (Nat.le_refl _) (fun _ _ _ => rfl) (fun b _ => hA b) (Nat.le_refl _)).ren hm⟩
      · try dsimp only at hb
        rw [e] at hb
        rw [f4]
        exact R0.new b hb
    · obtain ⟨_, a, r0, h2, h3, -⟩ := rpick_get hi
      obtain ⟨_, d, s0, h4, h5, -⟩ := rpick_get hj
      rw [Nat.sub_zero] at h2 h4
      try dsimp only at hbi hbj
      rw [List.getD_eq_getElem?_getD, h2, Option.getD_some] at hbi
      rw [List.getD_eq_getElem?_getD, h4, Option.getD_some] at hbj
      exact G.apart a d r0 s0 b (fun e => hne (by subst e; exact dup_ne hd h2 h4)) h3 h5 hbi hbj
  · have hm : ∀ i j, pos ids i = some j → ρ (ids.getD j 0) = ρ i := fun i j h => by rw [List.getD_eq_getElem?_getD, pos_get h]; rfl
    refine ((hr.fresh hf).up (Nat.le_refl _) (fun _ _ _ => rfl) (fun b _ => ?_) (Nat.le_refl _)).ren hm
    rintro (h0 | ⟨i, s, hi, hb⟩)
    · exact .inr h0
    · obtain ⟨_, id, r0, h2, h3, -⟩ := rpick_get hi
      rw [Nat.sub_zero] at h2
      try dsimp only at hb
      rw [List.getD_eq_getElem?_getD, h2, Option.getD_some] at hb
      exact .inl (.inr ⟨id, r0, h3, hb⟩)
theorem resH_resE (G : Good c S (lk l) w ρ xs) : ∀ (rs : List ResultVar) (K : List HV → Prop), resH P S rs K → resE P l w rs fun vs => ∃ hs, K hs ∧ Reps w (c.A ρ S.st) c.n0 ρ vs hs
  | [], K, h => ⟨[], h, rfl, fun i a => absurd a (by simp)⟩
  | .tmp t :: r, K, h => by
    simp only [resH] at h
    simp only [resE]
    split at h
    · rename_i x hx
      obtain ⟨v, h1, h2⟩ := G.env t x hx
      rw [h1]
      dsimp only
      refine resE_mono (resH_resE G r _ h) fun vs ⟨hs, hK, e1, e2⟩ => ⟨_, hK, by simp [e1], fun i a b => ?_⟩
      cases i with
      | zero => exact h2
      | succ i => exact e2 i (by simpa using a) (by simpa using b)
    · exact h.elim
  | .cell p t :: r, K, h => by simp only [resH] at h
where
  resE_mono {l : Env} {w : World} : ∀ {rs : List ResultVar} {K K' : List Value → Prop}, resE P l w rs K → (∀ vs, K vs → K' vs) → resE P l w rs K'
  | [], K, K', h, hk => hk _ h
  | .tmp t :: r, K, K', h, hk => by
    simp only [resE] at h ⊢
    split at h
    · exact resE_mono h fun vs hv => hk _ hv
    · exact h.elim
  | .cell p t :: r, K, K', h, hk => by
    simp only [resE] at h ⊢
    split at h
    · split at h
      · split at h
        · exact resE_mono h fun vs hv => hk _ hv
        · exact h.elim
      · obtain ⟨cs, a, h⟩ := h; exact ⟨cs, a, resE_mono h fun vs hv => hk _ hv⟩
      · exact h.elim
    · exact h.elim
end
end Go.Eng
end

section
set_option linter.unusedSimpArgs false
set_option linter.unusedVariables false
namespace Go.Eng
open Go Go.RowKit
section
variable {P : Program} {N : Nat} {c : Ctx} {S S' : HS} {Q' : HPost} {l : Env} {look : Nat → Option Value} {w w' : World} {ρ ρ' : Nat → Value} {xs : Nat → List Value} {A A' : Nat → Prop} {n0 n1 : Nat}
theorem htup_rep {vs : List Value} {hs : List HV} (R : Reps w A n0 ρ vs hs) : RepH w A n0 ρ (tup vs) (htup hs) := by
  obtain ⟨h1, h2⟩ := R
  match vs, hs, h1 with
  | [], [], _ => exact .tup rfl fun j a => absurd a (by simp)
  | [v], [h], _ => exact h2 0 (by simp) (by simp)
  | a :: b :: r, x :: y :: s, e => exact .tup (by simpa using e) fun j p q => h2 j (by simpa using p) q
theorem hfun {f : FuncId} {fn : Func} {x : Code} {args : List HV} {rs : Array ResultVar} {Q : HV → Store → Prop} (hf : P.funcs[f]? = some fn) (hb : fn.body = some x) (hN : fn.ntmps = N) (hrs : fn.results = rs) (hle : args.length ≤ N)
    (h : HW P N x (hfunQ P rs.toList Q) ⟨argsH 0 args, []⟩) : HFun P f args Q := fun w vs R => by
  refine calls_W hf hb hN hrs (by rw [R.1]; exact hle) ?_
  have I : Inv (cx w (fun _ => False) (fun _ => False)) ⟨argsH 0 args, []⟩ (lk (argsE 0 vs)) w := by
    refine ⟨fun _ => undef, fun _ => [], fun id r hr => by simp [rlk] at hr, fun i j r s b hne hi => by simp [rlk] at hi, fun k h hk => ?_, Kept.refl _ _, fun b hb => hb.elim⟩
    obtain ⟨-, h2⟩ := argsH_get args 0 k h hk
    rw [Nat.sub_zero] at h2
    obtain ⟨hlt, rfl⟩ := List.getElem?_eq_some_iff.1 h2
    have hlt' : k < vs.length := by rw [R.1]; exact hlt
    refine ⟨vs[k], argsE_at vs 0 k _ (Nat.zero_le _) (by simp [hlt']), (R.2 k hlt' hlt).up (Nat.le_refl _) (fun _ _ _ => rfl) (fun b _ hA => ?_) (Nat.le_refl _)⟩
    rcases hA with h0 | ⟨i, r, hi, -⟩
    · exact h0
    · simp [rlk] at hi
  refine (h _ _ _ I).mono fun e l' w' ⟨S', I', q⟩ => ?_
  obtain ⟨ρ, xs, G⟩ := I'
  have fin : resH P S' rs.toList (fun hs => HRes S' (htup hs) Q) → resE P l' w' rs.toList fun vs => Below w.heap.size w w' ∧ ∃ h st', (∀ i r, rlk st' i = some r → i < 8) ∧ Q h st' ∧ InvV (cx w (fun _ => False) (fun b => b < w.heap.size)) ⟨[], st'⟩ h (tup vs) (fun _ => none) w' := fun hr =>
    resH_resE.resE_mono (resH_resE G _ _ hr) fun vs ⟨hs, hR, hv⟩ => res_good G (htup_rep hv) hR
  cases e with
  | normal => exact fin q
  | ret => exact fin q
  | _ => exact q.elim
theorem repH_h {v : Value} {x : FV} (h : RepH w A n0 ρ v x.h) : RepF w A n0 v x := by
  cases x with
  | v x => cases h; exact .v _
  | lst fr xs => cases h with | lst h => exact h
inductive Lend (st : Store) : HV → HV → Prop
  | v (x : Value) : Lend st (.v x) (.v x)
  | nil : Lend st (.v (.slice none 0 0)) (.lst false [])
  | lst (fr : Bool) (xs : List (List FV)) : Lend st (.lst fr xs) (.lst false (olds xs))
  | own {id ty sz : Nat} {nw : Bool} {els : List (List FV)} (h : rlk st id = some (.sl nw ty sz els)) : Lend st (.own id) (.lst false (olds els))
  | vw {id ty sz off n : Nat} {nw : Bool} {els : List (List FV)} (h : rlk st id = some (.sl nw ty sz els)) : Lend st (.vw id sz off n) (.lst false (olds ((els.drop off).take n)))
  | agg {hs hs' : List HV} (hn : hs.length = hs'.length) (h : ∀ j (h1 : j < hs.length) (h2 : j < hs'.length), Lend st hs[j] hs'[j]) : Lend st (.agg hs) (.agg hs')
  | ownH {id ty sz : Nat} {nw : Bool} {els : List (List HV)} {ys : List (List FV)} (h : rlk st id = some (.hl nw ty sz els)) (hn : els.length = ys.length) (hw : ∀ i (h1 : i < els.length) (h2 : i < ys.length), els[i].length = ys[i].length)
    (hl : ∀ i k (h1 : i < els.length) (h2 : i < ys.length) (h3 : k < els[i].length) (h4 : k < ys[i].length), Lend st els[i][k] ys[i][k].h) : Lend st (.own id) (.lst false ys)
theorem lend_rep (G : Good c S look w ρ xs) {v : Value} {h h' : HV} (hr : RepH w (c.A ρ S.st) c.n0 ρ v h) (hl : Lend S.st h h') : RepH w (fun _ => False) w.heap.size (fun _ => undef) v h' := by
  induction hl generalizing v with
  | v x => have := repH_v hr; subst this; exact .v _
  | nil =>
    have := repH_v hr
    subst this
    exact .lst (.lst 0 (fun _ _ => .bool false) rfl (Nat.le_refl _) (Nat.zero_le _) (fun _ => rfl) (by simp) (fun h => absurd h (Nat.lt_irrefl _)) (fun i k hi => absurd hi (Nat.not_lt_zero _)) (fun i k hi => absurd hi (by simp)))
  | lst fr xs =>
    cases hr with
    | lst hF =>
    have := hF.old (A' := fun _ => False) (n1 := w.heap.size) (Nat.le_refl _) (fun _ _ _ => rfl) (fun b _ h => h.elim)
    rw [FV.old] at this
    exact .lst this
  | @own id ty sz nw els h =>
    cases hr
    obtain ⟨o1, o2, o3⟩ := rows_sl G h
    have o1' : Own w 0 ty sz (ρ id) (olds els).length (xs id) := by rw [olds, List.length_map]; exact o1
    refine .lst (row_lst o1' (fun x hx => ?_) (fun i k hi hk => ?_) (fun b _ => ⟨fun h => h, fun h => by cases h⟩))
    · obtain ⟨y, hy, rfl⟩ := List.mem_map.1 hx
      rw [List.length_map]; exact o2 y hy
    · have hi' := hi
      simp only [olds, List.length_map] at hi'
      have hk' := hk
      simp only [olds, List.getElem_map, List.length_map] at hk'
      obtain ⟨u, a, b, d⟩ := o3 i k hi' hk'
      refine ⟨u, a, b, ?_⟩
      simp only [olds, List.getElem_map]
      exact d.old (Nat.le_refl _) (fun _ _ _ => rfl) (fun b _ h => h.elim)
  | @vw id ty sz off n nw els h =>
    cases hr with
    | vw _ _ _ hg hm hc hn' hx' ha =>
    rename_i len c0 c' a a'
    obtain ⟨o1, o2, o3⟩ := rows_sl G h
    obtain ⟨q2, cap2, hg2⟩ := own_shape o1
    rw [hg] at hg2
    cases hg2
    have hle : n ≤ c' := by
      rcases o1.2 with ⟨h3, h4⟩ | ⟨g, cap', cur, h3, hb1, hb2, h4, h5, hb3⟩
      · omega
      · rw [hg] at h3; cases h3; omega
    have val : ∀ i k (hi : i < n) (hk : k < sz), ∃ u, (xs id).getD ((off + i) * sz + k) (.bool false) = u ∧ (xs id)[(off + i) * sz + k]? = some u ∧ u.oneCell' = true ∧ ∃ (h1 : off + i < els.length) (h2 : k < els[off + i].length), RepF w (c.A ρ S.st) c.n0 u els[off + i][k] := fun i k hi hk => by
      have h1 : off + i < els.length := by omega
      have h2 : k < els[off + i].length := by rw [o2 _ (List.getElem_mem h1)]; exact hk
      obtain ⟨u, p, q, r⟩ := o3 (off + i) k h1 h2
      exact ⟨u, by rw [List.getD_eq_getElem?_getD, p]; rfl, p, q, h1, h2, r⟩
    refine .lst (.lst sz (fun i k => (xs id).getD ((off + i) * sz + k) (.bool false)) (by simp [olds]; omega) hle hx' hn' (fun x hx => ?_) (fun h0 => ?_) (fun i k hi hk => ?_) (fun i k hi hk => ?_))
    · simp only [olds, List.mem_map] at hx
      obtain ⟨y, hy, rfl⟩ := hx
      rw [List.length_map]; exact o2 y (List.mem_of_mem_drop (List.mem_of_mem_take hy))
    · obtain ⟨g, rfl, rfl⟩ := ha (by omega)
      rw [hg] at o1
      have hl := o1.1
      rcases o1.2 with ⟨h3, h4⟩ | ⟨g', cap', cur, h3, hb1, hb2, h4, h5, hb3⟩
      · cases h3
      · cases h3
        refine ⟨g, off * sz, rfl, fun h => h, (Array.getElem?_eq_some_iff.1 hb2).1, fun h => (by cases h), fun i k hi hk => ?_⟩
        obtain ⟨u, p, q, -⟩ := val i k hi hk
        rw [p, ← q, ← World.ownsRow.cellAt o1 _ (by rw [← hl]; exact (List.getElem?_eq_some_iff.1 q).1)]
        congr 2
        rw [Nat.add_mul]; omega
    · obtain ⟨u, p, -, q, -⟩ := val i k hi hk
      rw [p]; exact q
    · simp only [olds, List.length_map, List.length_take, List.length_drop] at hi
      have hk' := hk
      simp only [olds, List.getElem_map, List.getElem_take, List.getElem_drop, List.length_map] at hk'
      obtain ⟨u, p, -, -, q1, q2, r⟩ := val i k (by omega) (by rw [← o2 _ (List.getElem_mem (show off + i < els.length by omega))]; exact hk')
      rw [p]
      simp only [olds, List.getElem_map, List.getElem_take, List.getElem_drop]
      exact r.old (Nat.le_refl _) (fun _ _ _ => rfl) (fun b _ h => h.elim)
  | agg hn h ih =>
    cases hr with
    | agg hn' h1 hr => exact .agg (by omega) h1 fun j a b => ih j (by omega) b (hr j a (by omega))
  | @ownH id ty sz nw els ys h hn hw hl ih =>
    cases hr
    obtain ⟨o1, o2, o3⟩ := rows_hl G h
    rw [hn] at o1
    refine .lst (row_lst o1 (fun x hx => ?_) (fun i k hi hk => ?_) (fun b _ => ⟨fun h => h, fun h => by cases h⟩))
    · obtain ⟨i, hi, rfl⟩ := List.getElem_of_mem hx
      rw [← hw i (by omega) hi]; exact o2 _ (List.getElem_mem (by omega))
    · have hk' : k < (els[i]'(by omega)).length := by rw [hw i (by omega) hi]; exact hk
      obtain ⟨u, a, b, d⟩ := o3 i k (by omega) hk'
      exact ⟨u, a, b, repH_h (ih i k (by omega) hi hk' hk d)⟩
def sh (n : Nat) : Nat → Option Nat := fun i => bif Nat.blt i 8 then some (n + i) else none
def radds (n : Nat) : Store → Store → Store
  | [], base => base
  | (k, r) :: t, base => (n + k, r.ren (sh n)) :: radds n t base
def HS.adds (S : HS) (n : Nat) (st : Store) : HS := ⟨ekill (eight n) S.env, radds n st (skill (eight n) S.st)⟩
theorem eight_iff {n i : Nat} : eight n i = true ↔ n ≤ i ∧ i < n + 8 := by simp [eight, Nat.blt_eq]
theorem rlk_radds {n : Nat} {base : Store} (hb : ∀ i, eight n i = true → rlk base i = none) : ∀ {st : Store} {i : Nat} {r : Row}, (∀ j s, rlk st j = some s → j < 8) → rlk (radds n st base) i = some r → (∃ s, n ≤ i ∧ rlk st (i - n) = some s ∧ r = s.ren (sh n)) ∨ (eight n i = false ∧ rlk base i = some r)
  | [], i, r, _, h => by
    right
    refine ⟨?_, h⟩
    cases e : eight n i with
    | false => rfl
    | true => simp only [radds] at h; rw [hb i e] at h; cases h
  | (k, s) :: t, i, r, h8, h => by
    simp only [radds, rlk] at h
    by_cases e : n + k = i
    · rw [if_pos e] at h
      simp only [Option.some.injEq] at h
      left
      refine ⟨s, by omega, ?_, h.symm⟩
      simp only [rlk]
      rw [if_pos (by omega)]
    · rw [if_neg e] at h
      have hk8 := h8 k s (by simp [rlk])
      have h8' : ∀ j s, rlk t j = some s → j < 8 := fun j s' hj => by
        by_cases ej : k = j
        · omega
        · exact h8 j s' (by simp only [rlk]; rw [if_neg ej]; exact hj)
      rcases rlk_radds hb h8' h with ⟨s', a1, a2, a3⟩ | h
      · left
        refine ⟨s', a1, ?_, a3⟩
        simp only [rlk]
        rw [if_neg (by omega)]; exact a2
      · exact .inr h
theorem Good.adds (G : Good c S look w ρ xs) (B : Below w.heap.size w w') {st : Store} (h8 : ∀ i r, rlk st i = some r → i < 8) {ρ' : Nat → Value} {xs' : Nat → List Value} (G' : Good (cx w (fun _ => False) (fun b => b < w.heap.size)) ⟨[], st⟩ (fun _ => none) w' ρ' xs') {v : Value} {h : HV}
    (hr : RepH w' (Ctx.A (cx w (fun _ => False) (fun b => b < w.heap.size)) ρ' st) w.heap.size ρ' v h) (n : Nat) : InvV c (S.adds n st) (h.ren (sh n)) v look w' := by
  have hbase : ∀ i, eight n i = true → rlk (skill (eight n) S.st) i = none := fun i hi => by rw [rlk_skill, hi]; rfl
  have hw0 : c.n0 ≤ w.heap.size := Nat.le_trans c.hn G.kept.size
  have hw1 := G.kept.size
  let ρ2 : Nat → Value := fun i => bif eight n i then ρ' (i - n) else ρ i
  have q1 : ∀ i, eight n i = false → ρ2 i = ρ i := fun i hi => by show (bif eight n i then _ else _) = _; rw [hi]; rfl
  have q2 : ∀ i j, sh n i = some j → ρ2 j = ρ' i := fun i j hj => by
    unfold sh at hj
    cases e : Nat.blt i 8 with
    | false => rw [e] at hj; cases hj
    | true =>
      rw [e] at hj
      simp only [cond_true, Option.some.injEq] at hj
      subst hj
      have : i < 8 := by simpa [Nat.blt_eq] using e
      show (bif eight n (n + i) then _ else _) = _
      rw [eight_iff.2 ⟨by omega, by omega⟩, cond_true, show n + i - n = i by omega]
  have cases2 : ∀ i r, rlk (S.adds n st).st i = some r → (∃ s, eight n i = true ∧ rlk st (i - n) = some s ∧ r = s.ren (sh n) ∧ ρ2 i = ρ' (i - n)) ∨ (∃ s, eight n i = false ∧ rlk S.st i = some s ∧ r = s.kill (eight n) ∧ ρ2 i = ρ i) := by
    intro i r hi
    rcases rlk_radds hbase h8 hi with ⟨s, a1, a2, a3⟩ | ⟨a1, a2⟩
    · left
      have := h8 _ _ a2
      have e : eight n i = true := eight_iff.2 ⟨a1, by omega⟩
      exact ⟨s, e, a2, a3, by show (bif eight n i then _ else _) = _; rw [e]; rfl⟩
    · right
      rw [rlk_skill, a1, cond_false] at a2
      cases hs : rlk S.st i with
      | none => rw [hs] at a2; cases a2
      | some s => rw [hs] at a2; simp only [Option.map_some, Option.some.injEq] at a2; exact ⟨s, a1, rfl, a2.symm, q1 i a1⟩
  have new : ∀ i s b, rlk st i = some s → (ρ' i).ownBlock = some b → w.heap.size ≤ b := fun i s b hs hb => by
    rcases ((G'.rows i s hs).new b hb).1 with h | h
    · exact h
    · exact h.elim
  have hA1 : ∀ b, b < w.heap.size → c.A ρ2 (S.adds n st).st b → c.A ρ S.st b := by
    rintro b hlt (h0 | ⟨i, r, hi, hb⟩)
    · exact .inl h0
    · rcases cases2 i r hi with ⟨s, _, a2, _, a4⟩ | ⟨s, _, a2, _, a4⟩
      · rw [a4] at hb; have := new _ s b a2 hb; omega
      · rw [a4] at hb; exact .inr ⟨i, s, a2, hb⟩
  have hA2 : ∀ b, c.A ρ2 (S.adds n st).st b → Ctx.A (cx w (fun _ => False) (fun b => b < w.heap.size)) ρ' st b := by
    rintro b (h0 | ⟨i, r, hi, hb⟩)
    · left; have := (G.a0 b h0).1; show b < w.heap.size; omega
    · rcases cases2 i r hi with ⟨s, _, a2, _, a4⟩ | ⟨s, _, a2, _, a4⟩
      · rw [a4] at hb; exact .inr ⟨_, s, a2, hb⟩
      · rw [a4] at hb; left; exact G.lt a2 hb
  have tr1 : ∀ v x, RepH w (c.A ρ S.st) c.n0 ρ v x → RepH w' (c.A ρ2 (S.adds n st).st) c.n0 ρ2 v (x.kill (eight n)) := fun v x hx => (hx.up B.size (fun b hlt _ => B.block b hlt) hA1 (Nat.le_refl _)).kill q1
  have tr2 : ∀ v x, RepH w' (Ctx.A (cx w (fun _ => False) (fun b => b < w.heap.size)) ρ' st) w.heap.size ρ' v x → RepH w' (c.A ρ2 (S.adds n st).st) c.n0 ρ2 v (x.ren (sh n)) := fun v x hx => (hx.up (Nat.le_refl _) (fun _ _ _ => rfl) (fun b _ => hA2 b) hw0).ren q2
  refine ⟨ρ2, fun i => bif eight n i then xs' (i - n) else xs i, ⟨fun i r hi => ?_, fun i j r s b hne hi hj hbi hbj => ?_, fun k x hk => ?_, ?_, G.a0⟩, tr2 _ _ hr⟩
  · rcases cases2 i r hi with ⟨s, a1, a2, rfl, a4⟩ | ⟨s, a1, a2, rfl, a4⟩
    · have R := G'.rows _ s a2
      obtain ⟨f1, f2, f3, f4⟩ := Row.ren_facts (sh n) s
      rw [a1, cond_true]
      refine ⟨by rw [f1, f2, f3, a4]; exact R.own, ?_, fun b hb => ?_⟩
      · have := R.rep
        cases s with
        | sl nw ty sz els =>
          refine ⟨this.1, fun p k hp hk => ?_⟩
          obtain ⟨u, u1, u2, u3⟩ := this.2 p k hp hk
          exact ⟨u, u1, u2, u3.up (Nat.le_refl _) (fun _ _ _ => rfl) (fun b _ => hA2 b) hw0⟩
        | bx nw ty cells =>
          refine ⟨by obtain ⟨g, e, hT⟩ := this.1; exact ⟨g, by rw [a4]; exact e, fun h => (hT h).elim⟩, fun k hk => ?_⟩
          rw [List.length_map] at hk
          obtain ⟨u, u1, u2, u3⟩ := this.2 k hk
          refine ⟨u, u1, u2, ?_⟩
          rw [List.getElem_map]
          exact tr2 _ _ u3
        | hl nw ty sz els =>
          refine ⟨fun x hx => ?_, fun p k hp hk => ?_⟩
          · obtain ⟨y, hy, rfl⟩ := List.mem_map.1 hx
            rw [List.length_map]; exact this.1 y hy
          · simp only [List.length_map] at hp
            simp only [List.getElem_map, List.length_map] at hk ⊢
            obtain ⟨u, u1, u2, u3⟩ := this.2 p k hp hk
            exact ⟨u, u1, u2, tr2 _ _ u3⟩
      · rw [a4] at hb
        have := new _ s b a2 hb
        exact ⟨.inl (by omega), fun _ => by omega⟩
    · rw [a1, cond_false]
      have R := (G.rows i s a2).up B.size (fun b hlt _ => B.block b hlt) hA1 (fun b hb => B.block b (G.lt a2 hb))
      exact R.kill q1 a1
  · rcases cases2 i r hi with ⟨s1, a1, a2, -, a4⟩ | ⟨s1, a1, a2, -, a4⟩ <;> rcases cases2 j s hj with ⟨s2, b1, b2, -, b4⟩ | ⟨s2, b1, b2, -, b4⟩
    · rw [a4] at hbi; rw [b4] at hbj
      have e1 := eight_iff.1 a1
      have e2 := eight_iff.1 b1
      exact G'.apart _ _ s1 s2 b (by omega) a2 b2 hbi hbj
    · rw [a4] at hbi; rw [b4] at hbj
      have := new _ s1 b a2 hbi
      have := G.lt b2 hbj
      omega
    · rw [a4] at hbi; rw [b4] at hbj
      have := new _ s2 b b2 hbj
      have := G.lt a2 hbi
      omega
    · rw [a4] at hbi; rw [b4] at hbj
      exact G.apart i j s1 s2 b hne a2 b2 hbi hbj
  · simp only [HS.adds, hlk_ekill] at hk
    cases hx : hlk S.env k with
    | none => rw [hx] at hk; cases hk
    | some x0 =>
      rw [hx] at hk
      simp only [Option.map_some, Option.some.injEq] at hk
      subst hk
      obtain ⟨v, h1, h2⟩ := G.env k x0 hx
      exact ⟨v, h1, tr1 v x0 h2⟩
  · exact G.kept.trans (T' := fun _ => False) ⟨B.os, B.tape, B.output, B.size, fun b hlt _ => B.block b hlt⟩ (fun _ _ h => h.elim)
inductive Lends (st : Store) : List HV → List HV → Prop
  | nil : Lends st [] []
  | cons {h h' : HV} {r r' : List HV} (a : Lend st h h') (b : Lends st r r') : Lends st (h :: r) (h' :: r')
theorem lends_rep (G : Good c S look w ρ xs) {hs hs' : List HV} {vs : List Value} (R : Reps w (c.A ρ S.st) c.n0 ρ vs hs) (L : Lends S.st hs hs') : Reps w (fun _ => False) w.heap.size (fun _ => undef) vs hs' := by
  induction L generalizing vs with
  | nil => exact ⟨R.1, fun i a b => absurd b (by simp)⟩
  | cons a b ih =>
    rename_i h h' r r'
    match vs, R.1 with
    | v :: us, e =>
      have R' : Reps w (c.A ρ S.st) c.n0 ρ us r := ⟨by simpa using e, fun i p q => by
        have := R.2 (i + 1) (by simpa using p) (by simpa using q)
        simpa using this⟩
      obtain ⟨i1, i2⟩ := ih R'
      refine ⟨by simp [i1], fun i p q => ?_⟩
      cases i with
      | zero => exact lend_rep G (R.2 0 (by simp) (by simp)) a
      | succ i => exact i2 i (by simpa using p) (by simpa using q)
theorem hat {f : FuncId} {args args' : List HV} {Q : HV → Store → Prop} {K : HV → HS → Prop} (n : Nat) (hc : callable P f = true) (H : HFun P f args' Q) (hl : Lends S.st args args') (hK : ∀ h st, Q h st → K (h.ren (sh n)) (S.adds n st)) : HAt P f args S K :=
  ⟨hc, fun c look w ρ xs vs G R => Ret.mono (H w vs (lends_rep G R hl)) fun v w' ⟨B, h, st, h8, q, ρ', xs', G', hr⟩ => ⟨_, _, hK h st q, G.adds B h8 G' hr n⟩⟩
theorem hatv {f : FuncId} {args args' : List HV} {x : Value} {K : HV → HS → Prop} (hc : callable P f = true) (H : HFun P f args' (fun h st => h = .v x)) (hl : Lends S.st args args') (hK : K (.v x) S) : HAt P f args S K :=
  ⟨hc, fun c look w ρ xs vs G R => Ret.mono (H w vs (lends_rep G R hl)) fun v w' ⟨B, h, st, h8, q, ρ', xs', G', hr⟩ => ⟨_, _, hK, ρ, xs, G.below B, by subst q; have := repH_v hr; subst this; exact .v _⟩⟩
theorem law_calls {f : FuncId} {args : List HV} {x : Value} (H : HFun P f args (fun h st => h = .v x)) {vs : List Value} (hr : Reps w (fun _ => False) w.heap.size (fun _ => undef) vs args) : Calls P f vs.toArray w (Ret fun r w' => r = x ∧ Below w.heap.size w w') :=
  Ret.mono (H w vs hr) fun v w' ⟨B, h, st, h8, q, ρ', xs', G', hr⟩ => ⟨by subst q; exact repH_v hr, B⟩
theorem HW_rest {x : Code} (id : Nat) {ty sz : Nat} {nw : Bool} {els : List (List FV)} (hr : rlk S.st id = some (.sl nw ty sz els)) (h : HW P N x Q' (S.rest id (.lst nw els))) : HW P N x Q' S := fun c l w I => h c l w (I.rest hr)
end
end Go.Eng
end

section
set_option linter.unusedSimpArgs false
set_option linter.unusedVariables false
namespace Go.Eng
open Go Go.RowKit
def isBx : Option Row → Prop
  | some (.bx false _ _) => True
  | _ => False
def HFunS (P : Program) (f : FuncId) (args : List HV) (st : Store) (Q : HV → Store → Prop) : Prop :=
  ∀ (c : Ctx) (w : World) (ρ : Nat → Value) (xs : Nat → List Value) (vs : List Value), c.w0 = w → Good c ⟨[], st⟩ (fun _ => none) w ρ xs → Reps w (c.A ρ st) c.n0 ρ vs args →
    Calls P f vs.toArray w (Ret fun v w' => ∃ h st' ρ' xs', (∀ i r, rlk st' i = some r → i < 8) ∧ (∀ j, isBx (rlk st j) → isBx (rlk st' j)) ∧ Q h st' ∧ Good c ⟨[], st'⟩ (fun _ => none) w' ρ' xs' ∧ RepH w' (c.A ρ' st') c.n0 ρ' v h)
theorem HFunS.mono {P : Program} {f : FuncId} {args : List HV} {st : Store} {Q Q' : HV → Store → Prop} (h : HFunS P f args st Q) (hq : ∀ h st, Q h st → Q' h st) : HFunS P f args st Q' :=
  fun c w ρ xs vs hw G hr => Ret.mono (h c w ρ xs vs hw G hr) fun v w' ⟨x, st', ρ', xs', a, b, q, r⟩ => ⟨x, st', ρ', xs', a, b, hq _ _ q, r⟩
def boxOk (st : Store) : Nat → List Nat → Prop
  | _, [] => True
  | k, id :: r => (isBx (rlk st id) → k = id) ∧ boxOk st (k + 1) r
def keepB (ids : List Nat) (st : Store) : Store → Prop
  | [] => True
  | (j, .bx false _ _) :: t => (ids[j]? = some j ∧ isBx (rlk st j)) ∧ keepB ids st t
  | _ :: t => keepB ids st t
def HResS (st0 : Store) (S : HS) (h : HV) (Q : HV → Store → Prop) : Prop :=
  ∃ ids, ids.length ≤ 8 ∧ dup ids = false ∧ boxOk S.st 0 ids ∧ keepB ids S.st st0 ∧ Q (h.ren (pos ids)) (rpick (pos ids) S.st 0 ids)
def hfunSQ (P : Program) (rs : List ResultVar) (st0 : Store) (Q : HV → Store → Prop) : HPost
  | .normal, S => resH P S rs fun hs => HResS st0 S (htup hs) Q
  | .ret, S => resH P S rs fun hs => HResS st0 S (htup hs) Q
  | _, _ => False
theorem boxOk_get {st : Store} : ∀ {ids : List Nat} {k j id : Nat}, boxOk st k ids → ids[j]? = some id → isBx (rlk st id) → k + j = id
  | [], k, j, id, _, h, _ => by simp at h
  | i :: r, k, j, id, hb, h, hx => by
    cases j with
    | zero => simp only [List.getElem?_cons_zero, Option.some.injEq] at h; subst h; exact hb.1 hx
    | succ j => have := boxOk_get (j := j) hb.2 (by simpa using h) hx; omega
theorem keepB_get {ids : List Nat} {st : Store} : ∀ {st0 : Store} {j : Nat}, keepB ids st st0 → isBx (rlk st0 j) → ids[j]? = some j ∧ isBx (rlk st j)
  | [], j, _, h => by simp [rlk, isBx] at h
  | (k, r) :: t, j, hk, h => by
    simp only [rlk] at h
    by_cases e : k = j
    · subst e
      rw [if_pos rfl] at h
      match r, h, hk with
      | .bx false _ _, _, hk => exact hk.1
      | .bx true _ _, h, _ => exact h.elim
      | .sl _ _ _ _, h, _ => exact h.elim
      | .hl _ _ _ _, h, _ => exact h.elim
    · rw [if_neg e] at h
      match r, hk with
      | .bx false _ _, hk => exact keepB_get hk.2 h
      | .bx true _ _, hk => exact keepB_get (st0 := t) hk h
      | .sl _ _ _ _, hk => exact keepB_get (st0 := t) hk h
      | .hl _ _ _ _, hk => exact keepB_get (st0 := t) hk h
theorem rpick_at {m : Nat → Option Nat} {st : Store} : ∀ {ids : List Nat} {k j id : Nat} {r : Row}, ids[j]? = some id → rlk st id = some r → rlk (rpick m st k ids) (k + j) = some (r.ren m)
  | [], k, j, id, r, h, _ => by simp at h
  | i :: t, k, j, id, r, h, hr => by
    cases j with
    | zero =>
      simp only [List.getElem?_cons_zero, Option.some.injEq] at h
      subst h
      simp only [rpick, hr, rlk, Nat.add_zero, if_true]
    | succ j =>
      have ih := rpick_at (m := m) (st := st) (ids := t) (k := k + 1) (j := j) (by simpa using h) hr
      rw [show k + 1 + j = k + (j + 1) by omega] at ih
      simp only [rpick]
      split
      · simp only [rlk]; rw [if_neg (by omega)]; exact ih
      · exact ih
section
variable {P : Program} {N : Nat} {c : Ctx} {S S' : HS} {Q' : HPost} {l : Env} {look : Nat → Option Value} {w w' : World} {ρ ρ' : Nat → Value} {xs : Nat → List Value} {A A' : Nat → Prop} {n0 n1 : Nat}
theorem resS_good (G : Good c S look w ρ xs) {v : Value} {h : HV} (hr : RepH w (c.A ρ S.st) c.n0 ρ v h) {st0 : Store} {Q : HV → Store → Prop} (R : HResS st0 S h Q) :
    ∃ h st' ρ' xs', (∀ i r, rlk st' i = some r → i < 8) ∧ (∀ j, isBx (rlk st0 j) → isBx (rlk st' j)) ∧ Q h st' ∧ Good c ⟨[], st'⟩ (fun _ => none) w ρ' xs' ∧ RepH w (c.A ρ' st') c.n0 ρ' v h := by
  obtain ⟨ids, hlen, hd, hbx, hkp, q⟩ := R
  have hm : ∀ i j, pos ids i = some j → ρ (ids.getD j 0) = ρ i := fun i j h => by rw [List.getD_eq_getElem?_getD, pos_get h]; rfl
  have hA : ∀ b, c.A (fun j => ρ (ids.getD j 0)) (rpick (pos ids) S.st 0 ids) b → c.A ρ S.st b := by
    rintro b (h0 | ⟨i, s, hi, hb⟩)
    · exact .inl h0
    · obtain ⟨_, id, r0, h2, h3, -⟩ := rpick_get hi
      rw [Nat.sub_zero] at h2
      try dsimp only at hb
      rw [List.getD_eq_getElem?_getD, h2, Option.getD_some] at hb
      exact .inr ⟨id, r0, h3, hb⟩
  refine ⟨h.ren (pos ids), _, fun j => ρ (ids.getD j 0), fun j => xs (ids.getD j 0), fun i r hi => ?_, fun j hj => ?_, q, ⟨fun i r hi => ?_, fun i j r s b hne hi hj hbi hbj => ?_, fun k x hk => by simp [hlk] at hk, G.kept, G.a0⟩, ?_⟩
  · obtain ⟨_, id, r0, h2, -⟩ := rpick_get hi
    have := (List.getElem?_eq_some_iff.1 h2).1
    omega
  · obtain ⟨h1, h2⟩ := keepB_get hkp hj
    cases hr2 : rlk S.st j with
    | none => rw [hr2] at h2; exact h2.elim
    | some r =>
      rw [hr2] at h2
      have := rpick_at (m := pos ids) (k := 0) h1 hr2
      rw [Nat.zero_add] at this
      rw [this]
      match r, h2 with
      | .bx false _ _, _ => exact trivial
      | .bx true _ _, h => exact h.elim
      | .sl _ _ _ _, h => exact h.elim
      | .hl _ _ _ _, h => exact h.elim
  · obtain ⟨_, id, r0, h2, h3, rfl⟩ := rpick_get hi
    rw [Nat.sub_zero] at h2
    have e : ids.getD i 0 = id := by rw [List.getD_eq_getElem?_getD, h2]; rfl
    have R0 := G.rows id r0 h3
    obtain ⟨f1, f2, f3, f4⟩ := Row.ren_facts (pos ids) r0
    refine ⟨by rw [f1, f2, f3]; (try dsimp only); rw [e]; exact R0.own, ?_, fun b hb => ?_⟩
    · have := R0.rep
      cases r0 with
      | sl nw ty sz els =>
        refine ⟨this.1, fun a k ha hk => ?_⟩
        obtain ⟨u, u1, u2, u3⟩ := this.2 a k ha hk
        try dsimp only
        rw [e]
        exact ⟨u, u1, u2, u3.up (Nat.le_refl _) (fun _ _ _ => rfl) (fun b _ => hA b) (Nat.le_refl _)⟩
      | bx nw ty cells =>
        refine ⟨by
          (try dsimp only); rw [e]
          obtain ⟨g, g1, g2⟩ := this.1
          refine ⟨g, g1, fun hf => ?_⟩
          have hf' : nw = false := hf
          have := boxOk_get hbx h2 (by rw [h3, hf']; exact trivial)
          rw [Nat.zero_add] at this
          rw [this]
          exact g2 hf', fun k hk => ?_⟩
        rw [List.length_map] at hk
        obtain ⟨u, u1, u2, u3⟩ := this.2 k hk
        try dsimp only
        rw [e]
        refine ⟨u, u1, u2, ?_⟩
        rw [List.getElem_map]
        exact (u3.up (Nat.le_refl _) (fun _ _ _ => rfl) (fun b _ => hA b) (Nat.le_refl _)).ren hm
      | hl nw ty sz els =>
        refine ⟨fun x hx => ?_, fun a k ha hk => ?_⟩
        · obtain ⟨y, hy, rfl⟩ := List.mem_map.1 hx
          rw [List.length_map]; exact this.1 y hy
        · simp only [List.length_map] at ha
          simp only [List.getElem_map, List.length_map] at hk ⊢
          obtain ⟨u, u1, u2, u3⟩ := this.2 a k ha hk
          try dsimp only
          rw [e]
          exact ⟨u, u1, u2, (u3.up (Nat.le_refl _) (fun _ _ _ => rfl) (fun b _ => hA b) (Nat.le_refl _)).ren hm⟩
    · try dsimp only at hb
      rw [e] at hb
      rw [f4]
      exact R0.new b hb
  · obtain ⟨_, a, r0, h2, h3, -⟩ := rpick_get hi
    obtain ⟨_, d, s0, h4, h5, -⟩ := rpick_get hj
    rw [Nat.sub_zero] at h2 h4
    try dsimp only at hbi hbj
    rw [List.getD_eq_getElem?_getD, h2, Option.getD_some] at hbi
    rw [List.getD_eq_getElem?_getD, h4, Option.getD_some] at hbj
    exact G.apart a d r0 s0 b (fun e => hne (by subst e; exact dup_ne hd h2 h4)) h3 h5 hbi hbj
  · exact (hr.up (Nat.le_refl _) (fun _ _ _ => rfl) (fun b _ => hA b) (Nat.le_refl _)).ren hm
theorem hfunS {f : FuncId} {fn : Func} {x : Code} {args : List HV} {st : Store} {rs : Array ResultVar} {Q : HV → Store → Prop} (hf : P.funcs[f]? = some fn) (hb : fn.body = some x) (hN : fn.ntmps = N) (hrs : fn.results = rs) (hle : args.length ≤ N)
    (h : HW P N x (hfunSQ P rs.toList st Q) ⟨argsH 0 args, st⟩) : HFunS P f args st Q := fun c w ρ xs vs _ G R => by
  refine calls_W hf hb hN hrs (by rw [R.1]; exact hle) ?_
  have I : Inv c ⟨argsH 0 args, st⟩ (lk (argsE 0 vs)) w := by
    refine ⟨ρ, xs, G.rows, G.apart, fun k h hk => ?_, G.kept, G.a0⟩
    obtain ⟨-, h2⟩ := argsH_get args 0 k h hk
    rw [Nat.sub_zero] at h2
    obtain ⟨hlt, rfl⟩ := List.getElem?_eq_some_iff.1 h2
    have hlt' : k < vs.length := by rw [R.1]; exact hlt
    exact ⟨vs[k], argsE_at vs 0 k _ (Nat.zero_le _) (by simp [hlt']), R.2 k hlt' hlt⟩
  refine (h _ _ _ I).mono fun e l' w' ⟨S', I', q⟩ => ?_
  obtain ⟨ρ, xs, G⟩ := I'
  have fin : resH P S' rs.toList (fun hs => HResS st S' (htup hs) Q) → resE P l' w' rs.toList fun vs => ∃ h st' ρ' xs', (∀ i r, rlk st' i = some r → i < 8) ∧ (∀ j, isBx (rlk st j) → isBx (rlk st' j)) ∧ Q h st' ∧ Good c ⟨[], st'⟩ (fun _ => none) w' ρ' xs' ∧ RepH w' (c.A ρ' st') c.n0 ρ' (tup vs) h := fun hr =>
    resH_resE.resE_mono (resH_resE G _ _ hr) fun vs ⟨hs, hR, hv⟩ => resS_good G (htup_rep hv) hR
  cases e with
  | normal => exact fin q
  | ret => exact fin q
  | _ => exact q.elim
def Row.dark : Row → Row
  | .sl n t s xs => .sl n t s xs
  | .bx _ t cs => .bx false t cs
  | .hl n t s xs => .hl n t s xs
def Row.flag (old : Option Row) (r : Row) : Row := match old, r with
  | some (.bx nw _ _), .bx _ t cs => .bx nw t cs
  | _, r => r
def dpick (m : Nat → Option Nat) (st : Store) : Nat → List Nat → Store
  | _, [] => []
  | k, id :: r => match rlk st id with
    | some row => (k, (row.ren m).dark) :: dpick m st (k + 1) r
    | none => dpick m st (k + 1) r
def nthO : List Nat → Nat → Option Nat
  | [], _ => none
  | k :: r, 0 => some k
  | _ :: r, j + 1 => nthO r j
def sh2 (ids : List Nat) (n : Nat) : Nat → Option Nat := fun j => match nthO ids j with
  | some i => some i
  | none => bif Nat.blt j 8 then some (n + j) else none
def inL (ids : List Nat) : Nat → Bool := fun i => match ids with
  | [] => false
  | k :: r => k == i || inL r i
def isSl : Option Row → Bool
  | some (.bx _ _ _) => false
  | _ => true
def turned (ids : List Nat) (st : Store) (n : Nat) : Nat → Bool := fun i => eight n i || (inL ids i && isSl (rlk st i))
def gone (ids : List Nat) (n : Nat) : Nat → Bool := fun i => eight n i || inL ids i
def oldRow (ids : List Nat) (st : Store) (j : Nat) : Option Row := match nthO ids j with
  | some i => rlk st i
  | none => none
def swp (S0 : Store) (ids : List Nat) (n : Nat) : Store → Store → Store
  | [], base => base
  | (j, r) :: t, base => ((sh2 ids n j).getD 0, (r.ren (sh2 ids n)).flag (oldRow ids S0 j)) :: swp S0 ids n t base
def HS.swap (S : HS) (ids : List Nat) (n : Nat) (st' : Store) : HS := ⟨ekill (turned ids S.st n) S.env, swp S.st ids n st' (skill (gone ids n) S.st)⟩
theorem nthO_eq : ∀ (ids : List Nat) (j : Nat), nthO ids j = ids[j]?
  | [], j => by simp [nthO]
  | k :: r, 0 => rfl
  | k :: r, j + 1 => by simpa [nthO] using nthO_eq r j
theorem inL_iff {ids : List Nat} {i : Nat} : inL ids i = true ↔ ∃ j : Nat, ids[j]? = some i := by
  induction ids with
  | nil => simp [inL]
  | cons k r ih =>
    simp only [inL, Bool.or_eq_true, beq_iff_eq, ih]
    constructor
    · rintro (rfl | ⟨j, h⟩)
      · exact ⟨0, rfl⟩
      · exact ⟨j + 1, by simpa using h⟩
    · rintro ⟨j, h⟩
      cases j with
      | zero => left; simpa using h
      | succ j => right; exact ⟨j, by simpa using h⟩
theorem pos_of {ids : List Nat} (hd : dup ids = false) {i j : Nat} (h : ids[j]? = some i) : pos ids i = some j := by
  have : ∃ j', pos ids i = some j' := by
    clear hd
    induction ids generalizing j with
    | nil => simp at h
    | cons k r ih =>
      simp only [pos]
      by_cases e : k = i
      · exact ⟨0, by rw [if_pos e]⟩
      · rw [if_neg e]
        cases j with
        | zero => simp at h; exact (e h).elim
        | succ j => obtain ⟨j', hj⟩ := ih (j := j) (by simpa using h); exact ⟨j' + 1, by rw [hj]; rfl⟩
  obtain ⟨j', hj⟩ := this
  rw [hj, dup_ne hd (pos_get hj) h]
theorem dpick_get {m : Nat → Option Nat} {st : Store} : ∀ {ids : List Nat} {k j : Nat} {r : Row}, rlk (dpick m st k ids) j = some r → k ≤ j ∧ ∃ id r0, ids[j - k]? = some id ∧ rlk st id = some r0 ∧ r = (r0.ren m).dark
  | [], k, j, r, h => by simp [dpick, rlk] at h
  | id :: rest, k, j, r, h => by
    simp only [dpick] at h
    have tail : rlk (dpick m st (k + 1) rest) j = some r → k ≤ j ∧ ∃ id' r0, (id :: rest)[j - k]? = some id' ∧ rlk st id' = some r0 ∧ r = (r0.ren m).dark := by
      intro h
      obtain ⟨h1, id', r0, h2, h3, h4⟩ := dpick_get h
      refine ⟨by omega, id', r0, ?_, h3, h4⟩
      rw [show j - k = (j - (k + 1)) + 1 by omega]
      simpa using h2
    split at h
    · rename_i row hrow
      simp only [rlk] at h
      by_cases e : k = j
      · subst e
        rw [if_pos rfl] at h
        simp only [Option.some.injEq] at h
        exact ⟨Nat.le_refl _, id, row, by simp, hrow, h.symm⟩
      · rw [if_neg e] at h; exact tail h
    · exact tail h
theorem dpick_at {m : Nat → Option Nat} {st : Store} : ∀ {ids : List Nat} {k j id : Nat} {r : Row}, ids[j]? = some id → rlk st id = some r → rlk (dpick m st k ids) (k + j) = some (r.ren m).dark
  | [], k, j, id, r, h, _ => by simp at h
  | i :: t, k, j, id, r, h, hr => by
    cases j with
    | zero =>
      simp only [List.getElem?_cons_zero, Option.some.injEq] at h
      subst h
      simp only [dpick, hr, rlk, Nat.add_zero, if_true]
    | succ j =>
      have ih := dpick_at (m := m) (st := st) (ids := t) (k := k + 1) (j := j) (by simpa using h) hr
      rw [show k + 1 + j = k + (j + 1) by omega] at ih
      simp only [dpick]
      split
      · simp only [rlk]; rw [if_neg (by omega)]; exact ih
      · exact ih
theorem Row.dark_facts (r : Row) : r.dark.ty = r.ty ∧ r.dark.sz = r.sz ∧ r.dark.len = r.len := by cases r <;> simp [Row.dark, Row.ty, Row.sz, Row.len]
theorem rlk_swp {S0 : Store} {ids : List Nat} {n : Nat} {base : Store} (hd : dup ids = false) (hids : ∀ i ∈ ids, eight n i = false) : ∀ {st : Store} {i : Nat} {r : Row}, (∀ j s, rlk st j = some s → j < 8) → rlk (swp S0 ids n st base) i = some r →
    (∃ j s, sh2 ids n j = some i ∧ rlk st j = some s ∧ r = (s.ren (sh2 ids n)).flag (oldRow ids S0 j)) ∨ rlk base i = some r
  | [], i, r, _, h => .inr h
  | (k, s) :: t, i, r, h8, h => by
    have hk8 := h8 k s (by simp [rlk])
    have hsome : ∀ {j}, j < 8 → ∃ i, sh2 ids n j = some i := fun {j} hj => by
      unfold sh2
      split
      · exact ⟨_, rfl⟩
      · exact ⟨n + j, by rw [show Nat.blt j 8 = true by simp [Nat.blt_eq]; omega]; rfl⟩
    have hinj : ∀ {j j' i : Nat}, sh2 ids n j = some i → sh2 ids n j' = some i → j = j' := by
      have key : ∀ {j i : Nat}, sh2 ids n j = some i → (ids[j]? = some i) ∨ (ids[j]? = none ∧ j < 8 ∧ i = n + j) := by
        intro j i h
        unfold sh2 at h
        rw [nthO_eq] at h
        cases e : ids[j]? with
        | some a => rw [e] at h; left; simpa using h
        | none =>
          right
          rw [e] at h
          dsimp only at h
          cases e2 : Nat.blt j 8 with
          | false => rw [e2] at h; cases h
          | true => rw [e2] at h; simp only [cond_true, Option.some.injEq] at h; exact ⟨rfl, by simpa [Nat.blt_eq] using e2, h.symm⟩
      intro j j' i h h'
      rcases key h with a | ⟨a, a8, ai⟩ <;> rcases key h' with b | ⟨b, b8, bi⟩
      · exact dup_ne hd a b
      · have := hids i (List.mem_of_getElem? a)
        rw [bi, eight_iff.2 ⟨by omega, by omega⟩] at this; cases this
      · have := hids i (List.mem_of_getElem? b)
        rw [ai, eight_iff.2 ⟨by omega, by omega⟩] at this; cases this
      · omega
    simp only [swp, rlk] at h
    obtain ⟨i0, hi0⟩ := hsome hk8
    rw [hi0, Option.getD_some] at h
    by_cases e : i0 = i
    · rw [if_pos e] at h
      simp only [Option.some.injEq] at h
      left
      exact ⟨k, s, by rw [hi0, e], by simp [rlk], h.symm⟩
    · rw [if_neg e] at h
      have h8' : ∀ j s', rlk t j = some s' → j < 8 := fun j s' hj => by
        by_cases ej : k = j
        · omega
        · exact h8 j s' (by simp only [rlk]; rw [if_neg ej]; exact hj)
      rcases rlk_swp hd hids h8' h with ⟨j, s', a1, a2, a3⟩ | h
      · left
        refine ⟨j, s', a1, ?_, a3⟩
        simp only [rlk]
        rw [if_neg (fun ej => e (by subst ej; rw [hi0] at a1; simpa using a1))]; exact a2
      · exact .inr h
theorem hatS {f : FuncId} {args args' : List HV} {st : Store} {Q : HV → Store → Prop} {K : HV → HS → Prop} (n : Nat) (ids : List Nat) (hc : callable P f = true) (H : HFunS P f args' st Q)
    (hd : dup ids = false) (hlen : ids.length ≤ 8) (hids : ∀ i ∈ ids, eight n i = false) (hst : dpick (pos ids) S.st 0 ids = st) (hargs : args.map (HV.ren (pos ids)) = args')
    (hK : ∀ h st', Q h st' → K (h.ren (sh2 ids n)) (S.swap ids n st')) : HAt P f args S K :=
  ⟨hc, fun c look w ρ xs vs G R => by
    subst hst; subst hargs
    let ρ1 : Nat → Value := fun j => ρ (ids.getD j 0)
    let xs1 : Nat → List Value := fun j => xs (ids.getD j 0)
    let st : Store := dpick (pos ids) S.st 0 ids
    have hgetD : ∀ {j i : Nat}, ids[j]? = some i → ids.getD j 0 = i := fun h => by rw [List.getD_eq_getElem?_getD, h]; rfl
    have hm : ∀ i j, pos ids i = some j → ρ1 j = ρ i := fun i j h => by show ρ (ids.getD j 0) = _; rw [hgetD (pos_get h)]
    have inOwn : ∀ b, Owns ρ1 st b → ∃ (j i : Nat) (r : Row), ids[j]? = some i ∧ rlk S.st i = some r ∧ (ρ i).ownBlock = some b := by
      rintro b ⟨j, r, hj, hb⟩
      obtain ⟨_, i, r0, h2, h3, -⟩ := dpick_get hj
      rw [Nat.sub_zero] at h2
      have hb : (ρ (ids.getD j 0)).ownBlock = some b := hb
      rw [hgetD h2] at hb
      exact ⟨j, i, r0, h2, h3, hb⟩
    have ownIn : ∀ {j i : Nat} {r : Row} {b : Nat}, ids[j]? = some i → rlk S.st i = some r → (ρ i).ownBlock = some b → Owns ρ1 st b := fun {j i r b} h2 h3 hb => by
      have := dpick_at (m := pos ids) (k := 0) h2 h3
      rw [Nat.zero_add] at this
      exact ⟨j, _, this, by show (ρ (ids.getD j 0)).ownBlock = _; rw [hgetD h2]; exact hb⟩
    have ownA : ∀ b, Owns ρ1 st b → c.A ρ S.st b := fun b h => by
      obtain ⟨j, i, r, h2, h3, hb⟩ := inOwn b h
      exact .inr ⟨i, r, h3, hb⟩
    have ltA : ∀ b, c.A ρ S.st b → b < w.heap.size := by
      rintro b (h0 | ⟨i, r, hi, hb⟩)
      · have := (G.a0 b h0).1; have := G.kept.size; omega
      · exact G.lt hi hb
    let c1 : Ctx := ⟨w, Owns ρ1 st, fun b => c.A ρ S.st b ∧ ¬ Owns ρ1 st b, c.n0, Nat.le_trans c.hn G.kept.size, fun j g => ∃ (i : Nat) (nw : Bool) (ty : Nat) (cs : List HV), ids[j]? = some i ∧ rlk S.st i = some (.bx nw ty cs) ∧ ρ i = .slice (some ⟨g, 0, none⟩) 1 1⟩
    have hA1 : ∀ b, c1.A ρ1 st b → c.A ρ S.st b := by
      rintro b (h0 | h0)
      · exact h0.1
      · exact ownA b h0
    have hw0 := G.kept.size
    have G1 : Good c1 ⟨[], st⟩ (fun _ => none) w ρ1 xs1 := by
      refine ⟨fun j r hj => ?_, fun i j r s b hne hi hj hbi hbj => ?_, fun k x hk => by simp [hlk] at hk, Kept.refl _ _, fun b hb => ⟨ltA b hb.1, hb.2⟩⟩
      · obtain ⟨_, i, r0, h2, h3, rfl⟩ := dpick_get hj
        rw [Nat.sub_zero] at h2
        have e : ids.getD j 0 = i := hgetD h2
        have R0 := G.rows i r0 h3
        obtain ⟨f1, f2, f3, f4⟩ := Row.ren_facts (pos ids) r0
        obtain ⟨d1, d2, d3⟩ := Row.dark_facts (r0.ren (pos ids))
        refine ⟨by rw [d1, d2, d3, f1, f2, f3]; show Own w 0 _ _ (ρ (ids.getD j 0)) _ (xs (ids.getD j 0)); rw [e]; exact R0.own, ?_, fun b hb => ?_⟩
        · have := R0.rep
          cases r0 with
          | sl nw ty sz els =>
            refine ⟨this.1, fun a k ha hk => ?_⟩
            show ∃ u, (xs (ids.getD j 0))[a * sz + k]? = some u ∧ _
            rw [e]
            obtain ⟨u, u1, u2, u3⟩ := this.2 a k ha hk
            exact ⟨u, u1, u2, u3.up (Nat.le_refl _) (fun _ _ _ => rfl) (fun b _ => hA1 b) (Nat.le_refl _)⟩
          | bx nw ty cells =>
            refine ⟨?_, fun k hk => ?_⟩
            · show ∃ g, ρ (ids.getD j 0) = _ ∧ _
              rw [e]
              obtain ⟨g, g1, g2⟩ := this.1
              exact ⟨g, g1, fun _ => ⟨i, nw, ty, cells, h2, h3, g1⟩⟩
            · rw [List.length_map] at hk
              show ∃ u, (xs (ids.getD j 0))[k]? = some u ∧ _
              rw [e]
              obtain ⟨u, u1, u2, u3⟩ := this.2 k hk
              refine ⟨u, u1, u2, ?_⟩
              rw [List.getElem_map]
              exact (u3.up (Nat.le_refl _) (fun _ _ _ => rfl) (fun b _ => hA1 b) (Nat.le_refl _)).ren hm
          | hl nw ty sz els =>
            refine ⟨fun x hx => ?_, fun a k ha hk => ?_⟩
            · obtain ⟨y, hy, rfl⟩ := List.mem_map.1 hx
              rw [List.length_map]; exact this.1 y hy
            · simp only [List.length_map] at ha
              simp only [List.getElem_map, List.length_map] at hk ⊢
              show ∃ u, (xs (ids.getD j 0))[a * sz + k]? = some u ∧ _
              rw [e]
              obtain ⟨u, u1, u2, u3⟩ := this.2 a k ha hk
              exact ⟨u, u1, u2, (u3.up (Nat.le_refl _) (fun _ _ _ => rfl) (fun b _ => hA1 b) (Nat.le_refl _)).ren hm⟩
        · have hb : (ρ (ids.getD j 0)).ownBlock = some b := hb
          rw [e] at hb
          refine ⟨.inr (ownIn h2 h3 hb), fun hnw => (R0.new b hb).2 ?_⟩
          cases r0 with
          | sl nw ty sz els => exact hnw
          | bx nw ty cells => cases hnw
          | hl nw ty sz els => exact hnw
      · obtain ⟨_, a, r0, h2, h3, -⟩ := dpick_get hi
        obtain ⟨_, d, s0, h4, h5, -⟩ := dpick_get hj
        rw [Nat.sub_zero] at h2 h4
        have hbi : (ρ (ids.getD i 0)).ownBlock = some b := hbi
        have hbj : (ρ (ids.getD j 0)).ownBlock = some b := hbj
        rw [hgetD h2] at hbi
        rw [hgetD h4] at hbj
        exact G.apart a d r0 s0 b (fun e => hne (by subst e; exact dup_ne hd h2 h4)) h3 h5 hbi hbj
    have R1 : Reps w (c1.A ρ1 st) c1.n0 ρ1 vs (args.map (HV.ren (pos ids))) := ⟨by rw [List.length_map]; exact R.1, fun i h1 h2 => by
      rw [List.getElem_map]
      exact ((R.2 i h1 (by simpa using h2)).up (Nat.le_refl _) (fun _ _ _ => rfl) (fun b _ => hA1 b) (Nat.le_refl _)).ren hm⟩
    refine Ret.mono (H c1 w ρ1 xs1 vs rfl G1 R1) fun v w2 ⟨h, st2, ρ2, xs2, h8, hbx, q, G2, hr⟩ => ⟨_, _, hK h st2 q, ?_⟩
    have K2 := G2.kept
    -- the rows behind the call
    let ρ3 : Nat → Value := fun i => match pos ids i with
      | some j => ρ2 j
      | none => bif eight n i then ρ2 (i - n) else ρ i
    have p1 : ∀ {i j : Nat}, sh2 ids n j = some i → ρ3 i = ρ2 j := by
      intro i j h
      unfold sh2 at h
      rw [nthO_eq] at h
      cases e : ids[j]? with
      | some a =>
        rw [e] at h
        simp only [Option.some.injEq] at h
        subst h
        show (match pos ids a with | some j => ρ2 j | none => _) = _
        rw [pos_of hd e]
      | none =>
        rw [e] at h
        dsimp only at h
        cases e2 : Nat.blt j 8 with
        | false => rw [e2] at h; cases h
        | true =>
          rw [e2] at h
          simp only [cond_true, Option.some.injEq] at h
          subst h
          have hj : j < 8 := by simpa [Nat.blt_eq] using e2
          have e8 : eight n (n + j) = true := eight_iff.2 ⟨by omega, by omega⟩
          show (match pos ids (n + j) with | some j => ρ2 j | none => _) = _
          cases ep : pos ids (n + j) with
          | some j' => have := hids _ (List.mem_of_getElem? (pos_get ep)); rw [e8] at this; cases this
          | none => dsimp only; rw [e8, cond_true, show n + j - n = j by omega]
    have p2 : ∀ {i : Nat}, gone ids n i = false → ρ3 i = ρ i := by
      intro i h
      simp only [gone, Bool.or_eq_false_iff] at h
      show (match pos ids i with | some j => ρ2 j | none => _) = _
      cases ep : pos ids i with
      | some j => have : inL ids i = true := inL_iff.2 ⟨j, pos_get ep⟩; rw [h.2] at this; cases this
      | none => dsimp only; rw [h.1]; rfl
    have p3 : ∀ {i : Nat}, turned ids S.st n i = false → ρ3 i = ρ i := by
      intro i h
      simp only [turned, Bool.or_eq_false_iff, Bool.and_eq_false_iff] at h
      rcases h.2 with h2 | h2
      · exact p2 (by simp only [gone, h.1, h2, Bool.or_self])
      · cases ei : inL ids i with
        | false => exact p2 (by simp only [gone, h.1, ei, Bool.or_self])
        | true =>
        obtain ⟨j, hj⟩ := inL_iff.1 ei
        cases er : rlk S.st i with
        | none => rw [er] at h2; cases h2
        | some r =>
          rw [er] at h2
          cases r with
          | sl nw ty sz els => cases h2
          | hl nw ty sz els => cases h2
          | bx nw ty cs =>
            have hb1 := dpick_at (m := pos ids) (k := 0) hj er
            rw [Nat.zero_add] at hb1
            have := hbx j (by rw [hb1]; exact trivial)
            cases e2 : rlk st2 j with
            | none => rw [e2] at this; exact this.elim
            | some r2 =>
              rw [e2] at this
              match r2, this with
              | .bx false ty2 cs2, _ =>
                obtain ⟨⟨g, g1, g2⟩, -⟩ := (G2.rows j _ e2).rep
                obtain ⟨i', nw', ty', cs', q1, q2, q3⟩ := g2 rfl
                rw [hj] at q1
                simp only [Option.some.injEq] at q1
                subst q1
                have : sh2 ids n j = some i := by unfold sh2; rw [nthO_eq, hj]
                rw [p1 this, g1, q3]
              | .bx true _ _, h => exact h.elim
              | .sl _ _ _ _, h => exact h.elim
              | .hl _ _ _ _, h => exact h.elim
    have rows3 : ∀ i r, rlk (S.swap ids n st2).st i = some r → (∃ j s, sh2 ids n j = some i ∧ rlk st2 j = some s ∧ r = (s.ren (sh2 ids n)).flag (oldRow ids S.st j) ∧ ρ3 i = ρ2 j) ∨ (∃ s, gone ids n i = false ∧ rlk S.st i = some s ∧ r = s.kill (gone ids n) ∧ ρ3 i = ρ i) := by
      intro i r hi
      rcases rlk_swp hd hids h8 hi with ⟨j, s, a1, a2, a3⟩ | a2
      · exact .inl ⟨j, s, a1, a2, a3, p1 a1⟩
      · right
        rw [rlk_skill] at a2
        cases eg : gone ids n i with
        | true => rw [eg] at a2; cases a2
        | false =>
          rw [eg, cond_false] at a2
          cases hs : rlk S.st i with
          | none => rw [hs] at a2; cases a2
          | some s => rw [hs] at a2; simp only [Option.map_some, Option.some.injEq] at a2; exact ⟨s, rfl, rfl, a2.symm, p2 eg⟩
    have new2 : ∀ j s b, rlk st2 j = some s → (ρ2 j).ownBlock = some b → w.heap.size ≤ b ∨ Owns ρ1 st b := fun j s b hs hb => ((G2.rows j s hs).new b hb).1
    have notIn : ∀ {i : Nat} {s : Row} {b : Nat}, gone ids n i = false → rlk S.st i = some s → (ρ i).ownBlock = some b → ¬ Owns ρ1 st b := fun {i s b} hg hs hb ho => by
      obtain ⟨j, i', r', h2, h3, hb'⟩ := inOwn b ho
      refine G.apart i i' s r' b (fun e => ?_) hs h3 hb hb'
      subst e
      simp only [gone, Bool.or_eq_false_iff] at hg
      have : inL ids i = true := inL_iff.2 ⟨j, h2⟩
      rw [hg.2] at this; cases this
    have notA0 : ∀ b, c.A0 b → ¬ Owns ρ1 st b := fun b h0 ho => by
      obtain ⟨j, i, r, h2, h3, hb⟩ := inOwn b ho
      obtain ⟨a1, a2⟩ := G.a0 b h0
      rcases ((G.rows i r h3).new b hb).1 with h | h
      · omega
      · exact a2 h
    have hA3 : ∀ b, b < w.heap.size → c.A ρ3 (S.swap ids n st2).st b → c.A ρ S.st b := by
      rintro b hlt (h0 | ⟨i, r, hi, hb⟩)
      · exact .inl h0
      · rcases rows3 i r hi with ⟨j, s, _, a2, _, a4⟩ | ⟨s, _, a2, _, a4⟩
        · rw [a4] at hb
          rcases new2 j s b a2 hb with h | h
          · omega
          · exact ownA b h
        · rw [a4] at hb; exact .inr ⟨i, s, a2, hb⟩
    have hA4 : ∀ b, c.A ρ3 (S.swap ids n st2).st b → c1.A ρ2 st2 b := by
      rintro b (h0 | ⟨i, r, hi, hb⟩)
      · exact .inl ⟨.inl h0, notA0 b h0⟩
      · rcases rows3 i r hi with ⟨j, s, _, a2, _, a4⟩ | ⟨s, a1, a2, _, a4⟩
        · rw [a4] at hb; exact .inr ⟨j, s, a2, hb⟩
        · rw [a4] at hb; exact .inl ⟨.inr ⟨i, s, a2, hb⟩, notIn a1 a2 hb⟩
    have hblk : ∀ b, b < w.heap.size → ¬ c.A ρ S.st b → w2.heap[b]? = w.heap[b]? := fun b hlt hn => K2.block b hlt fun h => hn (ownA b h)
    have tr1 : ∀ v x, RepH w (c.A ρ S.st) c.n0 ρ v x → RepH w2 (c.A ρ3 (S.swap ids n st2).st) c.n0 ρ3 v (x.kill (turned ids S.st n)) := fun v x hx => (hx.up K2.size hblk hA3 (Nat.le_refl _)).kill fun i hi => p3 hi
    have tr2 : ∀ v x, RepH w2 (c1.A ρ2 st2) c.n0 ρ2 v x → RepH w2 (c.A ρ3 (S.swap ids n st2).st) c.n0 ρ3 v (x.ren (sh2 ids n)) := fun v x hx => (hx.up (Nat.le_refl _) (fun _ _ _ => rfl) (fun b _ => hA4 b) (Nat.le_refl _)).ren fun i j h => p1 h
    let xs3 : Nat → List Value := fun i => match pos ids i with
      | some j => xs2 j
      | none => bif eight n i then xs2 (i - n) else xs i
    have x1 : ∀ {i j : Nat}, sh2 ids n j = some i → xs3 i = xs2 j := by
      intro i j h
      unfold sh2 at h
      rw [nthO_eq] at h
      cases e : ids[j]? with
      | some a =>
        rw [e] at h
        simp only [Option.some.injEq] at h
        subst h
        show (match pos ids a with | some j => xs2 j | none => _) = _
        rw [pos_of hd e]
      | none =>
        rw [e] at h
        dsimp only at h
        cases e2 : Nat.blt j 8 with
        | false => rw [e2] at h; cases h
        | true =>
          rw [e2] at h
          simp only [cond_true, Option.some.injEq] at h
          subst h
          have hj : j < 8 := by simpa [Nat.blt_eq] using e2
          have e8 : eight n (n + j) = true := eight_iff.2 ⟨by omega, by omega⟩
          show (match pos ids (n + j) with | some j => xs2 j | none => _) = _
          cases ep : pos ids (n + j) with
          | some j' => have := hids _ (List.mem_of_getElem? (pos_get ep)); rw [e8] at this; cases this
          | none => dsimp only; rw [e8, cond_true, show n + j - n = j by omega]
    have x2 : ∀ {i : Nat}, gone ids n i = false → xs3 i = xs i := by
      intro i h
      simp only [gone, Bool.or_eq_false_iff] at h
      show (match pos ids i with | some j => xs2 j | none => _) = _
      cases ep : pos ids i with
      | some j => have : inL ids i = true := inL_iff.2 ⟨j, pos_get ep⟩; rw [h.2] at this; cases this
      | none => dsimp only; rw [h.1]; rfl
    refine ⟨ρ3, xs3, ⟨fun i r hi => ?_, fun i j r s b hne hi hj hbi hbj => ?_, fun k x hk => ?_, ?_, G.a0⟩, tr2 _ _ hr⟩
    · rcases rows3 i r hi with ⟨j, s, a1, a2, rfl, a4⟩ | ⟨s, a1, a2, rfl, a4⟩
      · have R2 := G2.rows j s a2
        rw [x1 a1]
        -- the variable that was handed in
        have old : ∀ {nw : Bool} {ty : Nat} {cs : List HV}, oldRow ids S.st j = some (.bx nw ty cs) → ∃ i0, ids[j]? = some i0 ∧ i0 = i ∧ rlk S.st i = some (.bx nw ty cs) := by
          intro nw ty cs ho
          unfold oldRow at ho
          rw [nthO_eq] at ho
          cases e : ids[j]? with
          | none => rw [e] at ho; cases ho
          | some i0 =>
            rw [e] at ho
            have : sh2 ids n j = some i0 := by unfold sh2; rw [nthO_eq, e]
            rw [a1] at this
            simp only [Option.some.injEq] at this
            subst this
            exact ⟨_, rfl, rfl, ho⟩
        have same : ∀ {nw : Bool} {ty : Nat} {cs : List HV}, oldRow ids S.st j = some (.bx nw ty cs) → ρ3 i = ρ i := fun {nw ty cs} ho => by
          obtain ⟨i0, b1, rfl, b3⟩ := old ho
          refine p3 ?_
          simp only [turned, b3, isSl, Bool.and_false, Bool.or_false]
          exact hids _ (List.mem_of_getElem? b1)
        have out : ∀ b, (ρ2 j).ownBlock = some b → (c.w0.heap.size ≤ b ∨ c.T b) := fun b hb => by
          rcases new2 j s b a2 hb with h | h
          · left; omega
          · obtain ⟨j', i', r', h2, h3, hb'⟩ := inOwn b h
            exact ((G.rows i' r' h3).new b hb').1
        have own2 := R2.own
        have rp := R2.rep
        cases s with
        | sl nw ty sz els =>
          have e : (Row.ren (sh2 ids n) (.sl nw ty sz els)).flag (oldRow ids S.st j) = .sl nw ty sz els := by
            rw [Row.ren]
            cases oldRow ids S.st j with
            | none => rfl
            | some o => cases o <;> rfl
          rw [e]
          refine ⟨by rw [a4]; exact own2, ⟨rp.1, fun p k hp hk => ?_⟩, fun b hb => ?_⟩
          · obtain ⟨u, u1, u2, u3⟩ := rp.2 p k hp hk
            exact ⟨u, u1, u2, u3.up (Nat.le_refl _) (fun _ _ _ => rfl) (fun b _ => hA4 b) (Nat.le_refl _)⟩
          · rw [a4] at hb
            exact ⟨out b hb, (R2.new b hb).2⟩
        | bx nw ty cells =>
          obtain ⟨nw', e, hB, hN⟩ : ∃ nw', (Row.ren (sh2 ids n) (.bx nw ty cells)).flag (oldRow ids S.st j) = .bx nw' ty (cells.map (HV.ren (sh2 ids n))) ∧ (nw' = false → ∃ g, ρ3 i = .slice (some ⟨g, 0, none⟩) 1 1 ∧ c.B i g) ∧
              (nw' = true → ∀ b, (ρ2 j).ownBlock = some b → c.n0 ≤ b) := by
            have plain : ∀ {P : Prop}, (∀ nw ty cs, oldRow ids S.st j ≠ some (.bx nw ty cs)) → nw = false → P := fun hno hf => by
              obtain ⟨g, g1, g2⟩ := rp.1
              obtain ⟨i', nw', ty', cs', q1, q2, q3⟩ := g2 hf
              exact (hno nw' ty' cs' (by unfold oldRow; rw [nthO_eq, q1]; exact q2)).elim
            rw [Row.ren]
            cases ho : oldRow ids S.st j with
            | none => exact ⟨nw, rfl, fun hf => plain (fun _ _ _ h => by rw [ho] at h; cases h) hf, fun ht b hb => (R2.new b hb).2 ht⟩
            | some o =>
              cases o with
              | sl nwo tyo szo elo => exact ⟨nw, rfl, fun hf => plain (fun _ _ _ h => by rw [ho] at h; cases h) hf, fun ht b hb => (R2.new b hb).2 ht⟩
              | hl nwo tyo szo elo => exact ⟨nw, rfl, fun hf => plain (fun _ _ _ h => by rw [ho] at h; cases h) hf, fun ht b hb => (R2.new b hb).2 ht⟩
              | bx nwo tyo cso =>
                refine ⟨nwo, rfl, fun hf => ?_, fun ht b hb => ?_⟩
                · obtain ⟨i0, b1, rfl, b3⟩ := old ho
                  obtain ⟨⟨g, g1, g2⟩, -⟩ := (G.rows _ _ b3).rep
                  exact ⟨g, by rw [same ho]; exact g1, g2 hf⟩
                · obtain ⟨i0, b1, rfl, b3⟩ := old ho
                  rw [← a4, same ho] at hb
                  exact ((G.rows _ _ b3).new b hb).2 ht
          rw [e]
          obtain ⟨g, g1, g2⟩ := rp.1
          refine ⟨by rw [a4]; simpa [Row.ty, Row.sz, Row.len] using own2, ⟨⟨g, by rw [a4]; exact g1, fun hf => ?_⟩, fun k hk => ?_⟩, fun b hb => ?_⟩
          · obtain ⟨g', h1, h2⟩ := hB hf
            rw [a4, g1] at h1
            simp only [Value.slice.injEq, Option.some.injEq, Addr.mk.injEq] at h1
            obtain ⟨⟨rfl, -⟩, -⟩ := h1
            exact h2
          · rw [List.length_map] at hk
            obtain ⟨u, u1, u2, u3⟩ := rp.2 k hk
            refine ⟨u, u1, u2, ?_⟩
            rw [List.getElem_map]
            exact tr2 _ _ u3
          · rw [a4] at hb
            exact ⟨out b hb, fun ht => hN ht b hb⟩
        | hl nw ty sz els =>
          have e : (Row.ren (sh2 ids n) (.hl nw ty sz els)).flag (oldRow ids S.st j) = .hl nw ty sz (els.map (List.map (HV.ren (sh2 ids n)))) := by
            rw [Row.ren]
            cases oldRow ids S.st j with
            | none => rfl
            | some o => cases o <;> rfl
          rw [e]
          refine ⟨by rw [a4]; simpa [Row.ty, Row.sz, Row.len] using own2, ⟨fun x hx => ?_, fun p k hp hk => ?_⟩, fun b hb => ?_⟩
          · obtain ⟨y, hy, rfl⟩ := List.mem_map.1 hx
            rw [List.length_map]; exact rp.1 y hy
          · simp only [List.length_map] at hp
            simp only [List.getElem_map, List.length_map] at hk ⊢
            obtain ⟨u, u1, u2, u3⟩ := rp.2 p k hp hk
            exact ⟨u, u1, u2, tr2 _ _ u3⟩
          · rw [a4] at hb
            exact ⟨out b hb, (R2.new b hb).2⟩
      · rw [x2 a1]
        have RR := (G.rows i s a2).up K2.size hblk hA3 (fun b hb => K2.block b (G.lt a2 hb) (notIn a1 a2 hb))
        exact RR.kill (fun i hi => p2 hi) a1
    · rcases rows3 i r hi with ⟨j1, s1, a1, a2, -, a4⟩ | ⟨s1, a1, a2, -, a4⟩ <;> rcases rows3 j s hj with ⟨j2, s2, b1, b2, -, b4⟩ | ⟨s2, b1, b2, -, b4⟩
      · rw [a4] at hbi; rw [b4] at hbj
        exact G2.apart j1 j2 s1 s2 b (fun e => hne (by subst e; rw [a1] at b1; simpa using b1)) a2 b2 hbi hbj
      · rw [a4] at hbi; rw [b4] at hbj
        rcases new2 j1 s1 b a2 hbi with h | h
        · have := G.lt b2 hbj; omega
        · exact notIn b1 b2 hbj h
      · rw [a4] at hbi; rw [b4] at hbj
        rcases new2 j2 s2 b b2 hbj with h | h
        · have := G.lt a2 hbi; omega
        · exact notIn a1 a2 hbi h
      · rw [a4] at hbi; rw [b4] at hbj
        exact G.apart i j s1 s2 b hne a2 b2 hbi hbj
    · simp only [HS.swap, hlk_ekill] at hk
      cases hx : hlk S.env k with
      | none => rw [hx] at hk; cases hk
      | some x0 =>
        rw [hx] at hk
        simp only [Option.map_some, Option.some.injEq] at hk
        subst hk
        obtain ⟨v, h1, h2⟩ := G.env k x0 hx
        exact ⟨v, h1, tr1 v x0 h2⟩
    · refine G.kept.trans K2 fun b hlt hT => ?_
      obtain ⟨j, i, r, h2, h3, hb⟩ := inOwn b hT
      rcases ((G.rows i r h3).new b hb).1 with h | h
      · omega
      · exact h⟩
end
end Go.Eng
end
