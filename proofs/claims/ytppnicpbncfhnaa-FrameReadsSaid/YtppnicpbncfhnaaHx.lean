/-
  What the functions of operations say holds in memory: rows that are written out, made, appended to.
-/
import Derived.Lib.AppendStr
import Derived.Test.YtppnicpbncfhnaaHw
set_option linter.unusedSimpArgs false
set_option linter.unusedVariables false
namespace Go.Eng
open Go Go.RowKit
section
variable {lw : Env} {P : Program} {c : Ctx} {S S' : HS} {look : Nat → Option Value} {w : World} {ρ : Nat → Value} {xs : Nat → List Value} {hv : HV} {cnd : Prop}
/-- cells lie as elements -/
structure Flat (R : Value → FV → Prop) (sz : Nat) (arr : List Value) (els : List (List FV)) : Prop where
  len : arr.length = els.length * sz
  wid : ∀ x ∈ els, x.length = sz
  get : ∀ i k (hi : i < els.length) (hk : k < els[i].length), ∃ u, arr[i * sz + k]? = some u ∧ u.oneCell' = true ∧ R u els[i][k]
theorem Flat.mono {R R' : Value → FV → Prop} {sz : Nat} {arr : List Value} {els : List (List FV)} (h : Flat R sz arr els) (hR : ∀ u x, R u x → R' u x) : Flat R' sz arr els :=
  ⟨h.len, h.wid, fun i k hi hk => by obtain ⟨u, a, b, d⟩ := h.get i k hi hk; exact ⟨u, a, b, hR _ _ d⟩⟩
theorem Flat.one {R : Value → FV → Prop} {sz : Nat} {arr : List Value} {els : List (List FV)} (h : Flat R sz arr els) : ∀ u ∈ arr, u.oneCell' = true := by
  intro u hu
  obtain ⟨j, hj, rfl⟩ := List.getElem_of_mem hu
  rw [h.len] at hj
  have hs : 0 < sz := by
    rcases Nat.eq_zero_or_pos sz with e | e
    · subst e; simp at hj
    · exact e
  have hi : j / sz < els.length := Nat.div_lt_of_lt_mul (by rw [Nat.mul_comm]; exact hj)
  have hk : j % sz < els[j / sz].length := by rw [h.wid _ (List.getElem_mem hi)]; exact Nat.mod_lt _ hs
  obtain ⟨u, a, b, d⟩ := h.get _ _ hi hk
  rw [show j / sz * sz + j % sz = j by rw [Nat.mul_comm]; exact Nat.div_add_mod j sz, List.getElem?_eq_getElem (by rw [h.len]; exact hj)] at a
  rw [Option.some.inj a]; exact b
theorem Flat.append {R : Value → FV → Prop} {sz : Nat} {a b : List Value} {x y : List (List FV)} (h : Flat R sz a x) (h' : Flat R sz b y) : Flat R sz (a ++ b) (x ++ y) := by
  refine ⟨by rw [List.length_append, List.length_append, h.len, h'.len, Nat.add_mul], fun z hz => ?_, fun i k hi hk => ?_⟩
  · rcases List.mem_append.1 hz with h1 | h1
    · exact h.wid z h1
    · exact h'.wid z h1
  · have hw : (x ++ y)[i].length = sz := by
      rcases List.mem_append.1 (List.getElem_mem hi) with h1 | h1
      · exact h.wid _ h1
      · exact h'.wid _ h1
    by_cases e : i < x.length
    · have hk' : k < x[i].length := by rw [List.getElem_append_left e] at hk; exact hk
      obtain ⟨u, a1, a2, a3⟩ := h.get i k e hk'
      refine ⟨u, ?_, a2, ?_⟩
      · rw [List.getElem?_append_left (by rw [h.len]; exact pos_lt e (by omega))]; exact a1
      · simp only [List.getElem_append_left e]; exact a3
    · have hi' : i - x.length < y.length := by rw [List.length_append] at hi; omega
      have hk' : k < y[i - x.length].length := by rw [List.getElem_append_right (by omega)] at hk; exact hk
      obtain ⟨u, a1, a2, a3⟩ := h'.get (i - x.length) k hi' hk'
      refine ⟨u, ?_, a2, ?_⟩
      · have hle : x.length * sz ≤ i * sz := Nat.mul_le_mul_right _ (by omega)
        rw [List.getElem?_append_right (by rw [h.len]; omega), h.len, show i * sz + k - x.length * sz = (i - x.length) * sz + k by rw [Nat.sub_mul]; omega]; exact a1
      · simp only [List.getElem_append_right (Nat.le_of_not_lt e)]; exact a3
theorem Flat.set {R : Value → FV → Prop} {sz : Nat} {arr vs : List Value} {els : List (List FV)} (h : Flat R sz arr els) {i : Nat} (hi : i < els.length) {fs : List FV} (hfs : fs.length = sz) (hv : vs.length = sz) (h1 : ∀ u ∈ vs, u.oneCell' = true)
    (hr : ∀ k (a : k < vs.length) (b : k < fs.length), R vs[k] fs[k]) : Flat R sz (splice arr (i * sz) vs) (els.set i fs) := by
  have hfit : i * sz + vs.length ≤ arr.length := by
    rw [h.len]
    have : (i + 1) * sz ≤ els.length * sz := Nat.mul_le_mul_right _ hi
    rw [Nat.add_mul, Nat.one_mul] at this
    omega
  refine ⟨by rw [splice_len _ _ _ hfit, List.length_set, h.len], fun x hx => ?_, fun p q hp hq => ?_⟩
  · rcases List.mem_or_eq_of_mem_set hx with h' | rfl
    · exact h.wid x h'
    · exact hfs
  · simp only [List.length_set] at hp
    rw [splice_get _ _ _ hfit]
    by_cases e : i = p
    · subst e
      simp only [List.getElem_set_self] at hq ⊢
      rw [if_pos (by omega), show i * sz + q - i * sz = q by omega, List.getElem?_eq_getElem (by omega)]
      exact ⟨_, rfl, h1 _ (List.getElem_mem _), hr _ _ _⟩
    · simp only [List.getElem_set_ne e] at hq ⊢
      have hqs := h.wid _ (List.getElem_mem hp)
      rw [if_neg ?_]
      · exact h.get p q hp hq
      · rintro ⟨b1, b2⟩
        rcases Nat.lt_or_gt_of_ne e with hh | hh
        · have : (i + 1) * sz ≤ p * sz := Nat.mul_le_mul_right _ hh
          rw [Nat.add_mul, Nat.one_mul] at this
          omega
        · have : (p + 1) * sz ≤ i * sz := Nat.mul_le_mul_right _ hh
          rw [Nat.add_mul, Nat.one_mul] at this
          omega
/-- a row that is new -/
theorem sl_row (G : Good c S look w ρ xs) {id e sz n : Nat} {els : List (List FV)} {l : List Value} {v' : Value} {w' : World} (hO : Own w' 0 e sz v' els.length l) (hb : Below w.heap.size w w') (hblk : ∀ b, v'.ownBlock = some b → w.heap.size ≤ b)
    (hF : Flat (RepF w (c.A ρ S.st) c.n0) sz l els) (h1 : v'.oneCell' = true) :
    InvV c ((S.kill (only id)).row id (.sl true e sz els)) (.own id) v' look w' := by
  refine ⟨_, _, G.new id (.sl true e sz els) l v' hb hblk (fun _ tr => ?_), ?_⟩
  · refine ⟨by rw [setR_self]; exact hO, ?_, fun b hb' => ?_⟩
    · exact ⟨hF.wid, fun i k hi hk => by obtain ⟨u, a, b, d⟩ := hF.get i k hi hk; exact ⟨u, a, b, tr _ _ d⟩⟩
    · rw [setR_self] at hb'
      have := hblk b hb'
      have := G.kept.size
      have := c.hn
      exact ⟨.inl (by omega), fun _ => by omega⟩
  · have := RepH.own (w := w') (A := c.A (setR ρ id v') ((S.kill (only id)).row id (.sl true e sz els)).st) (n0 := c.n0) (ρ := setR ρ id v') id (by rw [setR_self]; exact h1)
    rw [setR_self] at this
    exact this
theorem seOf_all {t e sz by' : Nat} {z : Array Value} (h : seOf P t = some (e, sz, by', z)) : P.underlying t = some (.slice e) ∧ ∃ i u, P.info? e = some i ∧ i.size = sz ∧ i.bytes = by' ∧ i.zero = some u ∧ u.cells = z := seOf_some h
theorem rep_zero {R : Value → FV → Prop} {z : Array Value} {sz n : Nat} (hz : z.size = sz) (h1 : z.all (·.oneCell') = true) (hR : ∀ x, R x (.v x)) : Flat R sz (madeCells z (n * sz)).toList (List.replicate n (z.toList.map .v)) := by
  refine ⟨by simp [madeCells], fun x hx => ?_, fun i k hi hk => ?_⟩
  · rw [(List.mem_replicate.1 hx).2]; simp [hz]
  · simp only [List.length_replicate] at hi
    simp only [List.getElem_replicate, List.length_map, Array.length_toList] at hk ⊢
    have hlt := pos_lt (sz := sz) (k := k) hi (by omega)
    refine ⟨z[k], ?_, ?_, ?_⟩
    · rw [Array.getElem?_toList, Array.getElem?_eq_getElem (by simpa [madeCells] using hlt)]
      simp only [madeCells, Array.getElem_map, Array.getElem_range]
      subst hz
      rw [Nat.mul_comm, Nat.mul_add_mod, Nat.mod_eq_of_lt hk]
      simp [hk]
    · rw [Array.all_eq_true] at h1
      exact h1 k hk
    · rw [List.getElem_map, Array.getElem_toList]; exact hR _
theorem sound_make (G : Good c S look w ρ xs) (hl : Agr S.env look lw) {id : Nat} {t ty : TypeId} {x y : Operand} (h : hMake S id (seOf P t) (hev S.env x) (hev S.env y) = .go cnd hv S') (hc : cnd) :
    vcOp P lw (.makeSlice t x y) ty w (KV c S' hv look) (KV c S' hv look) := by
  unfold hMake at h
  split at h
  · rename_i e sz by' z n m hse hx hy
    split at h
    · rename_i hz
      simp only [HOut.go.injEq] at h
      obtain ⟨rfl, rfl, rfl⟩ := h
      obtain ⟨rfl, h0, hby, h63⟩ := hc
      simp only [oneAll_all, Bool.and_eq_true, beq_iff_eq] at hz
      obtain ⟨v, e1, e2⟩ := G.ev hl hx
      obtain ⟨u, f1, f2⟩ := G.ev hl hy
      have := repH_v e2
      subst this
      have := repH_v f2
      subst this
      obtain ⟨w', r1, r2, r3, r4⟩ := own_make (P := P) (w := w) hse n.toNat hby h63
      unfold vcOp
      simp only [pureOp, effOp, e1, f1]
      rw [Int.toNat_of_nonneg h0] at r1
      refine ⟨_, w', r1, sl_row G (n := n.toNat) (l := (madeCells z (n.toNat * sz)).toList) ?_ r3 (fun b hb => by simp only [Value.ownBlock, Option.some.injEq] at hb; omega) (rep_zero hz.2 hz.1 fun x => .v x) rfl⟩
      rw [List.length_replicate]
      exact ⟨r2.1, r2.2.imp _root_.id fun ⟨g, cap, cur, a, b, d⟩ => ⟨g, cap, cur, a, Nat.zero_le _, d⟩⟩
    · cases h
  · cases h
theorem lit_rep {w : World} {A : Nat → Prop} {n0 sz : Nat} : ∀ (ps : List (Nat × Value)) (hs : List (Nat × HV)) (arr : Array Value) (els out : List (List FV)) (cnd : Prop), ps.length = hs.length →
    (∀ i (h1 : i < ps.length) (h2 : i < hs.length), ps[i].1 = hs[i].1 ∧ RepH w A n0 ρ ps[i].2 hs[i].2) → Flat (RepF w A n0) sz arr.toList els → hlit sz els hs = some (cnd, out) → cnd →
    ∃ arr', Instr.fill (fun i => some (i * sz, sz)) arr ps = some arr' ∧ Flat (RepF w A n0) sz arr'.toList out ∧ out.length = els.length
  | [], [], arr, els, out, cnd, _, _, hp, h, hc => by
    simp only [hlit, Option.some.injEq, Prod.mk.injEq] at h
    obtain ⟨-, rfl⟩ := h
    exact ⟨arr, rfl, hp, rfl⟩
  | (i, v) :: ps, (j, y) :: hs, arr, els, out, cnd, hl, he, hp, h, hc => by
    have e0 := he 0 (by simp) (by simp)
    simp only [List.getElem_cons_zero] at e0
    obtain ⟨rfl, hr⟩ := e0
    simp only [hlit] at h
    split at h
    · rename_i cs hcs
      split at h
      · rename_i fs hfs
        split at h
        · rename_i c' out' hf
          simp only [Option.some.injEq, Prod.mk.injEq] at h
          obtain ⟨rfl, rfl⟩ := h
          obtain ⟨⟨hn, hi⟩, hc2⟩ := hc
          obtain ⟨b1, b2, b3⟩ := cells_rep hr hcs
          obtain ⟨g1, g2⟩ := fs_len hfs
          have hlen := hp.len
          simp only [Array.length_toList] at hlen
          have hfit : i * sz + v.cells.size ≤ arr.size := by
            have : (i + 1) * sz ≤ els.length * sz := Nat.mul_le_mul_right _ hi
            rw [Nat.add_mul, Nat.one_mul] at this
            omega
          have hfo := fill_one arr (i * sz) v hfit
          have hset := hp.set hi (fs := fs) (vs := v.cells.toList) hn (by simp; omega) b2 (fun k a b => f_rep (b3 k a (by omega)) (g2 k (by omega) b))
          obtain ⟨arr', r1, r2, r3⟩ := lit_rep ps hs (Eng.splice arr.toList (i * sz) v.cells.toList).toArray (els.set i fs) out' c' (by simpa using hl) (fun i a b => by
            have := he (i + 1) (by simpa using a) (by simpa using b)
            simpa using this) (by simpa using hset) hf hc2
          refine ⟨arr', ?_, r2, by simpa using r3⟩
          simp only [Instr.fill]
          rw [if_neg (by simp; omega)]
          rw [← r1, ← hfo]
        · cases h
      · cases h
    · cases h
theorem sound_buildS (G : Good c S look w ρ xs) (hl : Agr S.env look lw) {id n : Nat} {t ty : TypeId} {ps : Array (Nat × Operand)} (h : hBuildS S id n (seOf P t) (partsH S.env ps.toList) = .go cnd hv S') (hc : cnd) :
    vcOp P lw (.buildSlice t n ps) ty w (KV c S' hv look) (KV c S' hv look) := by
  unfold hBuildS at h
  split at h
  · rename_i e sz by' z qs hse hq
    split at h
    · rename_i hz
      simp only [oneAll_all, Bool.and_eq_true, beq_iff_eq] at hz
      unfold hBuildSF at h
      split at h
      · rename_i c' els hli
        simp only [HOut.go.injEq] at h
        obtain ⟨rfl, rfl, rfl⟩ := h
        obtain ⟨⟨hn1, hn2⟩, hc'⟩ := hc
        obtain ⟨vs, p1, p2, p3⟩ := G.parts hl hq
        obtain ⟨arr, f1, f2, f3⟩ := lit_rep vs qs (madeCells z (n * sz)) (List.replicate n (z.toList.map .v)) els c' p2 p3 (rep_zero hz.2 hz.1 fun x => .v x) hli hc'
        rw [List.length_replicate] at f3
        have hlen := f2.len
        rw [Array.length_toList, f3] at hlen
        obtain ⟨w', r1, r2, r3, r4⟩ := own_lit (P := P) (w := w) (parts := vs.toArray) arr hse hn1 (by simp only [maxLen]; omega) f1 hlen
        unfold vcOp
        simp only [pureOp, effOp, p1]
        refine ⟨_, w', r1, sl_row G (n := n) (l := arr.toList) ?_ r3 (fun b hb => by simp only [Value.ownBlock, Option.some.injEq] at hb; omega) f2 rfl⟩
        rw [f3]
        exact ⟨r2.1, r2.2.imp _root_.id fun ⟨g, cap, cur, a, b, d⟩ => ⟨g, cap, cur, a, Nat.zero_le _, d⟩⟩
      · cases h
    · cases h
  · cases h
/-- what lies together, to be appended -/
def Together (w : World) (v : Value) (m : Nat) (news : List Value) : Prop := (∃ a cp, v = .slice (some a) m cp ∧ ∀ j u, news[j]? = some u → w.cell? (a.add j) = some u) ∨ (v = .slice none 0 0 ∧ m = 0 ∧ news = [])
theorem news_rep (G : Good c S look w ρ xs) {sz : Nat} (hsz : 0 < sz) {v : Value} {x : HV} {els : List (List FV)} (hr : RepH w (c.A ρ S.st) c.n0 ρ v x) (h : newsOf S.st sz x = some (cnd, els)) (hc : cnd) :
    ∃ news, Together w v els.length news ∧ Flat (RepF w (c.A ρ S.st) c.n0) sz news els := by
  unfold newsOf at h
  split at h
  · rename_i id
    split at h
    · rename_i nw ty s els' hrow
      simp only [Option.some.injEq, Prod.mk.injEq] at h
      obtain ⟨rfl, rfl⟩ := h
      have hs : s = sz := hc
      subst hs
      cases hr
      obtain ⟨o1, o2, o3⟩ := rows_sl G hrow
      refine ⟨xs id, ?_, o1.1, o2, o3⟩
      have hl := o1.1
      rcases o1.2 with ⟨hv, h0⟩ | ⟨g, cap, cur, hv, -, -, -⟩
      · right
        refine ⟨hv, h0, ?_⟩
        rw [h0, Nat.zero_mul] at hl
        exact List.eq_nil_of_length_eq_zero hl
      · left
        refine ⟨_, _, hv, fun j u hj => ?_⟩
        have hlt : j < (xs id).length := (List.getElem?_eq_some_iff.1 hj).1
        rw [Addr.add_lit, Nat.zero_add]
        rw [hv] at o1
        rw [World.ownsRow.cellAt o1 j (by omega), hj]
    · cases h
  · rename_i fr l
    simp only [Option.some.injEq, Prod.mk.injEq] at h
    obtain ⟨rfl, rfl⟩ := h
    cases hr with
    | lst hF =>
    cases hF with
    | lst s vals hn hcap hm hnil hs ha h1 hrr =>
    rename_i a n cap
    subst hn
    by_cases h0 : l.length = 0
    · have : l = [] := List.eq_nil_of_length_eq_zero h0
      subst this
      refine ⟨[], ?_, by simp, by simp, fun i k hi => absurd hi (by simp)⟩
      cases a with
      | none => right; exact ⟨by rw [hnil rfl]; rfl, rfl, rfl⟩
      | some a => left; exact ⟨a, cap, rfl, fun j u hj => by simp at hj⟩
    · have hss : s = sz := by
        have hx := List.getElem_mem (l := l) (n := 0) (by omega)
        rw [← hs _ hx, hc _ hx]
      subst hss
      obtain ⟨b, off, rfl, -, -, -, hcell⟩ := ha (by omega)
      refine ⟨(List.range (l.length * s)).map fun j => vals (j / s) (j % s), .inl ⟨_, _, rfl, fun j u hj => ?_⟩, by simp, hs, fun i k hi hk => ?_⟩
      · rw [List.getElem?_map] at hj
        have hlt : j < l.length * s := by
          rcases Nat.lt_or_ge j (l.length * s) with h | h
          · exact h
          · rw [List.getElem?_eq_none (by simpa using h)] at hj; cases hj
        rw [List.getElem?_range hlt] at hj
        simp only [Option.map_some, Option.some.injEq] at hj
        subst hj
        rw [Addr.add_lit]
        have := hcell (j / s) (j % s) (Nat.div_lt_of_lt_mul (by rw [Nat.mul_comm]; exact hlt)) (Nat.mod_lt _ hsz)
        rw [← this]
        congr 2
        rw [Nat.mul_comm (j / s) s, Nat.div_add_mod]
      · have hks : k < s := by rw [← hs _ (List.getElem_mem hi)]; exact hk
        refine ⟨vals i k, ?_, h1 i k hi hks, hrr i k hi hk⟩
        rw [List.getElem?_map, List.getElem?_range (pos_lt hi hks), Option.map_some]
        rw [Nat.mul_comm i s, Nat.mul_add_div hsz, Nat.mul_add_mod, Nat.div_eq_of_lt hks, Nat.mod_eq_of_lt hks, Nat.add_zero]
  · rename_i id s off n
    split at h
    · rename_i nw ty s' els' hrow
      simp only [Option.some.injEq, Prod.mk.injEq] at h
      obtain ⟨rfl, rfl⟩ := h
      obtain ⟨hs, hs'⟩ := hc
      subst hs; subst hs'
      cases hr with
      | vw _ _ _ hg hm hc' hn' hx' ha' =>
      rename_i len c0 c' q q'
      obtain ⟨o1, o2, o3⟩ := rows_sl G hrow
      obtain ⟨q2, cap2, hg2⟩ := own_shape o1
      rw [hg] at hg2
      cases hg2
      have hlen : ((els'.drop off).take n).length = n := by simp; omega
      by_cases h0 : n = 0
      · subst h0
        refine ⟨[], ?_, by simp, by simp, fun i k hi => absurd hi (by simp)⟩
        rw [hlen]
        cases q' with
        | none => right; exact ⟨by rw [hn' rfl], rfl, rfl⟩
        | some a => left; exact ⟨a, c', rfl, fun j u hj => by simp at hj⟩
      · rcases o1.2 with ⟨h3, h4⟩ | ⟨g, cap', cur, h3, hb1, hb2, h4, h5, hb3⟩
        · omega
        · rw [hg] at h3; cases h3
          obtain ⟨g', hg', rfl⟩ := ha' (by omega)
          cases hg'
          have hl := o1.1
          refine ⟨((xs id).drop (off * s')).take (n * s'), .inl ⟨_, _, by rw [hlen], fun j u hj => ?_⟩, by rw [hlen]; simp only [List.length_take, List.length_drop, hl, ← Nat.sub_mul]; exact Nat.min_eq_left (Nat.mul_le_mul_right _ (by omega)), fun x hx => o2 x (List.mem_of_mem_drop (List.mem_of_mem_take hx)), fun i k hi hk => ?_⟩
          · have hj' : j < n * s' := by
              rcases Nat.lt_or_ge j (n * s') with h | h
              · exact h
              · rw [List.getElem?_take_eq_none h] at hj; cases hj
            rw [List.getElem?_take_of_lt hj', List.getElem?_drop] at hj
            rw [Addr.add_lit]
            rw [hg] at o1
            rw [World.ownsRow.cellAt o1 _ (by rw [← hl]; exact (List.getElem?_eq_some_iff.1 hj).1), hj]
          · rw [hlen] at hi
            simp only [List.getElem_take, List.getElem_drop] at hk ⊢
            obtain ⟨u, a, b, d⟩ := o3 (off + i) k (by omega) hk
            have hks := o2 _ (List.getElem_mem (show off + i < els'.length by omega))
            refine ⟨u, ?_, b, d⟩
            rw [List.getElem?_take_of_lt (pos_lt hi (by omega)), List.getElem?_drop, ← a]
            congr 1
            rw [Nat.add_mul]; omega
    · cases h
  · simp only [Option.some.injEq, Prod.mk.injEq] at h
    obtain ⟨rfl, rfl⟩ := h
    have := repH_v hr
    subst this
    exact ⟨[], .inr ⟨rfl, rfl, rfl⟩, by simp, by simp, fun i k hi => absurd hi (by simp)⟩
  · cases h
/-- append onto a row of one's own: where the row lies then -/
theorem append_block {t ty e sz by' : Nat} {z : Array Value} {v : Value} {n : Nat} {l : List Value} (hse : seOf P t = some (e, sz, by', z)) (hz : z.size = sz) (hsz : 0 < sz) (hby0 : 0 < by') (h : Own w 0 e sz v n l)
    {x : Value} {m : Nat} {news : List Value} (hx : Together w x m news) (hl : news.length = m * sz) (h1 : ∀ u ∈ news, u.oneCell' = true) (hby : (n + m) * by' ≤ 140737488355328) :
    ∃ v' w', (Builtin.append_ #[t, t] ty #[v, x]).run P w = .ok v' w' ∧ Own w' 0 e sz v' (n + m) (l ++ news) ∧ w.grownBy w' v.ownBlock ∧ v'.oneCell' = true ∧ ∀ b, v'.ownBlock = some b → w.heap.size ≤ b ∨ v.ownBlock = some b := by
  have h63 : n + m ≤ maxLen := by
    have : n + m ≤ (n + m) * by' := Nat.le_mul_of_pos_right _ hby0
    simp only [maxLen]; omega
  obtain ⟨hu, i, u, hi, h2, h3, h4, h5⟩ := seOf_some hse
  rcases hx with ⟨a, cp, rfl, hnews⟩ | ⟨rfl, rfl, rfl⟩
  · obtain ⟨v', w', r1, r2, r3⟩ := own_append (P := P) (ty := ty) hse hz hsz h a m cp news hl hnews h1 h63 hby (Nat.zero_le _)
    obtain ⟨q, cap', hq⟩ := own_shape r2
    refine ⟨v', w', r1, r2, r3, by rw [hq]; rfl, ?_⟩
    subst h2; subst h3
    rcases h.2 with ⟨rfl, rfl⟩ | ⟨g, cap, cur, rfl, hbg, hg, hnc, hcm, hcs, htake⟩
    · by_cases hm : m = 0
      · subst hm
        have hn : news = [] := List.eq_nil_of_length_eq_zero (by simpa using hl)
        subst hn
        have : (Builtin.append_ #[t, t] ty #[.slice none 0 0, .slice (some a) 0 cp]).run P w = .ok (.slice none 0 0) w := by
          simp [Builtin.append_, run_underlying hu, sizeOf, typeInfo, hi, Builtin.lenOf, Builtin.firstCells, loadCells, loadCellsFrom]
        rw [this] at r1
        simp only [Result.ok.injEq] at r1
        rw [← r1.1]
        intro b hb; cases hb
      · have hr := run_append_nil (P := P) w t ty e i u hu hi h4 a m cp news hl hnews (by omega) (by simp only [maxLen] at h63; omega) (by have hb := hby; simp only [Nat.zero_add] at hb; omega)
        rw [hr] at r1
        simp only [Result.ok.injEq] at r1
        rw [← r1.1]
        intro b hb
        simp only [Value.ownBlock, Option.some.injEq] at hb
        left; omega
    · by_cases hroom : n + m ≤ cap
      · have hfit : n * i.size + news.length ≤ cur.size := by rw [hl, hcs, ← Nat.add_mul]; exact Nat.mul_le_mul_right _ hroom
        have hr := run_append_room (P := P) w t ty e i hu hi g n cap cur hg a m cp news hl hnews h1 hroom hfit
        rw [hr] at r1
        simp only [Result.ok.injEq] at r1
        rw [← r1.1]
        intro b hb
        right; exact hb
      · have holds : ∀ j y, l[j]? = some y → w.cell? ((⟨g, 0, none⟩ : Addr).add j) = some y := h.cells (g := g) rfl
        have hr := run_append_grow (P := P) w t ty e i u hu hi h4 ⟨g, 0, none⟩ n cap l h.1 holds a m cp news hl hnews (by omega) (by simp only [maxLen] at h63; omega) (growslice_fits (by omega) hby)
        rw [hr] at r1
        simp only [Result.ok.injEq] at r1
        rw [← r1.1]
        intro b hb
        simp only [Value.ownBlock, Option.some.injEq] at hb
        left; omega
  · have := run_append_owned_none (P := P) (w := w) 0 t ty e i sz hu hi v n l h
    obtain ⟨q, cap', hq⟩ := own_shape h
    refine ⟨v, w, this, by simpa using h, ⟨rfl, rfl, rfl, Nat.le_refl _, fun _ _ _ => rfl⟩, by rw [hq]; rfl, fun b hb => .inr hb⟩
theorem strT_some {P : Program} {ats : Array TypeId} (h : strT P ats = true) : ∃ t u e i, ats = #[t, u] ∧ P.underlying u = some .string ∧ P.underlying t = some (.slice e) ∧ P.info? e = some i ∧ i.size = 1 ∧ i.bytes = 1 ∧ i.zero = some (.int .u8 0) := by
  unfold strT at h
  split at h
  · rename_i t u hl
    have hats : ats = #[t, u] := by apply Array.toList_inj.1; rw [hl]
    subst hats
    simp only [Bool.and_eq_true] at h
    obtain ⟨h1, h2⟩ := h
    split at h1
    · rename_i hu
      split at h2
      · rename_i e he
        split at h2
        · rename_i i hi
          simp only [Bool.and_eq_true, beq_iff_eq] at h2
          obtain ⟨⟨h3, h4⟩, h5⟩ := h2
          split at h5
          · rename_i hz; exact ⟨t, u, e, i, rfl, hu, he, hi, h3, h4, hz⟩
          · cases h5
        · cases h2
      · cases h2
    · cases h1
  · cases h
theorem byteE_flat {R : Value → FV → Prop} (hR : ∀ x, R x (.v x)) (s : ByteArray) : Flat R 1 (Lib.strCells s) (byteE s) := by
  refine ⟨by simp [Lib.strCells, byteE], fun x hx => ?_, fun i k hi hk => ?_⟩
  · simp only [byteE, List.mem_map] at hx; obtain ⟨b, -, rfl⟩ := hx; rfl
  · have hk' : k < 1 := by simpa [byteE] using hk
    have : k = 0 := by omega
    subst this
    have hi' : i < s.data.toList.length := by simpa [byteE] using hi
    refine ⟨.int .u8 s.data.toList[i].toNat, by simp only [Lib.strCells, Nat.mul_one, Nat.add_zero, List.getElem?_map, List.getElem?_eq_getElem hi', Option.map_some], rfl, ?_⟩
    simp only [byteE, List.getElem_map, List.getElem_cons_zero]
    exact hR _
theorem append_str {t u e : TypeId} {i : TypeInfo} {ty : TypeId} {v : Value} {n : Nat} {l : List Value} (ht : P.underlying t = some (.slice e)) (hu : P.underlying u = some .string) (hi : P.info? e = some i) (hs1 : i.size = 1) (hby : i.bytes = 1) (hz : i.zero = some (.int .u8 0))
    (h : Own w 0 e 1 v n l) (s : ByteArray) (hb : n + s.size ≤ 140737488355328) :
    ∃ v' w', (Builtin.append_ #[t, u] ty #[v, .string s]).run P w = .ok v' w' ∧ Own w' 0 e 1 v' (n + s.size) (l ++ Lib.strCells s) ∧ w.grownBy w' v.ownBlock ∧ v'.oneCell' = true ∧ ∀ b, v'.ownBlock = some b → w.heap.size ≤ b ∨ v.ownBlock = some b := by
  have h63 : n + s.size ≤ maxLen := by simp only [maxLen]; omega
  obtain ⟨v', w', r1, r2, r3, -⟩ := Lib.run_append_own_string (P := P) w 0 t u ty e i ht hu hi hz hs1 hby v n l h s h63 hb (Nat.zero_le _)
  obtain ⟨q, cap', hq⟩ := own_shape r2
  refine ⟨v', w', r1, r2, r3, by rw [hq]; rfl, ?_⟩
  have hxl : l.length = n := by simpa using h.1
  rcases h.2 with ⟨rfl, rfl⟩ | ⟨g, cap, cur, rfl, hbg, hg, hnc, hcm, hcs, htake⟩
  · by_cases hm : s.size = 0
    · have hf := Lib.run_firstCells_string (P := P) w 1 s
      rw [hm] at hf
      have hn : Lib.strCells s = [] := List.eq_nil_of_length_eq_zero (by rw [Lib.strCells_length]; exact hm)
      have hr : (Builtin.append_ #[t, u] ty #[.slice none 0 0, .string s]).run P w = .ok (.slice none 0 0) w := by
        simp [Builtin.append_, run_underlying ht, run_underlying hu, sizeOf, typeInfo, hi, hs1, Builtin.lenOf, hm, hf]
      rw [hr] at r1
      simp only [Result.ok.injEq] at r1
      rw [← r1.1]
      intro b hb'; cases hb'
    · have hr := run_append_nil_string (P := P) w t u ty e i (.int .u8 0) ht hu hi hz s (by omega) (by omega) (by rw [hby]; omega)
      rw [hr] at r1
      simp only [Result.ok.injEq] at r1
      rw [← r1.1]
      intro b hb'
      simp only [Value.ownBlock, Option.some.injEq] at hb'
      left; omega
  · by_cases hroom : n + s.size ≤ cap
    · have hcs' : cur.size = cap := by simpa using hcs
      have hr := Lib.run_append_room_string (P := P) w t u ty e i ht hu hi hs1 g n cap cur hg s hroom (by omega)
      rw [hr] at r1
      simp only [Result.ok.injEq] at r1
      rw [← r1.1]
      intro b hb'; right; exact hb'
    · have holds : ∀ j y, l[j]? = some y → w.cell? ((⟨g, 0, none⟩ : Addr).add j) = some y := h.cells (g := g) rfl
      have hr := Lib.run_append_grow_string (P := P) w t u ty e i (.int .u8 0) ht hu hi hz ⟨g, 0, none⟩ n cap l (by rw [hs1]; simpa using hxl) holds s (by omega) (by omega) (by rw [hby]; exact growslice_fits (by omega) (by omega))
      rw [hr] at r1
      simp only [Result.ok.injEq] at r1
      rw [← r1.1]
      intro b hb'
      simp only [Value.ownBlock, Option.some.injEq] at hb'
      left; omega
theorem sound_append (G : Good c S look w ρ xs) (hl : Agr S.env look lw) {nid : Nat} {args : Array Operand} {ats : Array TypeId} {ty : TypeId} (h : hAppend S nid (ats == #[ats0 ats, ats0 ats]) (strT P ats) (seOf P (ats0 ats)) (hevs S.env args.toList) = .go cnd hv S') (hc : cnd) :
    vcOp P lw (.call ⟨.builtin .append, args, ats⟩) ty w (KV c S' hv look) (KV c S' hv look) := by
  have two : ∀ {p q : HV}, hevs S.env args.toList = some [p, q] → ∃ u v, evs lw args.toList = some [u, v] ∧ RepH w (c.A ρ S.st) c.n0 ρ u p ∧ RepH w (c.A ρ S.st) c.n0 ρ v q := by
    intro p q hpq
    obtain ⟨vs, e1, e2, e3⟩ := G.evs hl hpq
    match vs, e2 with
    | [u, v], _ => exact ⟨u, v, e1, e3 0 (by simp) (by simp), e3 1 (by simp) (by simp)⟩
  unfold hAppend at h
  split at h
  · rename_i e sz by' z id x hse hargs
    split at h
    · rename_i hs
      simp only [Bool.and_eq_true, beq_iff_eq] at hs
      obtain ⟨hats, hz⟩ := hs
      obtain ⟨u, v, e1, e2, e3⟩ := two hargs
      unfold hAppR at h
      split at h
      · rename_i nw ty' s els hrow
        split at h
        · rename_i hd
          simp only [Bool.and_eq_true, decide_eq_true_eq] at hd
          obtain ⟨rfl, rfl⟩ := hd
          unfold hAppN at h
          split at h
          · rename_i c' news hn
            simp only [HOut.go.injEq] at h
            obtain ⟨rfl, rfl, rfl⟩ := h
            obtain ⟨hc', hby, hby0, hsz⟩ := hc
            cases e2
            obtain ⟨o1, o2, o3⟩ := rows_sl G hrow
            obtain ⟨nv, v', w', r1, r2, r3, r4, r5, n2⟩ : ∃ nv v' w', (Builtin.append_ ats ty #[ρ id, v]).run P w = .ok v' w' ∧ Own w' 0 ty' s v' (els.length + news.length) (xs id ++ nv) ∧ w.grownBy w' (ρ id).ownBlock ∧ v'.oneCell' = true ∧ (∀ b, v'.ownBlock = some b → w.heap.size ≤ b ∨ (ρ id).ownBlock = some b) ∧ Flat (RepF w (c.A ρ S.st) c.n0) s nv news := by
              unfold newsA at hn
              split at hn
              · rename_i hsame
                have hats : ats = #[ats0 ats, ats0 ats] := by simpa using hsame
                obtain ⟨nv, n1, n2⟩ := news_rep G hsz e3 hn hc'
                obtain ⟨v', w', r1, r2, r3, r4, r5⟩ := append_block (P := P) (ty := ty) hse hz hsz hby0 o1 n1 n2.len n2.one hby
                exact ⟨nv, v', w', by rw [hats]; exact r1, r2, r3, r4, r5, n2⟩
              · split at hn
                · rename_i hstr
                  unfold newsS at hn
                  split at hn
                  · rename_i str
                    simp only [Option.some.injEq, Prod.mk.injEq] at hn
                    obtain ⟨-, rfl⟩ := hn
                    have := repH_v e3
                    subst this
                    obtain ⟨t, u, e', i, rfl, hu, ht, hi, hs1, hb1, hzz⟩ := strT_some hstr
                    obtain ⟨hu', i', u', hi', q2, q3, q4, q5⟩ := seOf_some hse
                    have hu' : P.underlying t = some (.slice ty') := hu'
                    rw [ht] at hu'
                    simp only [Option.some.injEq, TypeDesc.slice.injEq] at hu'
                    subst hu'
                    rw [hi] at hi'
                    simp only [Option.some.injEq] at hi'
                    subst hi'
                    have hs' : s = 1 := by omega
                    subst hs'
                    have hbl : (byteE str).length = str.size := by simp [byteE]
                    have hb2 : els.length + str.size ≤ 140737488355328 := by
                      have e1 : by' = 1 := by omega
                      rw [hbl, e1, Nat.mul_one] at hby
                      exact hby
                    obtain ⟨v', w', r1, r2, r3, r4, r5⟩ := append_str (P := P) (ty := ty) ht hu hi hs1 hb1 hzz o1 str hb2
                    exact ⟨_, v', w', r1, by rw [hbl]; exact r2, r3, r4, r5, byteE_flat (fun x => .v x) str⟩
                  · cases hn
                · cases hn
            have hF : Flat (RepF w (c.A ρ S.st) c.n0) s (xs id ++ nv) (els ++ news) := Flat.append ⟨o1.1, o2, o3⟩ n2
            unfold vcOp
            simp only [pureOp, effOp, e1, pureBuiltin]
            refine ⟨v', w', r1, setR ρ id v', _, G.put id (.sl nw ty' s (els ++ news)) (xs id ++ nv) r3.size r3.os r3.tape r3.output (ρ id).ownBlock (fun b hb => ⟨_, hrow, hb⟩) (fun b hlt hne => r3.block b hlt hne) (fun i hi => setR_ne ρ id v' i hi)
              (fun b hb => r5 b (by rw [setR_self] at hb; exact hb)) (fun _ tr => ?_), ?_⟩
            · refine ⟨by rw [setR_self]; simp only [Row.ty, Row.sz, Row.len, List.length_append]; exact r2, ?_, fun b hb => ?_⟩
              · exact ⟨hF.wid, fun i k hi hk => by obtain ⟨u, a, b, d⟩ := hF.get i k hi hk; exact ⟨u, a, b, tr _ _ d⟩⟩
              · rw [setR_self] at hb
                rcases r5 b hb with hge | ho
                · have := G.kept.size; have := c.hn; exact ⟨.inl (by omega), fun _ => by omega⟩
                · exact (G.rows id _ hrow).new b ho
            · have := RepH.own (w := w') (A := c.A (setR ρ id v') ((S.kill (only id)).row id (.sl nw ty' s (els ++ news))).st) (n0 := c.n0) (ρ := setR ρ id v') id (by rw [setR_self]; exact r4)
              rw [setR_self] at this
              exact this
          · cases h
        · cases h
      · cases h
    · cases h
  · rename_i e sz by' z x hse hargs
    split at h
    · rename_i hs
      simp only [Bool.and_eq_true, beq_iff_eq] at hs
      obtain ⟨hats, hz⟩ := hs
      obtain ⟨u, v, e1, e2, e3⟩ := two hargs
      have := repH_v e2
      subst this
      unfold hAppN at h
      split at h
      · rename_i c' news hn
        simp only [HOut.go.injEq] at h
        obtain ⟨rfl, rfl, rfl⟩ := h
        obtain ⟨hc', hby, hby0, hsz⟩ := hc
        obtain ⟨nv, n1, n2⟩ := news_rep G hsz e3 hn hc'
        have o1 : Own w 0 e sz (.slice none 0 0) 0 [] := World.ownsRow_nil w 0 e sz
        obtain ⟨v', w', r1, r2, r3, r4, r5⟩ := append_block (P := P) (ty := ty) hse hz hsz hby0 o1 n1 n2.len n2.one (by simpa using hby)
        unfold vcOp
        simp only [pureOp, effOp, e1, pureBuiltin]
        rw [hats]
        refine ⟨v', w', r1, sl_row G (n := news.length) (l := nv) (els := [] ++ news) (by simpa using r2) ⟨r3.os, r3.tape, r3.output, r3.size, fun b hb => r3.block b hb (by simp [Value.ownBlock])⟩ (fun b hb => (r5 b hb).resolve_right (by simp [Value.ownBlock])) (by simpa using n2) r4⟩
      · cases h
    · cases h
  · cases h
end
end Go.Eng
