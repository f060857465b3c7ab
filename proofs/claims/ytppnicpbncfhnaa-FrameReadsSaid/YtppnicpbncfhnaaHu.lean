/-
  What the functions of operations say holds in memory: stores, new rows, appends.
-/
import Derived.Test.YtppnicpbncfhnaaHt
set_option linter.unusedSimpArgs false
set_option linter.unusedVariables false
namespace Go.Eng
open Go Go.RowKit
section
variable {lw : Env} {P : Program} {c : Ctx} {S S' : HS} {look : Nat → Option Value} {w : World} {ρ : Nat → Value} {xs : Nat → List Value} {hv : HV} {cnd : Prop}
/-- cells that lie together are stored -/
theorem storeMany {w : World} {b : Nat} {cs : Array Value} {t ty : TypeId} {vs : Array Value} {i : Nat} (h : Blk w b cs t) (hk : kindT P ty = some (some vs.size)) (hv : ∀ v ∈ vs.toList, v.oneCell' = true) (hs : i + vs.size ≤ cs.size) :
    ∃ w', (storeVar ty ⟨b, i, none⟩ (.agg vs)).run P w = .ok () w' ∧ Blk w' b (splice cs.toList i vs.toList).toArray t ∧ Only b w w' := by
  refine ⟨w.setRow b (splice cs.toList i vs.toList).toArray, ?_, blk_setRow h _, only_setRow w b _⟩
  have := run_storeCells_at P b i t vs.toList 0 cs w h (by simpa using hs) hv
  simp only [Nat.add_zero] at this
  simp [storeVar, Sem.run_bind, kindT_size hk, Value.cells, this, splice]
theorem fone_one {w : World} {A : Nat → Prop} {n0 : Nat} {u : Value} {f : FV} (h : RepF w A n0 u f) (h1 : f.one = true) : u.oneCell' = true := by
  cases h with
  | v => exact h1
  | lst => rfl
theorem hone_one {w : World} {A : Nat → Prop} {n0 : Nat} {u : Value} {f : HV} (h : RepH w A n0 ρ u f) (h1 : f.one = true) : u.oneCell' = true := by
  cases h with
  | v => exact h1
  | lst hF => cases hF; rfl
  | own id h => exact h
  | vw => rfl
  | ptr => rfl
  | elt => rfl
  | agg => cases h1
  | tup => cases h1
  | junk => cases h1
theorem f_rep {w : World} {A : Nat → Prop} {n0 : Nat} {u : Value} {h : HV} {f : FV} (hr : RepH w A n0 ρ u h) (hf : h.f = some f) : RepF w A n0 u f := by
  cases hr with
  | v => simp only [HV.f, Option.some.injEq] at hf; subst hf; exact .v _
  | lst hF => simp only [HV.f, Option.some.injEq] at hf; subst hf; exact hF
  | _ => cases hf
theorem fs_len : ∀ {hs : List HV} {fs : List FV}, HV.fs hs = some fs → fs.length = hs.length ∧ ∀ i (h1 : i < hs.length) (h2 : i < fs.length), (hs[i]).f = some fs[i]
  | [], fs, h => by simp only [HV.fs, Option.some.injEq] at h; subst h; exact ⟨rfl, fun i h1 => absurd h1 (by simp)⟩
  | x :: r, fs, h => by
    simp only [HV.fs] at h
    split at h
    · rename_i f gs hf hg
      simp only [Option.some.injEq] at h
      subst h
      obtain ⟨h1, h2⟩ := fs_len hg
      refine ⟨by simp [h1], fun i a b => ?_⟩
      cases i with
      | zero => exact hf
      | succ i => exact h2 i (by simpa using a) (by simpa using b)
    · cases h
theorem splice_get {α : Type} (l : List α) (k : Nat) (cs : List α) (h : k + cs.length ≤ l.length) (j : Nat) : (splice l k cs)[j]? = if k ≤ j ∧ j < k + cs.length then cs[j - k]? else l[j]? := by
  unfold splice
  by_cases h1 : j < k
  · rw [if_neg (by omega), List.append_assoc, List.getElem?_append_left (by simp; omega), List.getElem?_take_of_lt h1]
  · by_cases h2 : j < k + cs.length
    · rw [if_pos (by omega), List.append_assoc, List.getElem?_append_right (by simp; omega), List.getElem?_append_left (by simp; omega)]
      congr 1; simp; omega
    · rw [if_neg (by omega), List.getElem?_append_right (by simp; omega), List.getElem?_drop]
      congr 1; simp; omega
theorem splice_len {α : Type} (l : List α) (k : Nat) (cs : List α) (h : k + cs.length ≤ l.length) : (splice l k cs).length = l.length := by simp [splice]; omega
theorem own_blk {base e sz n g cap : Nat} {l : List Value} (h : Own w base e sz (.slice (some ⟨g, 0, none⟩) n cap) n l) : ∃ cur, Blk w g cur e ∧ n ≤ cap ∧ cap ≤ maxLen ∧ cur.size = cap * sz ∧ cur.toList.take (n * sz) = l := by
  rcases h.2 with ⟨hv, _⟩ | ⟨g', cap', cur, hv, hb, hg, hn, hm, hs, ht⟩
  · cases hv
  · cases hv; exact ⟨cur, hg, hn, hm, hs, ht⟩
/-- the row's content turns from cell p on -/
theorem own_splice {e sz n g cap p : Nat} {l : List Value} {w' : World} {vs : List Value} {cur : Array Value} (h : Own w 0 e sz (.slice (some ⟨g, 0, none⟩) n cap) n l) (hcur : Blk w g cur e) (hb : Blk w' g (splice cur.toList p vs).toArray e) (hp : p + vs.length ≤ l.length) :
    Own w' 0 e sz (.slice (some ⟨g, 0, none⟩) n cap) n (splice l p vs) := by
  obtain ⟨cur', hc', hn, hm, hs, ht⟩ := own_blk h
  have : cur' = cur := by
    have h1 : w.heap[g]? = _ := hc'
    have h2 : w.heap[g]? = _ := hcur
    rw [h1] at h2
    simp only [Option.some.injEq, Obj.cells.injEq] at h2
    exact h2.1
  subst this
  have hl := h.1
  have hle : l.length ≤ cur'.toList.length := by rw [← ht, List.length_take]; omega
  refine ⟨by rw [splice_len _ _ _ hp, hl], .inr ⟨g, cap, _, rfl, Nat.zero_le _, hb, hn, hm, ?_, ?_⟩⟩
  · simp only [List.size_toArray]
    rw [splice_len _ _ _ (by omega), Array.length_toList, hs]
  · simp only [List.toList_toArray]
    apply List.ext_getElem?
    intro j
    rw [splice_get _ _ _ hp]
    by_cases hj : j < n * sz
    · rw [List.getElem?_take_of_lt hj, splice_get _ _ _ (by omega)]
      split
      · rfl
      · rw [← ht, List.getElem?_take_of_lt hj]
    · rw [List.getElem?_take_eq_none (by omega)]
      split
      · omega
      · rw [List.getElem?_eq_none (by omega)]
theorem only_fields {b : Nat} {w w' : World} (h : Only b w w') {id : Nat} (hid : (ρ id).ownBlock = some b) : ∀ k, (ρ id).ownBlock ≠ some k → w'.heap[k]? = w.heap[k]? :=
  fun k hk => h.block k fun e => hk (by rw [hid, e])
theorem set_eq_splice {α : Type} (l : List α) (k : Nat) (x : α) (h : k < l.length) : l.set k x = splice l k [x] := by
  apply List.ext_getElem?
  intro j
  rw [splice_get _ _ _ (by simp only [List.length_singleton]; omega), List.getElem?_set]
  by_cases e : k = j
  · subst e; simp [h]
  · rw [if_neg e]
    rw [if_neg (by simp; omega)]
theorem splice_elem {α : Type} (l : List α) (k : Nat) (cs : List α) (h : k + cs.length ≤ l.length) (j : Nat) (hj : j < (splice l k cs).length) :
    (∃ h1 : j - k < cs.length, k ≤ j ∧ (splice l k cs)[j] = cs[j - k]) ∨ (∃ h2 : j < l.length, ¬ (k ≤ j ∧ j < k + cs.length) ∧ (splice l k cs)[j] = l[j]) := by
  have hg := splice_get l k cs h j
  rw [List.getElem?_eq_getElem hj] at hg
  split at hg
  · rename_i hh
    rw [List.getElem?_eq_getElem (by omega)] at hg
    exact .inl ⟨by omega, hh.1, Option.some.inj hg⟩
  · rename_i hh
    have hl := splice_len l k cs h
    rw [List.getElem?_eq_getElem (by omega)] at hg
    exact .inr ⟨by omega, hh, Option.some.inj hg⟩
/-- cells of one element are stored -/
theorem upd_sl (G : Good c S look w ρ xs) {id : Nat} {nw : Bool} {t sz : Nat} {els : List (List FV)} (hr : rlk S.st id = some (.sl nw t sz els)) {i k : Nat} (hi : i < els.length) {fs : List FV} {vs : List Value} (hn : vs.length = fs.length) (hk : k + fs.length ≤ els[i].length)
    (h1 : ∀ v ∈ vs, v.oneCell' = true) (hrep : ∀ j (a : j < vs.length) (b : j < fs.length), RepF w (c.A ρ S.st) c.n0 vs[j] fs[j]) {g n cap : Nat} (hg : ρ id = .slice (some ⟨g, 0, none⟩) n cap) {w' : World} (hO : Only g w w')
    (hB : ∀ cur, Blk w g cur t → Blk w' g (splice cur.toList (i * sz + k) vs).toArray t) :
    Good c ⟨S.env, sset id (.sl nw t sz (els.set i (splice els[i] k fs))) S.st⟩ look w' ρ (fun j => if j = id then splice (xs id) (i * sz + k) vs else xs j) := by
  obtain ⟨o1, o2, o3⟩ := rows_sl G hr
  have hsz := o2 _ (List.getElem_mem hi)
  have hlen := o1.1
  have hnl : n = els.length := by
    obtain ⟨a, cp, e⟩ := own_shape o1
    rw [hg] at e; cases e; rfl
  subst hnl
  have hfit : i * sz + k + vs.length ≤ (xs id).length := by
    rw [hlen]
    have : (i + 1) * sz ≤ els.length * sz := Nat.mul_le_mul_right _ hi
    rw [Nat.add_mul, Nat.one_mul] at this
    omega
  refine G.upd id _ (.sl nw t sz (els.set i (splice els[i] k fs))) _ hO.size.symm hO.os hO.tape hO.output hr rfl (only_fields hO (by rw [hg]; rfl)) _ (rlk_sset id _ _ _ hr) fun _ tr => ?_
  refine ⟨?_, ⟨fun x hx => ?_, fun p q hp hq => ?_⟩, (G.rows id _ hr).new⟩
  · simp only [Row.ty, Row.sz, Row.len, List.length_set]
    rw [hg] at o1 ⊢
    obtain ⟨cur, hcur, -⟩ := own_blk o1
    exact own_splice o1 hcur (hB cur hcur) hfit
  · rcases List.mem_or_eq_of_mem_set hx with h | rfl
    · exact o2 x h
    · rw [splice_len _ _ _ hk, hsz]
  · simp only [List.length_set] at hp
    rw [splice_get _ _ _ hfit]
    by_cases e : i = p
    · subst e
      simp only [List.getElem_set_self] at hq ⊢
      have hq' := hq
      rw [splice_len _ _ _ hk] at hq'
      rcases splice_elem els[i] k fs hk q hq with ⟨a1, a2, a3⟩ | ⟨a1, a2, a3⟩
      · rw [a3, if_pos (by omega)]
        rw [show i * sz + q - (i * sz + k) = q - k by omega, List.getElem?_eq_getElem (by omega)]
        exact ⟨_, rfl, h1 _ (List.getElem_mem _), tr _ _ (hrep (q - k) (by omega) a1)⟩
      · rw [a3, if_neg (by omega)]
        obtain ⟨u, u1, u2, u3⟩ := o3 i q hi a1
        exact ⟨u, u1, u2, tr _ _ u3⟩
    · simp only [List.getElem_set_ne e] at hq ⊢
      have hqs := o2 _ (List.getElem_mem hp)
      rw [if_neg ?_]
      · obtain ⟨u, u1, u2, u3⟩ := o3 p q hp hq
        exact ⟨u, u1, u2, tr _ _ u3⟩
      · rintro ⟨b1, b2⟩
        rcases Nat.lt_or_gt_of_ne e with h | h
        · have : (i + 1) * sz ≤ p * sz := Nat.mul_le_mul_right _ h
          rw [Nat.add_mul, Nat.one_mul] at this
          omega
        · have : (p + 1) * sz ≤ i * sz := Nat.mul_le_mul_right _ h
          rw [Nat.add_mul, Nat.one_mul] at this
          omega
theorem upd_bx (G : Good c S look w ρ xs) {id : Nat} {nw : Bool} {t : Nat} {cells : List HV} (hr : rlk S.st id = some (.bx nw t cells)) {k : Nat} {hs : List HV} {vs : List Value} (hn : vs.length = hs.length) (hk : k + hs.length ≤ cells.length)
    (h1 : ∀ v ∈ vs, v.oneCell' = true) (hrep : ∀ j (a : j < vs.length) (b : j < hs.length), RepH w (c.A ρ S.st) c.n0 ρ vs[j] hs[j]) {g n cap : Nat} (hg : ρ id = .slice (some ⟨g, 0, none⟩) n cap) {w' : World} (hO : Only g w w')
    (hB : ∀ cur, Blk w g cur t → Blk w' g (splice cur.toList k vs).toArray t) :
    Good c ⟨S.env, sset id (.bx nw t (splice cells k hs)) S.st⟩ look w' ρ (fun j => if j = id then splice (xs id) k vs else xs j) := by
  have R := G.rows id _ hr
  have o1 := R.own
  obtain ⟨r1, r2⟩ := R.rep
  simp only [Row.ty, Row.sz, Row.len] at o1
  have hlen := o1.1
  rw [Nat.one_mul] at hlen
  obtain ⟨g', hg', hT⟩ := r1
  rw [hg] at hg'
  cases hg'
  refine G.upd id _ (.bx nw t (splice cells k hs)) _ hO.size.symm hO.os hO.tape hO.output hr rfl (only_fields hO (by rw [hg]; rfl)) _ (rlk_sset id _ _ _ hr) fun tr _ => ?_
  refine ⟨?_, ⟨⟨g, hg, hT⟩, fun q hq => ?_⟩, (G.rows id _ hr).new⟩
  · simp only [Row.ty, Row.sz, Row.len]
    rw [hg] at o1 ⊢
    rw [splice_len _ _ _ hk]
    obtain ⟨cur, hcur, -⟩ := own_blk o1
    exact own_splice o1 hcur (hB cur hcur) (by omega)
  · have hq' := hq
    rw [splice_len _ _ _ hk] at hq'
    rw [splice_get _ _ _ (by omega)]
    rcases splice_elem cells k hs hk q hq with ⟨a1, a2, a3⟩ | ⟨a1, a2, a3⟩
    · rw [a3, if_pos (by omega), List.getElem?_eq_getElem (by omega)]
      exact ⟨_, rfl, h1 _ (List.getElem_mem _), tr _ _ (hrep (q - k) (by omega) a1)⟩
    · rw [a3, if_neg (by omega)]
      obtain ⟨u, u1, u2, u3⟩ := r2 q a1
      exact ⟨u, u1, u2, tr _ _ u3⟩
theorem store_one_splice {b i ty : Nat} {v : Value} {cs : Array Value} {t : TypeId} (h : Blk w b cs t) (hk : kindT P ty = some none) (hv : v.oneCell' = true) (hi : i < cs.size) :
    ∃ w', (storeVar ty ⟨b, i, none⟩ v).run P w = .ok () w' ∧ Blk w' b (splice cs.toList i [v]).toArray t ∧ Only b w w' := by
  obtain ⟨w', h1, h2, h3⟩ := store1 (P := P) (ty := ty) (i := i) (v := v) h hk hv hi
  refine ⟨w', h1, ?_, h3⟩
  rw [← set_eq_splice _ _ _ (by simpa using hi)]
  have : (cs.toList.set i v).toArray = cs.setIfInBounds i v := by apply Array.toList_inj.1; simp
  rw [this]; exact h2
theorem blk_uniq {b : Nat} {cs cs' : Array Value} {t t' : TypeId} (h : Blk w b cs t) (h' : Blk w b cs' t') : cs = cs' ∧ t = t' := by
  have h1 : w.heap[b]? = _ := h
  have h2 : w.heap[b]? = _ := h'
  rw [h1] at h2
  simp only [Option.some.injEq, Obj.cells.injEq] at h2
  exact ⟨h2.1, h2.2.1⟩
theorem own_cur {e sz n g cap : Nat} {l : List Value} (h : Own w 0 e sz (.slice (some ⟨g, 0, none⟩) n cap) n l) : ∃ cur, Blk w g cur e ∧ l.length ≤ cur.size := by
  obtain ⟨cur, h1, h2, h3, h4, h5⟩ := own_blk h
  refine ⟨cur, h1, ?_⟩
  rw [← h5, List.length_take, Array.length_toList]; omega
theorem sound_store (G : Good c S look w ρ xs) (hl : Agr S.env look lw) {t : TypeId} {x y : Operand} {ty : TypeId} (h : hStore S (kindT P t) (hev S.env x) (hev S.env y) = .go cnd hv S') (hc : cnd) :
    vcOp P lw (.store t x y) ty w (KV c S' hv look) (KV c S' hv look) := by
  unfold vcOp
  simp only [pureOp, effOp]
  unfold hStore at h
  split at h
  · rename_i id sz i k z hx hy
    obtain ⟨v, e1, e2⟩ := G.ev hl hx
    obtain ⟨u, f1, f2⟩ := G.ev hl hy
    cases e2 with
    | ptr _ _ _ hρ =>
    rename_i g n cp
    rw [e1, f1]
    dsimp only
    unfold hStoreR at h
    split at h
    · rename_i nw ty' s els hr
      obtain ⟨o1, o2, o3⟩ := rows_sl G hr
      have hnl : n = els.length := by
        obtain ⟨a, cp', e⟩ := own_shape o1
        rw [hρ] at e; cases e; rfl
      subst hnl
      have o1' := o1
      rw [hρ] at o1'
      obtain ⟨cur, hcur, hle⟩ := own_cur o1'
      have hlen := o1.1
      unfold hStoreS at h
      split at h
      · rename_i hk
        split at h
        · rename_i f hf
          simp only [HOut.go.injEq] at h
          obtain ⟨rfl, rfl, rfl⟩ := h
          obtain ⟨rfl, hi, hkl, h1⟩ := hc
          rw [getD_lt hi] at hkl ⊢
          have hfr := f_rep f2 hf
          have hone := fone_one hfr h1
          have hsz := o2 _ (List.getElem_mem hi)
          have hpos := pos_lt (sz := sz) (k := k) hi (by omega)
          obtain ⟨w', r1, r2, r3⟩ := store_one_splice (P := P) (ty := t) (i := i * sz + k) (v := u) hcur hk hone (by omega)
          refine ⟨w', r1, ρ, (fun j => if j = id then splice (xs id) (i * sz + k) [u] else xs j), ?_, .v _⟩
          rw [set_eq_splice _ _ _ hkl]
          refine upd_sl G hr hi (vs := [u]) (fs := [f]) rfl (by simp only [List.length_singleton]; omega) (by simpa using hone) (fun j a b => ?_) hρ r3 (fun cur' hc' => ?_)
          · simp at a; subst a; exact hfr
          · rw [(blk_uniq hc' hcur).1]; exact r2
        · cases h
      · rename_i m hs hk
        split at h
        · rename_i fs hf
          simp only [HOut.go.injEq] at h
          obtain ⟨rfl, rfl, rfl⟩ := h
          obtain ⟨rfl, hi, hm, hkl⟩ := hc
          rw [getD_lt hi] at hkl ⊢
          cases f2 with
          | agg hn h1 hr' =>
          rename_i cs
          obtain ⟨fl1, fl2⟩ := fs_len hf
          have hsz := o2 _ (List.getElem_mem hi)
          have hfit : i * sz + k + cs.size ≤ cur.size := by
            have : (i + 1) * sz ≤ els.length * sz := Nat.mul_le_mul_right _ hi
            rw [Nat.add_mul, Nat.one_mul] at this
            omega
          have hall : ∀ v ∈ cs.toList, v.oneCell' = true := fun v hv => by
            obtain ⟨j, hj, rfl⟩ := List.getElem_of_mem hv
            simpa using h1 j (by simpa using hj)
          obtain ⟨w', r1, r2, r3⟩ := storeMany (P := P) (ty := t) (i := i * sz + k) (vs := cs) hcur (by rw [hk]; congr 2; omega) hall hfit
          refine ⟨w', r1, ρ, (fun j => if j = id then splice (xs id) (i * sz + k) cs.toList else xs j), ?_, .v _⟩
          refine upd_sl G hr hi (vs := cs.toList) (fs := fs) (by simp; omega) (by omega) hall (fun j a b => ?_) hρ r3 (fun cur' hc' => ?_)
          · simp at a
            simp only [Array.getElem_toList]
            exact f_rep (hr' j a (by omega)) (fl2 j (by omega) b)
          · rw [(blk_uniq hc' hcur).1]; exact r2
        · cases h
      · cases h
    · rename_i nw ty' cells hr
      have R := G.rows id _ hr
      have o1 := R.own
      obtain ⟨⟨g', hg', -⟩, r2⟩ := R.rep
      rw [hρ] at hg'
      cases hg'
      simp only [Row.ty, Row.sz, Row.len] at o1
      have o1' := o1
      rw [hρ] at o1'
      obtain ⟨cur, hcur, hle⟩ := own_cur o1'
      have hlen := o1.1
      unfold hStoreB at h
      split at h
      · rename_i hk
        simp only [HOut.go.injEq] at h
        obtain ⟨rfl, rfl, rfl⟩ := h
        obtain ⟨rfl, hkl, h1⟩ := hc
        have hone := hone_one f2 h1
        obtain ⟨w', r1, r2', r3⟩ := store_one_splice (P := P) (ty := t) (i := 0 * sz + k) (v := u) hcur hk hone (by omega)
        refine ⟨w', r1, ρ, (fun j => if j = id then splice (xs id) k [u] else xs j), ?_, .v _⟩
        rw [set_eq_splice _ _ _ hkl]
        refine upd_bx G hr (vs := [u]) rfl (by simp only [List.length_singleton]; omega) (by simpa using hone) (fun j a b => ?_) hρ r3 (fun cur' hc' => ?_)
        · simp at a; subst a; exact f2
        · rw [(blk_uniq hc' hcur).1]
          have e : 0 * sz + k = k := by omega
          rw [e] at r2'; exact r2'
      · rename_i m hs hk
        simp only [HOut.go.injEq] at h
        obtain ⟨rfl, rfl, rfl⟩ := h
        obtain ⟨rfl, hm, hkl⟩ := hc
        cases f2 with
        | agg hn h1 hr' =>
        rename_i cs
        have hall : ∀ v ∈ cs.toList, v.oneCell' = true := fun v hv => by
          obtain ⟨j, hj, rfl⟩ := List.getElem_of_mem hv
          simpa using h1 j (by simpa using hj)
        obtain ⟨w', r1, r2', r3⟩ := storeMany (P := P) (ty := t) (i := 0 * sz + k) (vs := cs) hcur (by rw [hk]; congr 2; omega) hall (by omega)
        refine ⟨w', r1, ρ, (fun j => if j = id then splice (xs id) k cs.toList else xs j), ?_, .v _⟩
        refine upd_bx G hr (vs := cs.toList) (by simp; omega) (by omega) hall (fun j a b => ?_) hρ r3 (fun cur' hc' => ?_)
        · simp at a
          simp only [Array.getElem_toList]
          exact hr' j a (by omega)
        · rw [(blk_uniq hc' hcur).1]
          have e : 0 * sz + k = k := by omega
          rw [e] at r2'; exact r2'
      · cases h
    · cases h
  · cases h
end
end Go.Eng
