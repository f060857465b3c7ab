/-
  What the functions of operations say holds in memory: new rows, appends, structs.
-/
import Derived.Test.YtlfenddhppoflaaHu
set_option linter.unusedSimpArgs false
set_option linter.unusedVariables false
namespace Go.Eng
open Go Go.RowKit
section
variable {lw : Env} {P : Program} {c : Ctx} {S S' : HS} {look : Nat → Option Value} {w : World} {ρ : Nat → Value} {xs : Nat → List Value} {hv : HV} {cnd : Prop}
def setR (ρ : Nat → Value) (id : Nat) (v : Value) : Nat → Value := fun i => if i = id then v else ρ i
theorem setR_self (ρ : Nat → Value) (id : Nat) (v : Value) : setR ρ id v id = v := by simp [setR]
theorem setR_ne (ρ : Nat → Value) (id : Nat) (v : Value) (i : Nat) (h : i ≠ id) : setR ρ id v i = ρ i := by simp [setR, h]
/-- a new row -/
theorem Good.new (G : Good c S look w ρ xs) (id : Nat) (r : Row) (ys : List Value) (v' : Value) {w' : World} (hb : Below w.heap.size w w') (hblk : ∀ b, v'.ownBlock = some b → w.heap.size ≤ b)
    (hrow : (∀ v x, RepH w (c.A ρ S.st) c.w0.heap.size ρ v x → RepH w' (c.A (setR ρ id v') ((id, r) :: skill (only id) S.st)) c.w0.heap.size (setR ρ id v') v (x.kill (only id))) →
      (∀ v x, RepF w (c.A ρ S.st) c.w0.heap.size v x → RepF w' (c.A (setR ρ id v') ((id, r) :: skill (only id) S.st)) c.w0.heap.size v x) → RowOk w' (c.A (setR ρ id v') ((id, r) :: skill (only id) S.st)) c.T c.w0.heap.size (setR ρ id v') id r ys) :
    Good c ((S.kill (only id)).row id r) look w' (setR ρ id v') (fun i => if i = id then ys else xs i) :=
  G.put id r ys hb.size hb.os hb.tape hb.output none (fun b hb => by cases hb) (fun b hlt _ => hb.block b hlt) (fun i hi => setR_ne ρ id v' i hi) (fun b hb => .inl (hblk b (by rw [setR_self] at hb; exact hb))) hrow
theorem cells_rep {A : Nat → Prop} {n0 : Nat} {v : Value} {h : HV} {cs : List HV} (hr : RepH w A n0 ρ v h) (hc : hcells h = some cs) :
    v.cells.size = cs.length ∧ (∀ u ∈ v.cells.toList, u.oneCell' = true) ∧ ∀ k (a : k < v.cells.toList.length) (b : k < cs.length), RepH w A n0 ρ v.cells.toList[k] cs[k] := by
  have one : ∀ {u : Value} {x : HV}, RepH w A n0 ρ u x → u.oneCell' = true → u.cells.size = [x].length ∧ (∀ y ∈ u.cells.toList, y.oneCell' = true) ∧ ∀ k (a : k < u.cells.toList.length) (b : k < [x].length), RepH w A n0 ρ u.cells.toList[k] [x][k] := by
    intro u x hx h1
    have e := cells_one h1
    refine ⟨by rw [e]; rfl, fun y hy => by rw [e] at hy; simp at hy; subst hy; exact h1, fun k a b => ?_⟩
    have hk : k = 0 := by simpa using b
    subst hk
    simp only [e, List.getElem_cons_zero]
    exact hx
  cases hr with
  | v =>
    cases v <;> simp only [hcells, Option.some.injEq, reduceCtorEq] at hc <;> (subst hc; exact one (.v _) rfl)
  | lst hF => simp only [hcells, Option.some.injEq] at hc; subst hc; exact one (.lst hF) (by cases hF; rfl)
  | own id h1 => simp only [hcells, Option.some.injEq] at hc; subst hc; exact one (.own id h1) h1
  | vw a b d h1 h2 h3 h4 h5 h6 => simp only [hcells, Option.some.injEq] at hc; subst hc; exact one (.vw a b d h1 h2 h3 h4 h5 h6) rfl
  | ptr a b d h => simp only [hcells, Option.some.injEq] at hc; subst hc; exact one (.ptr a b d h) rfl
  | elt a b d => simp only [hcells, Option.some.injEq] at hc; subst hc; exact one (.elt a b d) rfl
  | agg hn h1 h =>
    simp only [hcells, Option.some.injEq] at hc
    subst hc
    rename_i cs0 hs0
    show cs0.size = hs0.length ∧ (∀ u ∈ cs0.toList, u.oneCell' = true) ∧ ∀ k (a : k < cs0.toList.length) (b : k < hs0.length), RepH w A n0 ρ cs0.toList[k] hs0[k]
    refine ⟨hn, fun u hu => ?_, fun k a b => ?_⟩
    · obtain ⟨j, hj, rfl⟩ := List.getElem_of_mem hu
      rw [Array.getElem_toList]
      exact h1 j (by simpa using hj)
    · rw [Array.getElem_toList]
      exact h k (by simpa using a) b
  | tup => cases hc
  | junk => cases hc
theorem oneS (a : Option Addr) (n m : Nat) : (Value.slice a n m).oneCell' = true := rfl
theorem bx_row (G : Good c S look w ρ xs) {id t : Nat} {cs : List HV} {vs : Array Value} (hn : vs.size = cs.length) (h1 : ∀ u ∈ vs.toList, u.oneCell' = true)
    (hr : ∀ k (a : k < vs.toList.length) (b : k < cs.length), RepH w (c.A ρ S.st) c.w0.heap.size ρ vs.toList[k] cs[k]) :
    InvV c ((S.kill (only id)).row id (.bx true t (cs.map (HV.kill (only id))))) (.ptr id cs.length 0 0) (.pointer (some ⟨w.heap.size, 0, none⟩)) look (w.alloc (.cells vs t)) := by
  have hb : Below w.heap.size w (w.alloc (.cells vs t)) := (Below.refl _ _).alloc (Nat.le_refl _) _
  refine ⟨_, _, G.new id (.bx true t (cs.map (HV.kill (only id)))) vs.toList (.slice (some ⟨w.heap.size, 0, none⟩) 1 1) hb (fun b hb' => by simp only [Value.ownBlock, Option.some.injEq] at hb'; omega) (fun tr _ => ?_), ?_⟩
  · refine ⟨?_, ⟨⟨w.heap.size, setR_self _ _ _⟩, fun k hk => ?_⟩, fun b hb' => .inl ?_⟩
    · rw [setR_self]
      simp only [Row.ty, Row.sz, Row.len, List.length_map]
      exact own_new w vs t cs.length 1 0 (by omega) (by simp [maxLen]) (Nat.zero_le _)
    · have hk' : k < cs.length := by simpa using hk
      have ha : k < vs.toList.length := by rw [Array.length_toList]; omega
      refine ⟨vs.toList[k], List.getElem?_eq_getElem ha, h1 _ (List.getElem_mem ha), ?_⟩
      rw [List.getElem_map]
      exact tr _ _ (hr k ha hk')
    · rw [setR_self] at hb'
      simp only [Value.ownBlock, Option.some.injEq] at hb'
      have := G.kept.size
      omega
  · have := RepH.ptr (w := w.alloc (.cells vs t)) (A := c.A (setR ρ id (.slice (some ⟨w.heap.size, 0, none⟩) 1 1)) ((S.kill (only id)).row id (.bx true t (cs.map (HV.kill (only id))))).st) (n0 := c.w0.heap.size) (ρ := setR ρ id (.slice (some ⟨w.heap.size, 0, none⟩) 1 1)) cs.length 0 0 (setR_self ρ id _)
    simpa using this
theorem sound_alloc (G : Good c S look w ρ xs) (hl : Agr S.env look lw) {id : Nat} {t ty : TypeId} (h : hAlloc S id t (zeroT P t) = .go cnd hv S') (hc : cnd) :
    vcOp P lw (.alloc t) ty w (KV c S' hv look) (KV c S' hv look) := by
  unfold hAlloc at h
  split at h
  · rename_i z hz
    simp only [HOut.go.injEq] at h
    obtain ⟨rfl, rfl, rfl⟩ := h
    have hc' : z.all (·.oneCell') = true := by rw [← oneAll_all]; exact hc
    unfold vcOp
    simp only [pureOp, effOp, hz]
    have := bx_row G (id := id) (t := t) (vs := z) (cs := z.toList.map HV.v) (by simp) (fun u hu => by
      rw [← Array.all_toList] at hc'
      exact List.all_eq_true.1 hc' u hu) (fun k a b => by rw [List.getElem_map]; exact .v _)
    have e : (z.toList.map HV.v).map (HV.kill (only id)) = z.toList.map HV.v := by
      rw [List.map_map]; apply List.map_congr_left; intro a _; simp [HV.kill]
    rw [e] at this
    simpa using this
  · cases h
theorem sound_box (G : Good c S look w ρ xs) (hl : Agr S.env look lw) {id : Nat} {t ty : TypeId} {x : Operand} (h : hBox S id t (hev S.env x) = .go cnd hv S') (hc : cnd) :
    vcOp P lw (.box t x) ty w (KV c S' hv look) (KV c S' hv look) := by
  unfold hBox at h
  split at h
  · rename_i y hx
    obtain ⟨v, e1, e2⟩ := G.ev hl hx
    unfold hBoxC at h
    split at h
    · rename_i cs hcs
      simp only [HOut.go.injEq] at h
      obtain ⟨rfl, rfl, rfl⟩ := h
      obtain ⟨r1, r2, r3⟩ := cells_rep e2 hcs
      unfold vcOp
      simp only [pureOp, effOp, e1]
      exact bx_row G r1 r2 r3
    · cases h
  · cases h
theorem Good.parts (G : Good c S look w ρ xs) (hl : Agr S.env look lw) : ∀ {l : List (Nat × Operand)} {hs : List (Nat × HV)}, partsH S.env l = some hs → ∃ vs, partsE lw l = some vs ∧ vs.length = hs.length ∧ ∀ i (h1 : i < vs.length) (h2 : i < hs.length), vs[i].1 = hs[i].1 ∧ RepH w (c.A ρ S.st) c.w0.heap.size ρ vs[i].2 hs[i].2
  | [], hs, h => by simp only [partsH, Option.some.injEq] at h; subst h; exact ⟨[], rfl, rfl, fun i h1 => absurd h1 (by simp)⟩
  | (k, x) :: r, hs, h => by
    simp only [partsH] at h
    split at h
    · rename_i v hv
      split at h
      · rename_i us hus
        simp only [Option.some.injEq] at h; subst h
        obtain ⟨u, h1, h2⟩ := G.ev hl hv
        obtain ⟨vs, h3, h4, h5⟩ := G.parts hl hus
        refine ⟨(k, u) :: vs, by simp only [partsE, h1, h3], by simp [h4], fun i a b => ?_⟩
        cases i with
        | zero => exact ⟨rfl, h2⟩
        | succ i => exact h5 i (by simpa using a) (by simpa using b)
      · cases h
    · cases h
theorem foldl_splice (off : Nat) : ∀ (L : List Value) (s : Nat) (arr : Array Value), off + s + L.length ≤ arr.size → ((L.zipIdx s).foldl (fun cs (x : Value × Nat) => cs.setIfInBounds (off + x.2) x.1) arr).toList = splice arr.toList (off + s) L
  | [], s, arr, h => by simp [splice]
  | x :: r, s, arr, h => by
    simp only [List.length_cons] at h
    rw [List.zipIdx_cons, List.foldl_cons, foldl_splice off r (s + 1) _ (by simp; omega)]
    apply List.ext_getElem?
    intro j
    rw [splice_get _ _ _ (by simp; omega), splice_get _ _ _ (by simp; omega)]
    simp only [Array.toList_setIfInBounds, List.getElem?_set, Array.length_toList, List.length_cons]
    by_cases e : j = off + s
    · subst e
      rw [if_neg (by omega), if_pos rfl, if_pos (by omega), if_pos (by omega)]
      simp
    · by_cases e2 : off + (s + 1) ≤ j ∧ j < off + (s + 1) + r.length
      · rw [if_pos e2, if_pos (by omega), show j - (off + s) = (j - (off + (s + 1))) + 1 by omega, List.getElem?_cons_succ]
      · rw [if_neg e2, if_neg (by omega), if_neg (by omega)]
theorem fill_one (arr : Array Value) (off : Nat) (v : Value) (h : off + v.cells.size ≤ arr.size) : (v.cells.zipIdx.foldl (fun cs (x : Value × Nat) => cs.setIfInBounds (off + x.2) x.1) arr) = (splice arr.toList off v.cells.toList).toArray := by
  apply Array.toList_inj.1
  have := foldl_splice off v.cells.toList 0 arr (by simpa using h)
  rw [← Array.foldl_toList, Array.toList_zipIdx]
  simpa using this
/-- cells, one by one -/
def Pair (R : Value → HV → Prop) (arr : List Value) (hs : List HV) : Prop := arr.length = hs.length ∧ (∀ u ∈ arr, u.oneCell' = true) ∧ ∀ k (a : k < arr.length) (b : k < hs.length), R arr[k] hs[k]
theorem Pair.splice {R : Value → HV → Prop} {arr vs : List Value} {hs cs : List HV} {k : Nat} (h : Pair R arr hs) (h' : Pair R vs cs) (hk : k + cs.length ≤ hs.length) : Pair R (Eng.splice arr k vs) (Eng.splice hs k cs) := by
  obtain ⟨a1, a2, a3⟩ := h
  obtain ⟨b1, b2, b3⟩ := h'
  have e1 := splice_len arr k vs (by omega)
  have e2 := splice_len hs k cs hk
  refine ⟨by omega, fun u hu => ?_, fun j p q => ?_⟩
  · simp only [Eng.splice, List.mem_append] at hu
    rcases hu with (hu | hu) | hu
    · exact a2 u (List.mem_of_mem_take hu)
    · exact b2 u hu
    · exact a2 u (List.mem_of_mem_drop hu)
  · rcases splice_elem arr k vs (by omega) j p with ⟨x1, x2, x3⟩ | ⟨x1, x2, x3⟩
    · rcases splice_elem hs k cs hk j q with ⟨y1, y2, y3⟩ | ⟨y1, y2, y3⟩
      · rw [x3, y3]; exact b3 _ _ _
      · omega
    · rcases splice_elem hs k cs hk j q with ⟨y1, y2, y3⟩ | ⟨y1, y2, y3⟩
      · omega
      · rw [x3, y3]; exact a3 _ _ _
theorem fill_rep {R : Value → HV → Prop} {place : Nat → Option (Nat × Nat)} (hR : ∀ v h cs, R v h → hcells h = some cs → Pair R v.cells.toList cs) : ∀ (ps : List (Nat × Value)) (hs : List (Nat × HV)) (arr : Array Value) (cells out : List HV) (cnd : Prop), ps.length = hs.length →
    (∀ i (h1 : i < ps.length) (h2 : i < hs.length), ps[i].1 = hs[i].1 ∧ R ps[i].2 hs[i].2) → Pair R arr.toList cells → hfill place cells hs = some (cnd, out) → cnd → ∃ arr', Instr.fill place arr ps = some arr' ∧ Pair R arr'.toList out
  | [], [], arr, cells, out, cnd, _, _, hp, h, hc => by
    simp only [hfill, Option.some.injEq, Prod.mk.injEq] at h
    obtain ⟨-, rfl⟩ := h
    exact ⟨arr, rfl, hp⟩
  | (i, v) :: ps, (j, y) :: hs, arr, cells, out, cnd, hl, he, hp, h, hc => by
    have e0 := he 0 (by simp) (by simp)
    simp only [List.getElem_cons_zero] at e0
    obtain ⟨rfl, hr⟩ := e0
    simp only [hfill] at h
    split at h
    · rename_i off n hpl
      split at h
      · rename_i cs hcs
        split at h
        · rename_i c' out' hf
          simp only [Option.some.injEq, Prod.mk.injEq] at h
          obtain ⟨rfl, rfl⟩ := h
          obtain ⟨⟨hn, hfit⟩, hc2⟩ := hc
          subst hn
          have hP := hR v y cs hr hcs
          have h1 := hP.1
          have h2 := hp.1
          simp only [Array.length_toList] at h1 h2
          have hfo := fill_one arr off v (by omega)
          obtain ⟨arr', r1, r2⟩ := fill_rep hR ps hs (Eng.splice arr.toList off v.cells.toList).toArray (Eng.splice cells off cs) out' c' (by simpa using hl) (fun i a b => by
            have := he (i + 1) (by simpa using a) (by simpa using b)
            simpa using this) (by simpa using hp.splice hP hfit) hf hc2
          refine ⟨arr', ?_, r2⟩
          simp only [Instr.fill, hpl]
          rw [if_neg (by simp; omega)]
          rw [← r1, ← hfo]
        · cases h
      · cases h
    · cases h
theorem mapM_ok {α β : Type} (f : α → Sem β) (g : α → β) (w : World) : ∀ (l : List α), (∀ x ∈ l, (f x).run P w = .ok (g x) w) → (l.mapM f).run P w = .ok (l.map g) w
  | [], _ => by simp
  | x :: r, h => by
    rw [List.mapM_cons, Sem.run_bind, h x (by simp)]
    simp only [Result.andThen_ok]
    rw [Sem.run_bind, mapM_ok f g w r (fun y hy => h y (by simp [hy]))]
    rfl
theorem run_build {t : TypeId} {z arr : Array Value} {ps : Array (Nat × Value)} (hb : buildable P t = true) (hz : zeroT P t = some z) (hf : Instr.fill (partT P t) z ps.toList = some arr) (w : World) :
    (Instr.build t ps).run P w = .ok (.agg arr) w := by
  unfold zeroT at hz
  split at hz
  · rename_i i hi
    cases hzz : i.zero with
    | none => simp [hzz] at hz
    | some u =>
      simp only [hzz, Option.map_some, Option.some.injEq] at hz
      subst hz
      unfold buildable at hb
      split at hb
      · rename_i fs hu
        have hm : (fs.mapM fun (f : Field) => do pure (f.offset, ← sizeOf f.type)).run P w = .ok (fs.map fun (f : Field) => (f.offset, ((P.info? f.type).map (·.size)).getD 0)) w := by
          rw [Array.mapM_eq_mapM_toList]
          have := mapM_ok (P := P) (fun f : Field => do pure (f.offset, ← sizeOf f.type)) (fun f : Field => (f.offset, ((P.info? f.type).map (·.size)).getD 0)) w fs.toList (fun f hf' => by
            rw [← Array.all_toList] at hb
            have := List.all_eq_true.1 hb f hf'
            obtain ⟨x, hx⟩ := Option.isSome_iff_exists.1 this
            simp [sizeOf, typeInfo, hx])
          simp only [Sem.run_map, this]
          simp only [Result.andThen]
          congr 1
          apply Array.toList_inj.1
          simp
        have hm' : (fs.mapM fun (f : Field) => Functor.map (Prod.mk f.offset) (sizeOf f.type)).run P w = .ok (fs.map fun (f : Field) => (f.offset, ((P.info? f.type).map (·.size)).getD 0)) w := by
          rw [← hm]
          congr 1
        have hp : (fun x => Option.map (fun (f : Field) => (f.offset, ((P.info? f.type).map (·.size)).getD 0)) fs[x]?) = partT P t := by
          funext x
          simp only [partT, hu]
          cases hx : fs[x]? with
          | none => rfl
          | some f =>
            have hmem : f ∈ fs.toList := by
              obtain ⟨h1, rfl⟩ := Array.getElem?_eq_some_iff.1 hx
              simp
            rw [← Array.all_toList] at hb
            have := List.all_eq_true.1 hb f hmem
            obtain ⟨y, hy⟩ := Option.isSome_iff_exists.1 this
            simp [hy]
        unfold Instr.build
        simp only [Sem.run_bind, zeroValue, typeInfo, hi, hzz, run_underlying hu, Sem.run_pure, Result.andThen_ok, hm]
        simp [hi, hzz, Sem.run_bind, hm, hm', hp, hf]
      · rename_i n e hu
        obtain ⟨x, hx⟩ := Option.isSome_iff_exists.1 hb
        have hp : (fun i => some (i * x.size, x.size)) = partT P t := by
          funext i
          simp [partT, hu, hx]
        unfold Instr.build
        simp [zeroValue, typeInfo, hi, hzz, run_underlying hu, sizeOf, hx, Sem.run_bind, hp, hf]
      · cases hb
  · cases hz
theorem sound_build (G : Good c S look w ρ xs) (hl : Agr S.env look lw) {t ty : TypeId} {ps : Array (Nat × Operand)} (h : hBuild S (buildable P t) (partT P t) (zeroT P t) (partsH S.env ps.toList) = .go cnd hv S') (hc : cnd) :
    vcOp P lw (.build t ps) ty w (KV c S' hv look) (KV c S' hv look) := by
  unfold hBuild at h
  split at h
  · rename_i z qs hz hq
    unfold hBuildF at h
    split at h
    · rename_i c' cs hf
      simp only [HOut.go.injEq] at h
      obtain ⟨rfl, rfl, rfl⟩ := h
      obtain ⟨hok, hc'⟩ := hc
      have hok' : (buildable P t && z.all (·.oneCell')) = true := by rw [← oneAll_all]; exact hok
      simp only [Bool.and_eq_true] at hok'
      obtain ⟨vs, p1, p2, p3⟩ := G.parts hl hq
      obtain ⟨arr, f1, f2, f3, f4⟩ := fill_rep (R := RepH w (c.A ρ S.st) c.w0.heap.size ρ) (fun v h cs hr hcs => by
        obtain ⟨a1, a2, a3⟩ := cells_rep hr hcs
        exact ⟨by simpa using a1, a2, a3⟩) vs qs z _ cs c' p2 p3 ⟨by simp, fun u hu => by
          have := hok'.2
          rw [← Array.all_toList] at this
          exact List.all_eq_true.1 this u hu, fun k a b => by rw [List.getElem_map]; exact .v _⟩ hf hc'
      unfold vcOp
      simp only [pureOp, effOp, p1]
      refine ⟨.agg arr, fun w => run_build hok'.1 hz (by simpa using f1) w, ρ, xs, G, .agg (by simpa using f2) (fun j hj => f3 _ (by simp)) (fun j a b => ?_)⟩
      have := f4 j (by simpa using a) b
      simpa using this
    · cases h
  · cases h
end
end Go.Eng
