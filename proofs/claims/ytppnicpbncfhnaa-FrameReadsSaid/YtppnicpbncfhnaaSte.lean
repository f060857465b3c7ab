/-
  The equations by which simp unfolds what is handed in; small rules.
-/
import Derived.Test.YtppnicpbncfhnaaSto
import Derived.Test.YtppnicpbncfhnaaEnc
set_option linter.unusedSimpArgs false
set_option linter.unusedVariables false
namespace Go.Eng
open Go Go.RowKit
theorem nthO_nil (j : Nat) : nthO [] j = none := nr rfl
theorem nthO_cons (k : Nat) (r : List Nat) (j : Nat) : nthO (k :: r) j = if j = 0 then some k else nthO r (j - 1) := by cases j <;> simp [nthO]
theorem sh2_eq (ids : List Nat) (n j : Nat) : sh2 ids n j = match nthO ids j with | some i => some i | none => bif decide (j < 8) then some (n + j) else none := by
  unfold sh2; split <;> rename_i h <;> rw [h]; congr 1; rw [Bool.eq_iff_iff]; simp [Nat.blt_eq]
theorem inL_nil (i : Nat) : inL [] i = false := nr rfl
theorem inL_cons (k : Nat) (r : List Nat) (i : Nat) : inL (k :: r) i = (k == i || inL r i) := nr rfl
theorem isSl_none : isSl none = true := nr rfl
theorem isSl_sl (nw : Bool) (t s : Nat) (xs : List (List FV)) : isSl (some (.sl nw t s xs)) = true := nr rfl
theorem isSl_bx (nw : Bool) (t : Nat) (cs : List HV) : isSl (some (.bx nw t cs)) = false := nr rfl
theorem isBx_none : isBx none = False := nr rfl
theorem isBx_sl (nw : Bool) (t s : Nat) (xs : List (List FV)) : isBx (some (.sl nw t s xs)) = False := nr rfl
theorem isBx_t (t : Nat) (cs : List HV) : isBx (some (.bx true t cs)) = False := nr rfl
theorem isBx_f (t : Nat) (cs : List HV) : isBx (some (.bx false t cs)) = True := nr rfl
theorem turned_eq (ids : List Nat) (st : Store) (n i : Nat) : turned ids st n i = (eight n i || (inL ids i && isSl (rlk st i))) := nr rfl
theorem gone_eq (ids : List Nat) (n i : Nat) : gone ids n i = (eight n i || inL ids i) := nr rfl
theorem oldRow_eq (ids : List Nat) (st : Store) (j : Nat) : oldRow ids st j = match nthO ids j with | some i => rlk st i | none => none := nr rfl
theorem dark_sl (nw : Bool) (t s : Nat) (xs : List (List FV)) : (Row.sl nw t s xs).dark = .sl nw t s xs := nr rfl
theorem dark_bx (nw : Bool) (t : Nat) (cs : List HV) : (Row.bx nw t cs).dark = .bx false t cs := nr rfl
theorem flag_none (r : Row) : r.flag none = r := nr rfl
theorem flag_sl (o : Option Row) (nw : Bool) (t s : Nat) (xs : List (List FV)) : (Row.sl nw t s xs).flag o = .sl nw t s xs := by
  cases o with
  | none => rfl
  | some o => cases o <;> rfl
theorem flag_bx (nw n2 : Bool) (t t2 : Nat) (cs c2 : List HV) : (Row.bx n2 t2 c2).flag (some (.bx nw t cs)) = .bx nw t2 c2 := nr rfl
theorem flag_osl (r : Row) (nw : Bool) (t s : Nat) (xs : List (List FV)) : r.flag (some (.sl nw t s xs)) = r := by cases r <;> rfl
theorem dpick_nil (m : Nat → Option Nat) (st : Store) (k : Nat) : dpick m st k [] = [] := nr rfl
theorem dpick_cons (m : Nat → Option Nat) (st : Store) (k id : Nat) (r : List Nat) : dpick m st k (id :: r) = match rlk st id with | some row => (k, (row.ren m).dark) :: dpick m st (k + 1) r | none => dpick m st (k + 1) r := nr rfl
theorem swp_nil (S0 : Store) (ids : List Nat) (n : Nat) (b : Store) : swp S0 ids n [] b = b := nr rfl
theorem swp_cons (S0 : Store) (ids : List Nat) (n j : Nat) (r : Row) (t b : Store) : swp S0 ids n ((j, r) :: t) b = ((sh2 ids n j).getD 0, (r.ren (sh2 ids n)).flag (oldRow ids S0 j)) :: swp S0 ids n t b := nr rfl
theorem swap_eq (e : HEnv) (s : Store) (ids : List Nat) (n : Nat) (st : Store) : HS.swap ⟨e, s⟩ ids n st = ⟨ekill (turned ids s n) e, swp s ids n st (skill (gone ids n) s)⟩ := nr rfl
theorem boxOk_nil (st : Store) (k : Nat) : boxOk st k [] = True := nr rfl
theorem boxOk_cons (st : Store) (k id : Nat) (r : List Nat) : boxOk st k (id :: r) = ((isBx (rlk st id) → k = id) ∧ boxOk st (k + 1) r) := nr rfl
theorem keepB_nil (ids : List Nat) (st : Store) : keepB ids st [] = True := nr rfl
theorem keepB_sl (ids : List Nat) (st : Store) (j : Nat) (nw : Bool) (t s : Nat) (xs : List (List FV)) (r : Store) : keepB ids st ((j, .sl nw t s xs) :: r) = keepB ids st r := nr rfl
theorem keepB_bt (ids : List Nat) (st : Store) (j : Nat) (t : Nat) (cs : List HV) (r : Store) : keepB ids st ((j, .bx true t cs) :: r) = keepB ids st r := nr rfl
theorem keepB_bf (ids : List Nat) (st : Store) (j : Nat) (t : Nat) (cs : List HV) (r : Store) : keepB ids st ((j, .bx false t cs) :: r) = ((nthO ids j = some j ∧ isBx (rlk st j)) ∧ keepB ids st r) := by
  rw [nthO_eq]; rfl
theorem hfunSQ_normal (P : Program) (rs : List ResultVar) (st0 : Store) (Q : HV → Store → Prop) (S : HS) : hfunSQ P rs st0 Q .normal S = resH P S rs fun hs => HResS st0 S (htup hs) Q := rfl
theorem hfunSQ_ret (P : Program) (rs : List ResultVar) (st0 : Store) (Q : HV → Store → Prop) (S : HS) : hfunSQ P rs st0 Q .ret S = resH P S rs fun hs => HResS st0 S (htup hs) Q := rfl
/-- what is answered: the names, in their order -/
theorem hresS (ids : List Nat) {st0 : Store} {S : HS} {h : HV} {Q : HV → Store → Prop} (h1 : ids.length ≤ 8) (h2 : dup ids = false) (h3 : boxOk S.st 0 ids) (h4 : keepB ids S.st st0) {h' : HV} {st' : Store} (h5 : h.ren (pos ids) = h') (h6 : rpick (pos ids) S.st 0 ids = st') (q : Q h' st') : HResS st0 S h Q :=
  ⟨ids, h1, h2, h3, h4, by rw [h5, h6]; exact q⟩
theorem resolve_fun {h h' : HV} {st st' : Store} (e1 : h = h') (e2 : st = st') : h = h' ∧ st = st' := ⟨e1, e2⟩
theorem htup_nil : htup [] = .tup [] := nr rfl
section
variable {P : Program} {N : Nat} {x : Code} {Q : HPost} {S S' : HS}
/-- a nil slice in a variable's cell, as a row of one's own, without elements -/
theorem HW_ownB (id k nid ty sz : Nat) {nw : Bool} {bt : Nat} {cells : List HV} (hne : id ≠ nid) (hr : rlk S.st id = some (.bx nw bt cells)) (hk : cells[k]? = some (.v (.slice none 0 0)))
    (hs : (⟨ekill (only nid) S.env, (nid, .sl true ty sz []) :: sset id (.bx nw bt ((cells.map (HV.kill (only nid))).set k (.own nid))) (skill (only nid) S.st)⟩ : HS) = S') (h : HW P N x Q S') : HW P N x Q S := fun c l w I => by
  subst hs
  refine h c l w ?_
  obtain ⟨ρ, xs, G⟩ := I
  have G2 := G.new nid (.sl true ty sz []) [] (.slice none 0 0) (w' := w) (Below.refl _ _) (fun b hb => by cases hb) (fun _ _ =>
    ⟨by rw [setR_self]; exact World.ownsRow_nil w 0 ty sz, ⟨by simp, fun i k hi => absurd hi (by simp)⟩, fun b hb => by rw [setR_self] at hb; cases hb⟩)
  have hr2 : rlk (skill (only nid) S.st) id = some (.bx nw bt (cells.map (HV.kill (only nid)))) := by rw [rlk_skill, only_ne hne, cond_false, hr]; rfl
  have hl : ∀ i, rlk ((nid, Row.sl true ty sz []) :: sset id (.bx nw bt ((cells.map (HV.kill (only nid))).set k (.own nid))) (skill (only nid) S.st)) i =
      if i = id then some (.bx nw bt ((cells.map (HV.kill (only nid))).set k (.own nid))) else rlk ((nid, Row.sl true ty sz []) :: skill (only nid) S.st) i := fun i => by
    simp only [rlk]
    by_cases e : nid = i
    · rw [if_pos e, if_neg (by omega), if_pos e]
    · rw [if_neg e, rlk_sset id _ _ _ hr2]
      by_cases e2 : i = id
      · rw [if_pos e2, if_pos e2]
      · rw [if_neg e2, if_neg e2, if_neg e]
  have hid : rlk ((nid, Row.sl true ty sz []) :: skill (only nid) S.st) id = some (.bx nw bt (cells.map (HV.kill (only nid)))) := by simp only [rlk]; rw [if_neg (by omega)]; exact hr2
  have hA : ∀ b, c.A (setR ρ nid (.slice none 0 0)) ((nid, Row.sl true ty sz []) :: sset id (.bx nw bt ((cells.map (HV.kill (only nid))).set k (.own nid))) (skill (only nid) S.st)) b → c.A (setR ρ nid (.slice none 0 0)) ((nid, Row.sl true ty sz []) :: skill (only nid) S.st) b := by
    rintro b (h0 | ⟨i, s, hi, hb⟩)
    · exact .inl h0
    · right
      rw [hl] at hi
      by_cases e : i = id
      · subst e; exact ⟨_, _, hid, hb⟩
      · rw [if_neg e] at hi; exact ⟨i, s, hi, hb⟩
  refine ⟨setR ρ nid (.slice none 0 0), fun i => if i = nid then [] else xs i, ⟨fun i r hi => ?_, fun i j r s b hne hi hj hbi hbj => ?_, fun j y hj => ?_, G2.kept, G2.a0⟩⟩
  · rw [hl] at hi
    by_cases e : i = id
    · subst e
      rw [if_pos rfl] at hi
      simp only [Option.some.injEq] at hi
      subst hi
      have R := G2.rows i _ hid
      refine ⟨by simpa [Row.ty, Row.sz, Row.len] using R.own, ⟨R.rep.1, fun q hq => ?_⟩, R.new⟩
      have hq' : q < (cells.map (HV.kill (only nid))).length := by simpa using hq
      obtain ⟨u, u1, u2, u3⟩ := R.rep.2 q hq'
      by_cases eq : k = q
      · subst eq
        refine ⟨u, u1, u2, ?_⟩
        rw [List.getElem_set_self]
        have hc : cells[k]'(by simpa using hq') = .v (.slice none 0 0) := by
          have := List.getElem?_eq_some_iff.1 hk
          exact this.2
        rw [List.getElem_map, hc, HV.kill] at u3
        have := repH_v u3
        subst this
        have := RepH.own (w := w) (A := c.A (setR ρ nid (.slice none 0 0)) ((nid, Row.sl true ty sz []) :: sset i (.bx nw bt ((cells.map (HV.kill (only nid))).set k (.own nid))) (skill (only nid) S.st))) (n0 := c.n0) (ρ := setR ρ nid (.slice none 0 0)) nid (by rw [setR_self]; rfl)
        rw [setR_self] at this
        exact this
      · refine ⟨u, u1, u2, ?_⟩
        rw [List.getElem_set_ne eq]
        exact u3.up (Nat.le_refl _) (fun _ _ _ => rfl) (fun b _ => hA b) (Nat.le_refl _)
    · rw [if_neg e] at hi
      exact (G2.rows i r hi).up (Nat.le_refl _) (fun _ _ _ => rfl) (fun b _ => hA b) (fun _ _ => rfl)
  · have back : ∀ i s, rlk ((nid, Row.sl true ty sz []) :: sset id (.bx nw bt ((cells.map (HV.kill (only nid))).set k (.own nid))) (skill (only nid) S.st)) i = some s → ∃ s0, rlk ((nid, Row.sl true ty sz []) :: skill (only nid) S.st) i = some s0 := by
      intro i s hi
      rw [hl] at hi
      by_cases e : i = id
      · subst e; exact ⟨_, hid⟩
      · rw [if_neg e] at hi; exact ⟨s, hi⟩
    obtain ⟨r0, h1⟩ := back i r hi
    obtain ⟨s0, h2⟩ := back j s hj
    exact G2.apart i j r0 s0 b hne h1 h2 hbi hbj
  · obtain ⟨v, h1, h2⟩ := G2.env j y hj
    exact ⟨v, h1, h2.up (Nat.le_refl _) (fun _ _ _ => rfl) (fun b _ => hA b) (Nat.le_refl _)⟩
end
/-! ### ways that leave a block, joined -/
def hcutQ (id : Nat) (R : HS → Prop) (Q : HPost) : HPost
  | .exit i, S => if i = id then R S else Q (.exit i) S
  | e, S => Q e S
section
variable {P : Program} {N : Nat} {x : Code} {Q : HPost} {S : HS} {id : Nat} {R : HS → Prop}
theorem hcutQ_exit (h : R S) : hcutQ id R Q (.exit id) S := by simp only [hcutQ, if_true]; exact h
theorem hcutQ_normal (h : Q .normal S) : hcutQ id R Q .normal S := h
theorem hcutQ_ret (h : Q .ret S) : hcutQ id R Q .ret S := h
theorem hcutQ_other {i : Nat} (hne : (i == id) = false) (h : Q (.exit i) S) : hcutQ id R Q (.exit i) S := by simp only [hcutQ]; rw [if_neg (by simpa using hne)]; exact h
/-- all ways that leave by this door bring what I says -/
theorem HW_door {ι : Type} (id : Nat) (E : ι → HS) (I : ι → Prop) (ks ids : List Nat) (hx : HW P N x (hcutQ id (fun S' => ∃ j, S'.keep ks ids = E j ∧ I j) Q) S) (hy : ∀ S' j, S'.keep ks ids = E j → I j → Q (.exit id) S') : HW P N x Q S :=
  hx.mono fun e S' h => by
    cases e with
    | exit i =>
      simp only [hcutQ] at h
      split at h
      · rename_i e; subst e; obtain ⟨j, hE, hI⟩ := h; exact hy S' j hE hI
      · exact h
    | _ => exact h
end
end Go.Eng
