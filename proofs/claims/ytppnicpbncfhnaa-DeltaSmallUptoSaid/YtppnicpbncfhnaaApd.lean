/-
  Regions that draw their order, appends to rows of one's own among their heads.
-/
import Derived.Test.YtppnicpbncfhnaaDrj
set_option linter.unusedSimpArgs false
set_option linter.unusedVariables false
namespace Go.Eng
open Go Go.RowKit
def inl (ids : List Nat) (i : Nat) : Bool := match ids with
  | [] => false
  | k :: r => k == i || inl r i
theorem inl_mem {ids : List Nat} {i : Nat} : inl ids i = true ↔ i ∈ ids := by
  induction ids with
  | nil => simp [inl]
  | cons k r ih => simp only [inl, Bool.or_eq_true, beq_iff_eq, List.mem_cons, ih]; constructor <;> rintro (h | h) <;> first | exact .inl h.symm | exact .inr h
/-- the appends: which head, which row, what is ahead of it -/
abbrev Aps := List (Nat × Nat × List Nat)
def wids (W : Aps) : List Nat := match W with
  | [] => []
  | (_, id, _) :: r => id :: wids r
/-- the rows that may have been appended to when head i runs -/
def bad (W : Aps) (i : Nat) : List Nat := match W with
  | [] => []
  | (a, id, D) :: r => bif a == i || inl D i then bad r i else id :: bad r i
def wat (W : Aps) (i : Nat) : Option Nat := match W with
  | [] => none
  | (a, id, _) :: r => bif a == i then some id else wat r i
def wok (ops : List Oper) (n : Nat) : Aps → Bool
  | [] => true
  | (a, id, D) :: r => Nat.blt a n && (D.all fun i => edgeB ops a i) && !inl (wids r) id && (wat r a == none) && wok ops n r
def pL (W : Aps) (L : Nat → Bool) (id : Nat) : Bool := match W with
  | [] => false
  | (a, i, _) :: r => (L a && i == id) || pL r L id
theorem pL_wids {W : Aps} {L : Nat → Bool} {id : Nat} (h : pL W L id = true) : inl (wids W) id = true := by
  induction W with
  | nil => simp [pL] at h
  | cons x r ih =>
    obtain ⟨a, i, D⟩ := x
    simp only [pL, Bool.or_eq_true, Bool.and_eq_true] at h
    simp only [wids, inl, Bool.or_eq_true]
    rcases h with ⟨_, h⟩ | h
    · exact .inl h
    · exact .inr (ih h)
theorem pL_bad {ops : List Oper} {n : Nat} {W : Aps} {L : Nat → Bool} {id i : Nat} (hw : wok ops n W = true) (hL : L i = false) (hc : ∀ k j, L k = true → edgeB ops k j = true → L j = true) (h : pL W L id = true) : inl (bad W i) id = true := by
  induction W with
  | nil => simp [pL] at h
  | cons x r ih =>
    obtain ⟨a, k, D⟩ := x
    simp only [wok, Bool.and_eq_true] at hw
    obtain ⟨⟨⟨⟨_, hD⟩, _⟩, _⟩, hr⟩ := hw
    simp only [pL, Bool.or_eq_true, Bool.and_eq_true] at h
    simp only [bad]
    rcases h with ⟨hLa, hk⟩ | h
    · have e1 : (a == i) = false := by
        rw [beq_eq_false_iff_ne]; intro e; subst e; rw [hL] at hLa; cases hLa
      have e2 : inl D i = false := by
        cases e : inl D i with
        | false => rfl
        | true =>
          have := (List.all_eq_true.1 hD) i (inl_mem.1 e)
          have := hc a i hLa this
          rw [hL] at this; cases this
      rw [e1, e2]
      simp only [Bool.or_self, cond_false, inl, Bool.or_eq_true]
      exact .inl hk
    · have := ih hr h
      cases (a == i || inl D i) with
      | true => exact this
      | false => simp only [cond_false, inl, Bool.or_eq_true]; exact .inr this
theorem pL_all {ops : List Oper} {n : Nat} {W : Aps} {L : Nat → Bool} (hw : wok ops n W = true) (hL : ∀ j, j < n → L j = true) : pL W L = inl (wids W) := by
  induction W with
  | nil => rfl
  | cons x r ih =>
    obtain ⟨a, k, D⟩ := x
    simp only [wok, Bool.and_eq_true] at hw
    obtain ⟨⟨⟨⟨ha, _⟩, _⟩, _⟩, hr⟩ := hw
    funext id
    simp only [pL, wids, inl, hL a (by simpa [Nat.blt_eq] using ha), Bool.true_and, ih hr]
theorem pL_none {W : Aps} {id : Nat} : pL W (fun _ => false) id = false := by
  induction W with
  | nil => rfl
  | cons x r ih => obtain ⟨a, k, D⟩ := x; simp only [pL, Bool.false_and, Bool.false_or, ih]
/-- one more head that is no append -/
theorem pL_same {W : Aps} {L : Nat → Bool} {i : Nat} (h : wat W i = none) : pL W (fun j => if j = i then true else L j) = pL W L := by
  induction W with
  | nil => rfl
  | cons x r ih =>
    obtain ⟨a, k, D⟩ := x
    simp only [wat] at h
    cases e : (a == i) with
    | true => rw [e] at h; cases h
    | false =>
      rw [e] at h
      funext id
      simp only [pL, if_neg (beq_eq_false_iff_ne.1 e), ih h]
/-- one more append -/
theorem pL_more {ops : List Oper} {n : Nat} {W : Aps} {L : Nat → Bool} {i id : Nat} (hw : wok ops n W = true) (h : wat W i = some id) : (∀ k, pL W (fun j => if j = i then true else L j) k = (pL W L k || only id k)) ∧ (L i = false → pL W L id = false) := by
  induction W with
  | nil => simp [wat] at h
  | cons x r ih =>
    obtain ⟨a, k, D⟩ := x
    simp only [wok, Bool.and_eq_true] at hw
    obtain ⟨⟨⟨⟨_, _⟩, hk⟩, ha⟩, hr⟩ := hw
    simp only [wat] at h
    cases e : (a == i) with
    | true =>
      rw [e] at h
      simp only [cond_true, Option.some.injEq] at h
      subst h
      have e' := eq_of_beq e
      subst e'
      have hna : wat r a = none := by simpa using ha
      refine ⟨fun j => ?_, fun hL => ?_⟩
      · simp only [pL, if_true, Bool.true_and, pL_same hna, only]
        cases e1 : (k == j) with
        | true => have := eq_of_beq e1; subst this; simp
        | false =>
          have : (j == k) = false := by rw [beq_eq_false_iff_ne] at e1 ⊢; exact Ne.symm e1
          rw [this]; simp
      · simp only [pL, hL, Bool.false_and, Bool.false_or]
        cases e1 : pL r L k with
        | false => rfl
        | true => have := pL_wids e1; rw [this] at hk; cases hk
    | false =>
      rw [e] at h
      simp only [cond_false] at h
      obtain ⟨i1, i2⟩ := ih hr h
      have hin : inl (wids r) id = true := by
        have : ∀ (r : Aps), wat r i = some id → inl (wids r) id = true := by
          intro r
          induction r with
          | nil => intro h; simp [wat] at h
          | cons y s ihs =>
            obtain ⟨b, m, D'⟩ := y
            intro h
            simp only [wat] at h
            simp only [wids, inl, Bool.or_eq_true]
            cases eb : (b == i) with
            | true => rw [eb] at h; simp only [cond_true, Option.some.injEq] at h; left; simp [h]
            | false => rw [eb] at h; exact .inr (ihs h)
        exact this r h
      have hne : (k == id) = false := by
        cases e1 : (k == id) with
        | false => rfl
        | true => have := eq_of_beq e1; subst this; rw [hin] at hk; cases hk
      refine ⟨fun j => ?_, fun hL => ?_⟩
      · simp only [pL, if_neg (beq_eq_false_iff_ne.1 e), i1 j, Bool.or_assoc]
      · simp only [pL, hne, Bool.and_false, Bool.false_or, i2 hL]
theorem wat_wids {W : Aps} {i id : Nat} (h : wat W i = some id) : inl (wids W) id = true := by
  induction W with
  | nil => simp [wat] at h
  | cons y s ihs =>
    obtain ⟨b, m, D'⟩ := y
    simp only [wat] at h
    simp only [wids, inl, Bool.or_eq_true]
    cases eb : (b == i) with
    | true => rw [eb] at h; simp only [cond_true, Option.some.injEq] at h; left; simp [h]
    | false => rw [eb] at h; exact .inr (ihs h)
theorem wat_inj {ops : List Oper} {n : Nat} {W : Aps} {i j id : Nat} (hw : wok ops n W = true) (h : wat W i = some id) (h' : wat W j = some id) : i = j := by
  induction W with
  | nil => simp [wat] at h
  | cons x r ih =>
    obtain ⟨a, k, D⟩ := x
    simp only [wok, Bool.and_eq_true] at hw
    obtain ⟨⟨⟨⟨_, _⟩, hk⟩, ha⟩, hr⟩ := hw
    simp only [wat] at h h'
    cases e : (a == i) with
    | true =>
      rw [e] at h
      simp only [cond_true, Option.some.injEq] at h
      subst h
      cases e' : (a == j) with
      | true => rw [← eq_of_beq e, ← eq_of_beq e']
      | false => rw [e'] at h'; rw [wat_wids h'] at hk; cases hk
    | false =>
      rw [e] at h
      cases e' : (a == j) with
      | true =>
        rw [e'] at h'
        simp only [cond_true, Option.some.injEq] at h'
        subst h'
        rw [wat_wids h] at hk; cases hk
      | false => rw [e'] at h'; exact ih hr h h'
theorem wids_wat {ops : List Oper} {n : Nat} {W : Aps} {id : Nat} (hw : wok ops n W = true) (h : inl (wids W) id = true) : ∃ a, a < n ∧ wat W a = some id := by
  induction W with
  | nil => simp [wids, inl] at h
  | cons x r ih =>
    obtain ⟨a, k, D⟩ := x
    simp only [wok, Bool.and_eq_true] at hw
    obtain ⟨⟨⟨⟨han, _⟩, hk⟩, ha⟩, hr⟩ := hw
    simp only [wids, inl, Bool.or_eq_true] at h
    rcases h with h | h
    · have := eq_of_beq h
      subst this
      exact ⟨a, by simpa [Nat.blt_eq] using han, by simp [wat]⟩
    · obtain ⟨b, hb, hb'⟩ := ih hr h
      refine ⟨b, hb, ?_⟩
      simp only [wat]
      cases e : (a == b) with
      | true =>
        have := eq_of_beq e
        subst this
        have : wat r a = none := by simpa using ha
        rw [this] at hb'; cases hb'
      | false => exact hb'
/-! ### what is forgotten twice -/
theorem HV.kill_le {p q : Nat → Bool} (h : ∀ i, p i = true → q i = true) : ∀ x : HV, (x.kill p).kill q = x.kill q := by
  have one : ∀ (i : Nat) (x : HV), x.kill q = (bif q i then .junk else x) → ((bif p i then .junk else x : HV)).kill q = x.kill q := fun i x e => by
    cases hp : p i with
    | true => simp only [cond_true]; rw [e, h i hp, HV.kill]; rfl
    | false => rfl
  have main : ∀ n (x : HV), SizeOf.sizeOf x < n → (x.kill p).kill q = x.kill q := by
    intro n
    induction n with
    | zero => intro x hx; omega
    | succ n ih =>
      intro x hx
      cases x with
      | v x => rw [HV.kill]
      | lst fr xs => rw [HV.kill]
      | own i => rw [show HV.kill p (.own i) = bif p i then .junk else .own i by rw [HV.kill]]; exact one i _ (by rw [HV.kill])
      | vw i sz o m => rw [show HV.kill p (.vw i sz o m) = bif p i then .junk else .vw i sz o m by rw [HV.kill]]; exact one i _ (by rw [HV.kill])
      | ptr i sz j k => rw [show HV.kill p (.ptr i sz j k) = bif p i then .junk else .ptr i sz j k by rw [HV.kill]]; exact one i _ (by rw [HV.kill])
      | elt fr xs sz i k => rw [HV.kill]
      | agg cs =>
        rw [HV.kill, HV.kill, HV.kill, List.map_map]
        congr 1
        apply List.map_congr_left
        intro y hy
        have := List.sizeOf_lt_of_mem hy
        simp only [HV.agg.sizeOf_spec] at hx
        exact ih y (by omega)
      | tup cs =>
        rw [HV.kill, HV.kill, HV.kill, List.map_map]
        congr 1
        apply List.map_congr_left
        intro y hy
        have := List.sizeOf_lt_of_mem hy
        simp only [HV.tup.sizeOf_spec] at hx
        exact ih y (by omega)
      | junk => rw [HV.kill]
  exact fun x => main _ x (Nat.lt_succ_self _)
theorem HV.kill_or {p q : Nat → Bool} : ∀ x : HV, (x.kill p).kill q = x.kill fun i => p i || q i := by
  have one : ∀ (i : Nat) (x : HV), (∀ f, x.kill f = (bif f i then .junk else x)) → ((bif p i then .junk else x : HV)).kill q = x.kill fun i => p i || q i := fun i x e => by
    rw [e]
    cases hp : p i with
    | true => simp only [cond_true, Bool.true_or]; rw [HV.kill]
    | false => simp only [cond_false, Bool.false_or]; exact e q
  have main : ∀ n (x : HV), SizeOf.sizeOf x < n → (x.kill p).kill q = x.kill fun i => p i || q i := by
    intro n
    induction n with
    | zero => intro x hx; omega
    | succ n ih =>
      intro x hx
      cases x with
      | v x => simp only [HV.kill]
      | lst fr xs => simp only [HV.kill]
      | own i => rw [show HV.kill p (.own i) = bif p i then .junk else .own i by rw [HV.kill]]; exact one i _ (fun f => by rw [HV.kill])
      | vw i sz o m => rw [show HV.kill p (.vw i sz o m) = bif p i then .junk else .vw i sz o m by rw [HV.kill]]; exact one i _ (fun f => by rw [HV.kill])
      | ptr i sz j k => rw [show HV.kill p (.ptr i sz j k) = bif p i then .junk else .ptr i sz j k by rw [HV.kill]]; exact one i _ (fun f => by rw [HV.kill])
      | elt fr xs sz i k => simp only [HV.kill]
      | agg cs =>
        rw [HV.kill, HV.kill, HV.kill, List.map_map]
        congr 1
        apply List.map_congr_left
        intro y hy
        have := List.sizeOf_lt_of_mem hy
        simp only [HV.agg.sizeOf_spec] at hx
        exact ih y (by omega)
      | tup cs =>
        rw [HV.kill, HV.kill, HV.kill, List.map_map]
        congr 1
        apply List.map_congr_left
        intro y hy
        have := List.sizeOf_lt_of_mem hy
        simp only [HV.tup.sizeOf_spec] at hx
        exact ih y (by omega)
      | junk => simp only [HV.kill]
  exact fun x => main _ x (Nat.lt_succ_self _)
theorem Row.kill_le {p q : Nat → Bool} (h : ∀ i, p i = true → q i = true) (r : Row) : (r.kill p).kill q = r.kill q := by
  cases r with
  | sl => rfl
  | bx n t cs => simp only [Row.kill, List.map_map]; congr 1; exact List.map_congr_left fun x _ => HV.kill_le h x
  | hl n t s xs => simp only [Row.kill, List.map_map]; congr 1; exact List.map_congr_left fun x _ => by simp only [Function.comp, List.map_map]; exact List.map_congr_left fun y _ => HV.kill_le h y
theorem Row.kill_or {p q : Nat → Bool} (r : Row) : (r.kill p).kill q = r.kill fun i => p i || q i := by
  cases r with
  | sl => rfl
  | bx n t cs => simp only [Row.kill, List.map_map]; congr 1; exact List.map_congr_left fun x _ => HV.kill_or x
  | hl n t s xs => simp only [Row.kill, List.map_map]; congr 1; exact List.map_congr_left fun x _ => by simp only [Function.comp, List.map_map]; exact List.map_congr_left fun y _ => HV.kill_or y
theorem HV.kill_no (x : HV) : x.kill (fun _ => false) = x := by
  have main : ∀ n (x : HV), SizeOf.sizeOf x < n → x.kill (fun _ => false) = x := by
    intro n
    induction n with
    | zero => intro x hx; omega
    | succ n ih =>
      intro x hx
      cases x with
      | v x => rw [HV.kill]
      | lst fr xs => rw [HV.kill]
      | own i => rw [HV.kill]; rfl
      | vw i sz o m => rw [HV.kill]; rfl
      | ptr i sz j k => rw [HV.kill]; rfl
      | elt fr xs sz i k => rw [HV.kill]
      | agg cs =>
        rw [HV.kill]
        congr 1
        conv => rhs; rw [← List.map_id cs]
        apply List.map_congr_left
        intro y hy
        have := List.sizeOf_lt_of_mem hy
        simp only [HV.agg.sizeOf_spec] at hx
        exact ih y (by omega)
      | tup cs =>
        rw [HV.kill]
        congr 1
        conv => rhs; rw [← List.map_id cs]
        apply List.map_congr_left
        intro y hy
        have := List.sizeOf_lt_of_mem hy
        simp only [HV.tup.sizeOf_spec] at hx
        exact ih y (by omega)
      | junk => rw [HV.kill]
  exact main _ x (Nat.lt_succ_self _)
theorem Row.kill_no (r : Row) : r.kill (fun _ => false) = r := by
  cases r with
  | sl => rfl
  | bx n t cs =>
    simp only [Row.kill]; congr 1
    conv => rhs; rw [← List.map_id cs]
    exact List.map_congr_left fun x _ => HV.kill_no x
  | hl n t s xs =>
    simp only [Row.kill]; congr 1
    conv => rhs; rw [← List.map_id xs]
    refine List.map_congr_left fun x _ => ?_
    conv => rhs; rw [id_eq, ← List.map_id x]
    exact List.map_congr_left fun y _ => HV.kill_no y
end Go.Eng
