/-
  HunkPieces: the walk.
-/
import Derived.Test.YtfojmpimnidmkaaHpW
import Derived.Test.YtfojmpimnidmkaaHar
import Derived.Test.YtfojmpimnidmkaaHpC
import Derived.Test.YtfojmpimnidmkaaHpD
import Derived.Test.YtfojmpimnidmkaaFnl
import Derived.Test.YtfojmpimnidmkaaApH
set_option linter.unusedSimpArgs false
set_option linter.unusedVariables false
set_option maxRecDepth 20000
namespace Go.Proofs.Ytfojmpimnidmkaa
open Go Go.Eng Go.RowKit Go.DiffM
def bC (a b : List ByteArray) (r : Int) : Int := if r < 0 then 1 else if 400 < a.length ∨ 400 < b.length then 4 else 0
def bH (a b : List ByteArray) (r : Int) : List (Hk ByteArray) := if bC a b r = 0 then between a b (min r 400).toNat else []
theorem bC_neg {a b : List ByteArray} {r : Int} (h : r < 0) : bC a b r = 1 := by simp [bC, h]
theorem bC_lim {a b : List ByteArray} {r : Int} (h : 0 ≤ r) (hl : 400 < a.length ∨ 400 < b.length) : bC a b r = 4 := by
 unfold bC; rw [if_neg (by omega), if_pos hl]
theorem bC_ok {a b : List ByteArray} {r : Int} (h : 0 ≤ r) (ha : a.length ≤ 400) (hb : b.length ≤ 400) : bC a b r = 0 := by
 unfold bC; rw [if_neg (by omega), if_neg (by omega)]
theorem bH_no {a b : List ByteArray} {r : Int} (h : bC a b r ≠ 0) : bH a b r = [] := if_neg h
theorem bH_ok {a b : List ByteArray} {r : Int} (h : bC a b r = 0) : bH a b r = between a b (min r 400).toNat := if_pos h
theorem bH_len (a b : List ByteArray) (r : Int) : (bH a b r).length ≤ a.length + b.length := by
 unfold bH
 split
 ·have := spF_len (2 * (min r 400).toNat) (script a b) 0 0 []
  obtain ⟨hlen, hcnt⟩ := script_len a b
  have e : between a b (min r 400).toNat = (spF (2 * (min r 400).toNat) (script a b) 0 0 []).map (hunkOf a b (min r 400).toNat) := rfl
  rw [e, List.length_map]
  simp only [List.length_nil] at this
  omega
 ·simp
theorem bH_small (a b : List ByteArray) (r : Int) : ∀ x ∈ bH a b r, x.old.length ≤ a.length ∧ x.new.length ≤ b.length := fun x hx => by
 unfold bH at hx
 split at hx
 ·obtain ⟨s, -, rfl⟩ := List.mem_map.1 hx
  have := hunk_size a b (min r 400).toNat s
  exact ⟨this.2, this.1⟩
 ·simp at hx
def hkzO (h : Hk ByteArray) : HkZ := ⟨h.at_, h.old, h.new⟩
theorem hks_hkzO (fr : Bool) (l : List (Hk ByteArray)) : hks fr l = hkz fr (l.map hkzO) := by simp [hks, hkz, hkE, hkzE, hkzO]
theorem between_FC (a b : List ByteArray) (r : Int) (w1 : -9223372036854775808 ≤ r) (w2 : r ≤ 9223372036854775807) : HFunF Try.prog 4 [.lst false (strs a), .lst false (strs b), .v (.int .i64 r)] (fun h st F => ∃ T : List HkV, T.map Prod.fst = bH a b r ∧ h = .tup [.own 0, .v (.int .i64 (bC a b r))] ∧ st = [(0, rowL T)] ∧ F = lvs T) := by
 refine (HFunF.nilOr 33 3 (E := fun cd => cd = .int .i64 (bC a b r) ∧ bC a b r ≠ 0) (R := fun h st F => bC a b r = 0 ∧ h = .tup [.own 0, .v (.int .i64 0)] ∧ ∃ T : List HkV, T.map Prod.fst = between a b (min r 400).toNat ∧ st = [(0, rowL T)] ∧ F = lvs T) ((between_F a b r w1 w2).mono ?_)).mono ?_
 ·rintro h st F (⟨hneg, rfl, rfl, rfl⟩ | ⟨h0, hl, rfl, rfl, rfl⟩ | ⟨h0, ha, hb, rfl, hT⟩)
  ·exact .inl ⟨_, ⟨by rw [bC_neg hneg], by rw [bC_neg hneg]; decide⟩, rfl, rfl, rfl⟩
  ·exact .inl ⟨_, ⟨by rw [bC_lim h0 hl], by rw [bC_lim h0 hl]; decide⟩, rfl, rfl, rfl⟩
  ·exact .inr ⟨bC_ok h0 ha hb, rfl, hT⟩
 ·rintro h st F (⟨cd, ⟨rfl, hne⟩, rfl, rfl, rfl⟩ | ⟨h0, rfl, T, hT, rfl, rfl⟩)
  ·exact ⟨[], by rw [bH_no hne]; rfl, rfl, rfl, rfl⟩
  ·exact ⟨T, by rw [bH_ok h0]; exact hT, by rw [h0], rfl, rfl⟩
theorem rbetween_VC (a b : List ByteArray) (r : Int) (w1 : -9223372036854775808 ≤ r) (w2 : r ≤ 9223372036854775807) : HFunV Try.prog 5 [.lst false (strs a), .lst false (strs b), .v (.int .i64 r)] (fun h st => h = .tup [.own 0, .v (.int .i64 (bC a b r))] ∧ st = [(0, .sl true 33 3 (hks false (bH a b r)))]) := by
 refine (HFunV.nilOr 33 3 (E := fun cd => cd = .int .i64 (bC a b r) ∧ bC a b r ≠ 0) (R := fun h st => bC a b r = 0 ∧ h = .tup [.own 0, .v (.int .i64 0)] ∧ st = [(0, .sl true 33 3 (hks false (between a b (min r 400).toNat)))]) ((rbetween_H a b r w1 w2).mono ?_)).mono ?_
 ·rintro h st (⟨hneg, rfl, rfl⟩ | ⟨h0, hl, rfl, rfl⟩ | ⟨h0, ha, hb, rfl, rfl⟩)
  ·exact .inl ⟨_, ⟨by rw [bC_neg hneg], by rw [bC_neg hneg]; decide⟩, rfl, rfl⟩
  ·exact .inl ⟨_, ⟨by rw [bC_lim h0 hl], by rw [bC_lim h0 hl]; decide⟩, rfl, rfl⟩
  ·exact .inr ⟨bC_ok h0 ha hb, rfl, rfl⟩
 ·rintro h st (⟨cd, ⟨rfl, hne⟩, rfl, rfl⟩ | ⟨h0, rfl, rfl⟩)
  ·exact ⟨rfl, by rw [bH_no hne]; rfl⟩
  ·exact ⟨by rw [h0], by rw [bH_ok h0]⟩
theorem lf_is (v : Value) (l : List ByteArray) : LeafIs (lf v l) (strs l) := ⟨by simp [lf, strs], fun x hx => by obtain ⟨s, -, rfl⟩ := List.mem_map.1 hx; rfl, fun i k hi hk => by
 have hk0 : k = 0 := by simpa [strs, strE] using hk
 have hi' : i < l.length := by simpa [strs] using hi
 subst hk0
 exact ⟨.string l[i], by simp [strs, strE], by simp [lf, hi'], rfl⟩⟩
theorem lendT {F : List Leaf} {S : HS} {id : Nat} {T : List HkV} (hr : rlk S.st id = some (rowL T)) (hF : ∀ f ∈ lvs T, f ∈ F) : LendF F S (.own id) (.lst false (hks false (T.map Prod.fst))) := by
 refine LendF.row hr (by simp [hks, hlT]) (fun y hy => by obtain ⟨s, -, rfl⟩ := List.mem_map.1 hy; rfl) (fun i k hi hk hi' hk' => ?_)
 have hiT : i < T.length := by simpa [hlT] using hi
 have e1 : (hlT T)[i] = hlE T[i] := by simp [hlT]
 have e2 : (hks false (T.map Prod.fst))[i] = hkE false T[i].1 := by simp [hks]
 have hk3 : k < 3 := by simpa [e1, hlE] using hk
 have m1 : lf (hd T[i].2.1 T[i].1.old.length) T[i].1.old ∈ lvs T := List.mem_flatMap.2 ⟨T[i], List.getElem_mem hiT, by simp⟩
 have m2 : lf (hd T[i].2.2 T[i].1.new.length) T[i].1.new ∈ lvs T := List.mem_flatMap.2 ⟨T[i], List.getElem_mem hiT, by simp⟩
 simp only [e1, e2]
 match k, hk3 with
 | 0, _ => exact .v _
 | 1, _ => exact .leaf (hF _ m1) (lf_is _ _)
 | 2, _ => exact .leaf (hF _ m2) (lf_is _ _)
def quad (p : HkV × HkV) : List (List HV) := [[.v (hd p.1.2.1 p.1.1.old.length)], [.v (hd p.1.2.2 p.1.1.new.length)], [.v (hd p.2.2.1 p.2.1.old.length)], [.v (hd p.2.2.2 p.2.1.new.length)]]
def apL (x y : Nat) (Z : List (HkV × HkV)) : List (List HV) := [.own x] :: [.own y] :: Z.flatMap quad
theorem apL_len (x y : Nat) (Z : List (HkV × HkV)) : (apL x y Z).length = 4 * Z.length + 2 := by
 simp only [apL, List.length_cons, flatN_len quad 4 (fun _ => rfl)]
theorem apL_snoc (x y : Nat) (Z : List (HkV × HkV)) (t u : HkV) : apL x y Z ++ [[.v (hd t.2.1 t.1.old.length)], [.v (hd t.2.2 t.1.new.length)], [.v (hd u.2.1 u.1.old.length)], [.v (hd u.2.2 u.1.new.length)]] = apL x y (Z ++ [(t, u)]) := by simp [apL, quad]
theorem apL_fix (x y : Nat) (Z : List (HkV × HkV)) (f : HV → HV) (hf : ∀ x, f (.v x) = .v x) (hx : f (.own x) = .own x) (hy : f (.own y) = .own y) : (apL x y Z).map (List.map f) = apL x y Z := by
 have : ∀ Z : List (HkV × HkV), (Z.flatMap quad).map (List.map f) = Z.flatMap quad := fun Z => by
  induction Z with
  | nil => rfl
  | cons z Z ih => rw [List.flatMap_cons, List.map_append, ih]; simp [quad, hf]
 simp [apL, hx, hy, this]
theorem apL_only (x y id : Nat) (Z : List (HkV × HkV)) (h1 : x ≠ id) (h2 : y ≠ id) : (apL x y Z).map (List.map (HV.kill (only id))) = apL x y Z :=
 apL_fix x y Z _ (fun x => by rw [HV.kill]) (by rw [HV.kill, only_ne h1]; rfl) (by rw [HV.kill, only_ne h2]; rfl)
def whoP (x y L j : Nat) : Nat ⊕ Nat := if j = 0 then .inl x else if j = 1 then .inl y else if (j - 2) % 4 < 2 then .inr (2 * ((j - 2) / 4) + (j - 2) % 4) else .inr (2 * L + 2 * ((j - 2) / 4) + ((j - 2) % 4 - 2))
theorem whoP_inj {x y L n : Nat} (hxy : x ≠ y) (hn : n ≤ L) (i j : Nat) (hi : i < 4 * n + 2) (hj : j < 4 * n + 2) (h : whoP x y L i = whoP x y L j) : i = j := by
 unfold whoP at h
 split at h <;> split at h <;> (try split at h) <;> (try split at h) <;> (try split at h) <;> (try split at h) <;> simp only [Sum.inl.injEq, Sum.inr.injEq, reduceCtorEq] at h <;> omega
theorem lvs_len (T : List HkV) : (lvs T).length = 2 * T.length := flatN_len (fun t : HkV => [lf (hd t.2.1 t.1.old.length) t.1.old, lf (hd t.2.2 t.1.new.length) t.1.new]) 2 (fun _ => rfl) T
theorem lvs_get {T : List HkV} {q r : Nat} (hq : q < T.length) (hr : r < 2) : (lvs T)[2 * q + r]? = [lf (hd T[q].2.1 T[q].1.old.length) T[q].1.old, lf (hd T[q].2.2 T[q].1.new.length) T[q].1.new][r]? := flatN_get (fun t : HkV => [lf (hd t.2.1 t.1.old.length) t.1.old, lf (hd t.2.2 t.1.new.length) t.1.new]) 2 (fun _ => rfl) T q r hq hr
theorem apL_at {x y : Nat} {T U : List HkV} {a b : List ByteArray} {n1 n2 : Bool} {st : Store} {n : Nat} (hx : rlk st x = some (.sl n1 9 1 (strs a))) (hy : rlk st y = some (.sl n2 9 1 (strs b))) (hTU : T.length = U.length) (hn : n ≤ T.length) (ha : a.length ≤ 1000000000) (hb : b.length ≤ 1000000000)
  (hT : ∀ t ∈ T, t.1.old.length ≤ 1000000000 ∧ t.1.new.length ≤ 1000000000) (hU : ∀ t ∈ U, t.1.old.length ≤ 1000000000 ∧ t.1.new.length ≤ 1000000000) (j : Nat) (hj : j < (apL x y ((T.zip U).take n)).length) :
  ∃ e m, (apL x y ((T.zip U).take n))[j] = [e] ∧ ApAt (lvs T ++ lvs U) st 9 1 (whoP x y T.length j) e m ∧ m ≤ 1000000000 := by
 have hl : ((T.zip U).take n).length = n := by rw [List.length_take, List.length_zip]; omega
 have hj' : j < 4 * n + 2 := by rw [apL_len, hl] at hj; exact hj
 by_cases h0 : j = 0
 ·subst h0
  exact ⟨.own x, _, rfl, .row hx, by rw [strs_len]; exact ha⟩
 by_cases h1 : j = 1
 ·subst h1
  exact ⟨.own y, _, rfl, .row hy, by rw [strs_len]; exact hb⟩
 obtain ⟨q, hq⟩ : ∃ q, q = (j - 2) / 4 := ⟨_, rfl⟩
 obtain ⟨r, hr⟩ : ∃ r, r = (j - 2) % 4 := ⟨_, rfl⟩
 have hqn : q < n := by omega
 have hr4 : r < 4 := by omega
 have hjq : j = 4 * q + r + 2 := by omega
 have hqT : q < T.length := by omega
 have hqU : q < U.length := by omega
 have hz : ((T.zip U).take n)[q]'(by omega) = (T[q], U[q]) := by simp
 have hg : (apL x y ((T.zip U).take n))[j]? = (quad (T[q], U[q]))[r]? := by
  rw [hjq]
  show (((T.zip U).take n).flatMap quad)[4 * q + r]? = _
  rw [flatN_get quad 4 (fun _ => rfl) _ q r (by omega) hr4, hz]
 rw [List.getElem?_eq_getElem hj] at hg
 have hw : whoP x y T.length j = if r < 2 then .inr (2 * q + r) else .inr (2 * T.length + 2 * q + (r - 2)) := by
  unfold whoP; rw [if_neg h0, if_neg h1, ← hq, ← hr]
 have tb := hT _ (List.getElem_mem hqT)
 have ub := hU _ (List.getElem_mem hqU)
 have left : ∀ s, s < 2 → (lvs T ++ lvs U)[2 * q + s]? = [lf (hd T[q].2.1 T[q].1.old.length) T[q].1.old, lf (hd T[q].2.2 T[q].1.new.length) T[q].1.new][s]? := fun s hs => by
  rw [List.getElem?_append_left (by rw [lvs_len]; omega), lvs_get hqT hs]
 have right : ∀ s, s < 2 → (lvs T ++ lvs U)[2 * T.length + 2 * q + s]? = [lf (hd U[q].2.1 U[q].1.old.length) U[q].1.old, lf (hd U[q].2.2 U[q].1.new.length) U[q].1.new][s]? := fun s hs => by
  rw [List.getElem?_append_right (by rw [lvs_len]; omega), lvs_len, show 2 * T.length + 2 * q + s - 2 * T.length = 2 * q + s by omega, lvs_get hqU hs]
 rw [hw]
 rcases (show r = 0 ∨ r = 1 ∨ r = 2 ∨ r = 3 by omega) with rfl | rfl | rfl | rfl
 ·exact ⟨_, _, Option.some.inj hg, ApAt.leaf (left 0 (by omega)) rfl rfl, tb.1⟩
 ·exact ⟨_, _, Option.some.inj hg, ApAt.leaf (left 1 (by omega)) rfl rfl, tb.2⟩
 ·exact ⟨_, _, Option.some.inj hg, ApAt.leaf (right 0 (by omega)) rfl rfl, ub.1⟩
 ·exact ⟨_, _, Option.some.inj hg, ApAt.leaf (right 1 (by omega)) rfl rfl, ub.2⟩
theorem hlT_get {T : List HkV} {i : Nat} {d : List HV} (h : i < T.length) : (hlT T).getD i d = [.v (.int .i64 T[i].1.at_), .v (hd T[i].2.1 T[i].1.old.length), .v (hd T[i].2.2 T[i].1.new.length)] := by unfold hlT; rw [getD_map h]; rfl
end Go.Proofs.Ytfojmpimnidmkaa
