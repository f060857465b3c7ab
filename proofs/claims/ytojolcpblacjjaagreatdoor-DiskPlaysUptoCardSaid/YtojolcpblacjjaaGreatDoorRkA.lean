/-
  The reference's disk: its rows; where a path stands; an aQ put, dropped: plain.
-/
import Derived.Test.YtojolcpblacjjaaGreatDoorDkA
import Derived.Test.YtojolcpblacjjaaGreatDoorRcc
section
set_option linter.unusedSimpArgs false
set_option linter.unusedVariables false
set_option maxRecDepth 20000
namespace Go.Proofs.YtojolcpblacjjaaGreatDoor
open Go Go.Eng Go.RowKit Go.Tr Go.Dk
theorem qAt : ∀ (l : List UInt8), (Lib.indexByte l 47 = -1 ∧ qBa l = l.length) ∨ (Lib.indexByte l 47 = (qBa l : Int) ∧ qBa l < l.length)
 | [] => .inl ⟨rfl, rfl⟩
 | c :: r => by
  rw [Lib.indexByte, qBa]
  by_cases h : c = 47
  ·subst h
   right
   simp
  ·have hc : (c == 47) = false := beq_eq_false_iff_ne.2 h
   rw [hc, if_neg h]
   rcases qAt r with ⟨a, b⟩ | ⟨a, b⟩
   ·left
    rw [a, b]
    exact ⟨rfl, by simp⟩
   ·right
    rw [a]
    have : ((qBa r : Int) == -1) = false := beq_eq_false_iff_ne.2 (by omega)
    rw [this]
    simp only [Bool.false_eq_true, if_false, List.length_cons]
    exact ⟨rfl, by omega⟩
theorem zBk {p : ByteArray} (h : Lib.indexByte p.data.toList 47 = -1) : vol p = p := by
 rcases qAt p.data.toList with ⟨a, b⟩ | ⟨a, b⟩
 ·rw [vol, b, ← Lib.size_eq]; exact ByteArray.extract_zero_size
 ·omega
theorem qRf (p : ByteArray) : (vol p).size ≤ p.size := by
 rw [vol, ByteArray.size_extract]; omega
def aft (p : ByteArray) : ByteArray := if qBa p.data.toList < p.size then p.extract (qBa p.data.toList + 1) p.size else { data := #[] }
def fnd (p : ByteArray) : Bool := decide (qBa p.data.toList < p.size)
set_option maxHeartbeats 1000000 in
theorem zLa (s : ByteArray) (hs : s.size ≤ 1048576) : HFun Tryz.prog 84 [.v (.string s), .v (.string { data := #[47] })] (fun h st => h = .tup ([.string (vol s), .string (aft s), .bool (fnd s)].map .v)) := by
 refine iB (N := 23) Tryz.func84 rfl Tryz.ntmps84 Tryz.results84 (by simp) ?_
 have hc := qRv s
 unfold aft fnd
 rcases qAt s.data.toList with ⟨a, b⟩ | ⟨a, b⟩
 ·rw [a] at hc
  rw [← Lib.size_eq] at b
  refine zE ?_; refine zJ (fun K hK => ?_); simp (disch := omega) only [push_cast, ↓Int.cast_ofNat_Int, simprocAttr]; refine hK _ ?_; clear hK K
  refine zE ?_; refine zE ?_; refine zJ (fun K hK => ?_); simp (disch := omega) only [push_cast, ↓Int.cast_ofNat_Int, simprocAttr]
  refine cG zFe hc (.cons (.v _) (.cons (.v _) .nil)) ?_
  with_reducible refine aM ?_; simp (disch := omega) only [push_cast, ↓Int.cast_ofNat_Int, simprocAttr]
  refine hK _ ?_; clear hK K
  refine zE ?_; refine zJ (fun K hK => ?_); simp (disch := omega) only [push_cast, ↓Int.cast_ofNat_Int, simprocAttr]; refine hK _ ?_; clear hK K
  refine zA ?_
  refine yC rfl ?_
  refine zC ?_; refine zE ?_; refine zJ (fun K hK => ?_); simp (disch := omega) only [push_cast, ↓Int.cast_ofNat_Int, simprocAttr]; refine hK _ ?_; clear hK K
  refine zA ?_; refine zW ?_
  simp only [yA, yM, yH, yE, aP, aX, yK, yJ, zS, zM, Nat.reduceEqDiff, reduceIte, reduceCtorEq]
  refine qH2 ?_
  rw [zBk a, b]
  simp
 ·rw [a] at hc
  rw [← Lib.size_eq] at b
  obtain ⟨k, hk⟩ : ∃ k, qBa s.data.toList = k := ⟨_, rfl⟩
  have hv : vol s = s.extract 0 k := by rw [vol, hk]
  rw [hk] at hc b ⊢
  rw [hv, if_pos b]
  refine zE ?_; refine zJ (fun K hK => ?_); simp (disch := omega) only [push_cast, ↓Int.cast_ofNat_Int, simprocAttr]; refine hK _ ?_; clear hK K
  refine zE ?_; refine zE ?_; refine zJ (fun K hK => ?_); simp (disch := omega) only [push_cast, ↓Int.cast_ofNat_Int, simprocAttr]
  refine cG zFe hc (.cons (.v _) (.cons (.v _) .nil)) ?_
  with_reducible refine aM ?_; simp (disch := omega) only [push_cast, ↓Int.cast_ofNat_Int, simprocAttr]
  refine hK _ ?_; clear hK K
  refine zE ?_; refine zJ (fun K hK => ?_); simp (disch := omega) only [push_cast, ↓Int.cast_ofNat_Int, simprocAttr]; refine hK _ ?_; clear hK K
  refine zA ?_
  refine bE rfl (fun _ => ?_) (fun hf => by simp at hf)
  refine zE ?_; refine HW_drw 10 mixed (by kernel_rfl) (fun K hK => ?_); simp (disch := omega) only [push_cast, ↓Int.cast_ofNat_Int, simprocAttr, qA]
  refine ⟨by omega, by omega, ?_⟩
  with_reducible refine aM ?_; simp (disch := omega) only [push_cast, ↓Int.cast_ofNat_Int, simprocAttr]
  refine hK _ ?_; clear hK K
  refine zA ?_; refine zW ?_; refine zK ?_
  simp only [yA, yM, yH, yE, aP, aX, yK, yJ, zS, zM, Nat.reduceEqDiff, reduceIte, reduceCtorEq]
  refine qH2 ?_
  simp [b]
set_option maxHeartbeats 1000000 in
theorem zHu (s : ByteArray) (hs : s.size ≤ 1048576) : HFun Tryz.prog 72 [.v (.string s), .v (.string { data := #[47] })] (fun h st => h = .tup ([.string (vol s), .string (aft s), .bool (fnd s)].map .v)) := by
 refine iB (N := 13) Tryz.func72 rfl Tryz.ntmps72 Tryz.results72 (by simp) ?_
 refine zE ?_; refine zJ (fun K hK => ?_); simp (disch := omega) only [push_cast, ↓Int.cast_ofNat_Int, simprocAttr]; refine hK _ ?_; clear hK K
 refine zE ?_; refine zJ (fun K hK => ?_); simp (disch := omega) only [push_cast, ↓Int.cast_ofNat_Int, simprocAttr]
 refine zJa zMb (zLa s hs) (.cons (.v _) (.cons (.v _) .nil)) ?_
 with_reducible refine aM ?_; simp (disch := omega) only [push_cast, ↓Int.cast_ofNat_Int, simprocAttr]
 refine hK _ ?_; clear hK K
 refine zA ?_; refine zW ?_
 simp only [yA, yM, yH, yE, aP, aX, yK, yJ, zS, zM, Nat.reduceEqDiff, reduceIte, reduceCtorEq]
 exact qH2 rfl
set_option maxHeartbeats 1000000 in
theorem qWy (s : ByteArray) (hs : s.size ≤ 1048576) : HFun Tryz.prog 48 [.v (.string s)] (fun h st => h = .v (.string (vol s))) := by
 refine iB (N := 13) Tryz.func48 rfl Tryz.ntmps48 Tryz.results48 (by simp) ?_
 refine zE ?_; refine zJ (fun K hK => ?_); simp (disch := omega) only [push_cast, ↓Int.cast_ofNat_Int, simprocAttr]; refine hK _ ?_; clear hK K
 refine zE ?_; refine zJ (fun K hK => ?_); simp (disch := omega) only [push_cast, ↓Int.cast_ofNat_Int, simprocAttr]
 refine zJa zMg (zHu s hs) (.cons (.v _) (.cons (.v _) .nil)) ?_
 with_reducible refine aM ?_; simp (disch := omega) only [push_cast, ↓Int.cast_ofNat_Int, simprocAttr]
 refine hK _ ?_; clear hK K
 refine zE ?_; refine zJ (fun K hK => ?_); simp (disch := omega) only [push_cast, ↓Int.cast_ofNat_Int, simprocAttr]; refine hK _ ?_; clear hK K
 refine zA ?_; refine zW ?_
 simp only [yA, yM, yH, yE, aP, aX, yK, yJ, zS, zM, Nat.reduceEqDiff, reduceIte, reduceCtorEq]
 exact bJ rfl
theorem zCs (p : ByteArray) : (par p).size ≤ p.size := by rw [par, ByteArray.size_extract]; omega
theorem mx {s : ByteArray} (h : s.size ≤ 1048576) : s.size ≤ maxLen := Nat.le_trans h (by decide)
set_option maxHeartbeats 1000000 in
theorem qK9 (d : Dk) (p : ByteArray) (r1 r2 : Nat) (hs : p.size ≤ 1048576) : HFunM Tryz.prog 44 [.ptr 0 6 0 0, .v (.string p)] [(0, .bx false 47 (d.cells r1 r2))] (d.maps kS r1 r2) (fun h st g => h = .v (.bool (fA d p)) ∧ st = [(0, .bx false 47 (d.cells r1 r2))] ∧ g = d.maps kS r1 r2) := by
 refine iU (N := 18) Tryz.func44 rfl Tryz.ntmps44 Tryz.results44 (by simp) ?_
 have hde := zFa p hs
 have hpa := qSb p hs
 simp only [bG]
 unfold fA
 refine aA ?_; refine aC (fun K hK => ?_); simp (disch := omega) only [push_cast, ↓Int.cast_ofNat_Int, simprocAttr]; refine hK _ ?_; clear hK K
 by_cases h1 : qDu p = 1
 ·rw [h1] at hde ⊢
  refine aA ?_
  refine qFx 10 mixed (by kernel_rfl) (fun K1 hK1 => ?_)
  simp (disch := omega) only [push_cast, ↓Int.cast_ofNat_Int, simprocAttr]
  refine gK zJj hde (.cons (.v _) .nil) ?_
  with_reducible refine aM ?_; simp (disch := omega) only [push_cast, ↓Int.cast_ofNat_Int, simprocAttr]
  refine hK1 _ ?_; (try clear hK1 K1)
  refine aH 4 (fun K1 hK1 => ?_); simp (disch := omega) only [push_cast, ↓Int.cast_ofNat_Int, simprocAttr, aF, aD]; refine hK1 _ ?_; (try clear hK1 K1)
  refine aW ?_
  refine aB ?_; refine aY ?_
  simp only [aE, aL, yH, yE, yK, yJ, aG, zS, zM, Nat.reduceEqDiff, reduceIte, reduceCtorEq]
  refine bR [0] [] (by first | rfl | simp [bsL, MO.bs]) (by decide) (by decide) (by simp only [push_cast, simprocAttr]) (by simp only [push_cast, simprocAttr]) (by simp only [push_cast, simprocAttr]; rfl) (by simp only [push_cast, simprocAttr]; rfl) ?_
  exact ⟨by simp, rfl, rfl⟩
 ·refine aA ?_
  refine qFx 10 mixed (by kernel_rfl) (fun K1 hK1 => ?_)
  simp (disch := omega) only [push_cast, ↓Int.cast_ofNat_Int, simprocAttr]
  refine gK zJj hde (.cons (.v _) .nil) ?_
  with_reducible refine aM ?_; simp (disch := omega) only [push_cast, ↓Int.cast_ofNat_Int, simprocAttr, h1]
  refine gK zLd hpa (.cons (.v _) .nil) ?_
  with_reducible refine aM ?_; simp (disch := omega) only [push_cast, ↓Int.cast_ofNat_Int, simprocAttr]
  refine hK1 _ ?_; (try clear hK1 K1)
  refine eK (i := 0) mtI rfl rfl rfl rfl rfl rfl (mx (Nat.le_trans (zCs p) hs)) ?_
  refine aH 3 (fun K1 hK1 => ?_); simp (disch := omega) only [push_cast, ↓Int.cast_ofNat_Int, simprocAttr, aF, aD, eH, eQ]; refine hK1 _ ?_; (try clear hK1 K1)
  refine aW ?_
  refine aB ?_; refine aY ?_
  simp only [aE, aL, yH, yE, yK, yJ, aG, zS, zM, Nat.reduceEqDiff, reduceIte, reduceCtorEq]
  refine bR [0] [] (by first | rfl | simp [bsL, MO.bs]) (by decide) (by decide) (by simp only [push_cast, simprocAttr]) (by simp only [push_cast, simprocAttr]) (by simp only [push_cast, simprocAttr]; rfl) (by simp only [push_cast, simprocAttr]; rfl) ?_
  exact ⟨by simp [h1, aQ], rfl, rfl⟩
end Go.Proofs.YtojolcpblacjjaaGreatDoor
end
section
set_option linter.unusedSimpArgs false
set_option linter.unusedVariables false
namespace Go.Dk
open Go Go.Tr Go.Eng
def zHz (e : ByteArray × Itm) : List FV := [.v (.string e.1), .v (.bool e.2.dir), .v (.string e.2.data), .v (.string e.2.kept), .v (.bool e.2.loose), .v (.bool e.2.anew), .v (.int .i64 e.2.stamp)]
def zHy (e : ByteArray × Int) : List FV := [.v (.string e.1), .v (.int .i64 e.2)]
abbrev LI := List (ByteArray × Itm)
abbrev LN := List (ByteArray × Int)
def dS (L : LI) : List (List FV) := L.map zHz
def rms (R : LN) : List (List FV) := R.map zHy
theorem bD (L : LI) : (dS L).length = L.length := List.length_map _
theorem gG (R : LN) : (rms R).length = R.length := List.length_map _
theorem bQ (L : LI) : Wid 7 (dS L) = True := eq_true (qFk L fun _ => rfl)
theorem kY (R : LN) : Wid 2 (rms R) = True := eq_true (qFk R fun _ => rfl)
theorem bV {L : LI} {i : Nat} {d : List FV} (h : i < L.length) : (dS L).getD i d = [.v (.string L[i].1), .v (.bool L[i].2.dir), .v (.string L[i].2.data), .v (.string L[i].2.kept), .v (.bool L[i].2.loose), .v (.bool L[i].2.anew), .v (.int .i64 L[i].2.stamp)] := by unfold dS; rw [tD h]; rfl
theorem mM {R : LN} {i : Nat} {d : List FV} (h : i < R.length) : (rms R).getD i d = [.v (.string R[i].1), .v (.int .i64 R[i].2)] := by unfold rms; rw [tD h]; rfl
theorem qSy (L : LI) : mD (dS L) = dS L := by
 unfold mD dS; rw [List.map_map]; apply List.map_congr_left; intro s _; simp [zHz, FV.old]
theorem qXa (R : LN) : mD (rms R) = rms R := by
 unfold mD rms; rw [List.map_map]; apply List.map_congr_left; intro s _; simp [zHy, FV.old]
theorem uJ (L : LI) (e : ByteArray × Itm) : dS L ++ [[.v (.string e.1), .v (.bool e.2.dir), .v (.string e.2.data), .v (.string e.2.kept), .v (.bool e.2.loose), .v (.bool e.2.anew), .v (.int .i64 e.2.stamp)]] = dS (L ++ [e]) := by simp [dS, zHz]
theorem zB9 (R : LN) (p : ByteArray) (k : Int) : rms R ++ [[.v (.string p), .v (.int .i64 k)]] = rms (R ++ [(p, k)]) := by simp [rms, zHy]
section
variable {α : Type}
def plc (p : ByteArray) : List (ByteArray × α) → Option Nat
 | [] => none
 | e :: r => if e.1 = p then some 0 else (plc p r).map (· + 1)
def zCr (p : ByteArray) (L : List (ByteArray × α)) : Int := match plc p L with
 | some i => i
 | none => -1
theorem vX {p : ByteArray} : ∀ {L : List (ByteArray × α)} {i : Nat}, plc p L = some i → ∃ h : i < L.length, L[i].1 = p ∧ bC L p = some L[i].2
 | [], i, h => by cases h
 | e :: r, i, h => by
  rw [plc] at h
  split at h
  ·rename_i he
   cases h
   exact ⟨by simp, he, by simp [bC, he]⟩
  ·rename_i he
   cases hr : plc p r with
   | none => rw [hr] at h; cases h
   | some j =>
    rw [hr] at h
    cases h
    obtain ⟨a, b, c⟩ := vX hr
    exact ⟨by simp; omega, by simpa using b, by simp [bC, he, c]⟩
theorem oF {p : ByteArray} : ∀ {L : List (ByteArray × α)}, plc p L = none → bC L p = none ∧ ∀ e ∈ L, e.1 ≠ p
 | [], h => ⟨rfl, fun e he => by cases he⟩
 | e :: r, h => by
  rw [plc] at h
  split at h
  ·cases h
  ·rename_i he
   cases hr : plc p r with
   | some j => rw [hr] at h; cases h
   | none =>
    obtain ⟨a, b⟩ := oF hr
    exact ⟨by simp [bC, he, a], fun x hx => by rcases List.mem_cons.1 hx with rfl | hx; exact he; exact b x hx⟩
theorem qG8 {p : ByteArray} : ∀ {L : List (ByteArray × α)} {i : Nat} (hi : i < L.length), (∀ k (h : k < L.length), k < i → L[k].1 ≠ p) → L[i].1 = p → plc p L = some i
 | [], i, hi, _, _ => by simp at hi
 | e :: r, 0, hi, _, h => by rw [plc, if_pos (by simpa using h)]
 | e :: r, i + 1, hi, hn, h => by
  have h0 := hn 0 (by simp) (by omega)
  rw [plc, if_neg (by simpa using h0), qG8 (L := r) (i := i) (by simpa using hi) (fun k hk hlt => by have := hn (k + 1) (by simpa using hk) (by omega); simpa using this) (by simpa using h)]
  rfl
theorem qQu {p : ByteArray} : ∀ {L : List (ByteArray × α)}, (∀ k (h : k < L.length), L[k].1 ≠ p) → plc p L = none
 | [], _ => rfl
 | e :: r, h => by
  have h0 := h 0 (by simp)
  rw [plc, if_neg (by simpa using h0), qQu (L := r) (fun k hk => by have := h (k + 1) (by simpa using hk); simpa using this)]
  rfl
theorem qXo (p : ByteArray) (L : List (ByteArray × α)) : (bC L p).isSome = (plc p L).isSome := by
 cases h : plc p L with
 | none => rw [(oF h).1]; rfl
 | some i => obtain ⟨_, _, e⟩ := vX h; rw [e]; rfl
def less (p : ByteArray) : List (ByteArray × α) → Nat
 | [] => 0
 | e :: r => if blt e.1 p = true then less p r + 1 else 0
theorem qQz (p : ByteArray) : ∀ (L : List (ByteArray × α)), less p L ≤ L.length
 | [] => Nat.le_refl _
 | e :: r => by
  have := qQz p r
  rw [less]
  split <;> simp only [List.length_cons] <;> omega
theorem qSr (p : ByteArray) : ∀ (L : List (ByteArray × α)) (k : Nat) (h : k < L.length), k < less p L → blt L[k].1 p = true
 | [], k, h, _ => by simp at h
 | e :: r, 0, h, hl => by
  rw [less] at hl
  split at hl
  ·rename_i he; exact he
  ·omega
 | e :: r, k + 1, h, hl => by
  rw [less] at hl
  split at hl
  ·exact qSr p r k (by simpa using h) (by omega)
  ·omega
theorem qM5 (p : ByteArray) : ∀ (L : List (ByteArray × α)) (h : less p L < L.length), blt (L[less p L]'h).1 p = false
 | [], h => by simp at h
 | e :: r, h => by
  by_cases he : blt e.1 p = true
  ·have e1 : less p (e :: r) = less p r + 1 := by rw [less, if_pos he]
   have h' : less p r < r.length := by rw [e1] at h; simpa using h
   have := qM5 p r h'
   simp only [e1, List.getElem_cons_succ]
   exact this
  ·have e1 : less p (e :: r) = 0 := by rw [less, if_neg he]
   simp only [e1, List.getElem_cons_zero]
   simpa using he
def gF (p : ByteArray) (L : List (ByteArray × α)) : Nat := match L[less p L]? with
 | some e => if e.1 = p then 1 else 0
 | none => 0
theorem qMl (p : ByteArray) (x : α) : ∀ {L : List (ByteArray × α)}, gW L → put p x L = L.take (less p L) ++ (p, x) :: L.drop (less p L + gF p L)
 | [], _ => rfl
 | (t, y) :: r, h => by
  obtain ⟨h1, h2⟩ := List.pairwise_cons.1 h
  by_cases e : t = p
  ·subst e
   have el : less t ((t, y) :: r) = 0 := by rw [less, if_neg (by simp [lE])]
   have es : gF t ((t, y) :: r) = 1 := by rw [gF, el]; simp
   rw [el, es]
   simp [put]
  ·rw [put, if_neg e, zF]
   by_cases hb : blt p t = true
   ·have hn : ¬ blt t p = true := fun h => by have := nG h; rw [hb] at this; cases this
    have el : less p ((t, y) :: r) = 0 := by rw [less, if_neg hn]
    have es : gF p ((t, y) :: r) = 0 := by rw [gF, el]; simp [e]
    rw [if_pos hb, el, es]
    simp
   ·have hl : blt t p = true := by
     rcases qFu t p with h | h | h
     ·exact h
     ·exact absurd h e
     ·exact absurd h hb
    have el : less p ((t, y) :: r) = less p r + 1 := by rw [less, if_pos hl]
    have es : gF p ((t, y) :: r) = gF p r := by rw [gF, gF, el]; simp
    rw [if_neg hb, el, es, qMl p x h2, show less p r + 1 + gF p r = (less p r + gF p r) + 1 by omega]
    simp
theorem qA4 (p : ByteArray) : ∀ (L : List (ByteArray × α)), del p L = L.filter fun e => decide (e.1 ≠ p)
 | [] => rfl
 | (t, y) :: r => by
  rw [del, qA4 p r]
  by_cases e : t = p
  ·rw [if_pos e]; simp [e]
  ·rw [if_neg e]; simp [e]
theorem zE6 (p : ByteArray) {L : List (ByteArray × α)} {i : Nat} (h : i < L.length) : del p (L.take (i + 1)) = if L[i].1 = p then del p (L.take i) else del p (L.take i) ++ [L[i]] := by
 rw [qA4, qA4, List.take_succ_eq_append_getElem h, List.filter_append]
 by_cases e : L[i].1 = p
 ·rw [if_pos e]; simp [e]
 ·rw [if_neg e]; simp [e]
theorem qFt (p : ByteArray) : ∀ (L : List (ByteArray × α)), (del p L).length ≤ L.length
 | [] => Nat.le_refl _
 | (t, y) :: r => by
  have := qFt p r
  rw [del]
  split <;> simp only [List.length_cons] <;> omega
end
theorem qPy : ∀ (l : List UInt8), ∃ r, jF l = l.take (qBa l) :: r
 | [] => ⟨[], rfl⟩
 | c :: l => by
  obtain ⟨r, h⟩ := qPy l
  by_cases e : c = 47
  ·subst e
   exact ⟨jF l, by rw [gU, qBa, if_pos rfl]; rfl⟩
  ·exact ⟨r, by rw [jE e h, qBa, if_neg e]; rfl⟩
theorem qVz (p : ByteArray) : ∃ r, parts p = vol p :: r := by
 obtain ⟨r, h⟩ := qPy p.data.toList
 refine ⟨r.map mkB, ?_⟩
 rw [parts, h, List.map_cons]
 congr 1
 rw [vol]
 conv => rhs; rw [← gQ (p.extract 0 _)]
 rw [Lib.extract_from_zero]
theorem qUu : ∀ (l : List UInt8), (jF l).length = l.count 47 + 1
 | [] => rfl
 | c :: l => by
  have ih := qUu l
  by_cases e : c = 47
  ·subst e
   rw [gU, List.count_cons_self, List.length_cons, ih]
  ·obtain ⟨a, t, h⟩ : ∃ a t, jF l = a :: t := by
    cases h : jF l with
    | nil => exact absurd h (yY l)
    | cons a t => exact ⟨a, t, rfl⟩
   rw [jE e h, List.count_cons_of_ne e, ← ih, h]; rfl
theorem qDf (p : ByteArray) : (parts p).length = p.data.toList.count 47 + 1 := by rw [parts, List.length_map, qUu]
theorem qLb {p : ByteArray} {k : Int} (h : pOk p k = true) : qDu p = (parts p).length := by
 rw [qDu, if_neg (show ¬ p = { data := #[] } from qV0 h), qDf]; rfl
theorem zKq (d : Dk) (p : ByteArray) (k : Int) : may d p k = if d.down = true then 14 else if pOk p 6 = false then 10 else if ((parts p).length : Int) ≤ k then 10 else 0 := by
 unfold may
 cases d.down with
 | true => rfl
 | false =>
  simp only [Bool.false_eq_true, if_false]
  cases h : pOk p 6 with
  | false => simp
  | true => rw [qLb h]; simp
end Go.Dk
end
