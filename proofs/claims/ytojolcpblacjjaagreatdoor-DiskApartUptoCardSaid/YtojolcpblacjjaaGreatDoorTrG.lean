/-
  path.Name, walked.
-/
import Derived.Test.YtojolcpblacjjaaGreatDoorTrF
import Derived.Laws.RangeAny
set_option linter.unusedSimpArgs false
set_option linter.unusedVariables false
set_option maxRecDepth 20000
namespace Go.Tr
open Go
theorem qWp (c : UInt8) : okC c = (decide (97 ≤ c.toNat ∧ c.toNat ≤ 122) || decide (48 ≤ c.toNat ∧ c.toNat ≤ 57) || decide (c.toNat = 95)) := by
 have e : ∀ a b : UInt8, decide (a ≤ b) = decide (a.toNat ≤ b.toNat) := fun a b => rfl
 have e2 : decide (c = 95) = decide (c.toNat = 95) := by
  rw [decide_eq_decide]
  exact ⟨fun h => by rw [h]; rfl, fun h => UInt8.toNat_inj.1 h⟩
 rw [okC, e2, Bool.decide_and, Bool.decide_and, e, e, e, e]
 rfl
def lQ (r : Int) : Bool := ((decide (r < 97) || decide (122 < r)) && (decide (r < 48) || decide (57 < r))) && !decide (r = 95)
theorem qYd (c : UInt8) : lQ (c.toNat : Int) = !okC c := by
 rw [qWp, lQ]
 rw [Bool.eq_iff_iff]
 simp
 omega
theorem zAg {r : Nat} (h : 128 ≤ r) : lQ (r : Int) = true := by
 rw [lQ]; simp; omega
end Go.Tr
namespace Go.Proofs.YtojolcpblacjjaaGreatDoor
open Go Go.Eng Go.RowKit Go.Tr
attribute [local push_cast] zHd zFh qBq qJl qBr qPu qPt qJk qEa qEb qJs qBw qB0 wT wE vR vX vV vU wD qBf vQ oG wC vW vY vZ wA wB vT vS uZ uY uT uU uV uW uX rW rR rY rX rV rU rT rS rZ qBu qBt vF vG vE qF qE qD kW kX rQ qA8 qA7 oE qC qAy vJ qAz qAx qAw qA0 vK qN8 qA2 qN7 qUn zBo qPa qFd vL qFe qFc qFb qE9 qUl vM qPb qN9 qE8 qFg qUm qFf qA1 qFa qPx qJn qJp qBs qJo qVj qPy qVi qPv qJm qPw qVh qA3 vN qA6 qA5 wP wN qUu qPf qFr qPg qF7 qBk qBj qPm qBg qBi qF8 qPn wG qBl qF9 wF qBh qTz qNo qTy qNn qD3
attribute [local push_cast] List.take_succ_cons List.take_zero List.drop_succ_cons List.drop_zero true_and and_true Option.isSome_some List.getElem?_cons_zero List.getElem?_cons_succ List.length_cons List.length_nil cond_true cond_false Int.toNat_natCast Nat.mul_one Nat.add_zero Nat.zero_add Addr.add_lit bne_self_eq_false beq_self_eq_true Bool.not_true Bool.not_false List.size_toArray Array.getD_eq_getD_getElem? List.getElem?_toArray Option.getD_some decide_true decide_false eq_self Bool.true_beq Bool.false_beq
theorem zBp (P : Program) (l : Env) (t : TypeId) (x : Operand) : aX P l (.range t x) = none := rfl
theorem qZx (P : Program) (l : Env) (w : World) (t : TypeId) (x : Operand) : imm P l (.range t x) w = .eff := rfl
theorem qWj (P : Program) (l : Env) (x : Operand) (b : Bool) : aX P l (.next x b) = none := rfl
theorem qRq (P : Program) (l : Env) (w : World) (x : Operand) (b : Bool) : imm P l (.next x b) w = .eff := rfl
theorem zD2 {P : Program} {l : Env} {t ty : TypeId} {x : Operand} {s : ByteArray} {w : World} {K KL : Value → World → Prop} (hu : rE P t = true) (hx : ev l x = some (.string s)) (h : KL (.pointer (some ⟨w.heap.size, 0, none⟩)) (w.iter s 0)) : cC P l (.range t x) ty w K KL := by
 refine ⟨fun y hy => ?_, .pointer (some ⟨w.heap.size, 0, none⟩), w.iter s 0, ?_, h⟩
 ·simp [Op.operands] at hy
  subst hy; rw [hx]; rfl
 ·have := run_range_string w t s (lR hu)
  simp [execOp, qJ7, evD, hx, this]
theorem qX5 {P : Program} {l : Env} {ty : TypeId} {x : Operand} {p v : Value} {w w' : World} {K KL : Value → World → Prop} (hr : ∀ ty, (Instr.next p true ty).run P w = .ok v w') (hx : ev l x = some p) (h : KL v w') : cC P l (.next x true) ty w K KL := by
 refine ⟨fun y hy => ?_, v, w', ?_, h⟩
 ·simp [Op.operands] at hy
  subst hy; rw [hx]; rfl
 ·simp [execOp, qJ7, evD, hx, hr]
theorem mW (w : World) (s : ByteArray) (k : Nat) : Below w.heap.size w (w.iter s k) := (Below.refl _ w).alloc (Nat.le_refl _) _
theorem qNd (s : ByteArray) (i : Nat) (h : i < s.size) : s.data.toList[i]'(by rw [← Lib.size_eq]; exact h) = s[i] := rfl
set_option maxHeartbeats 4000000 in
theorem qUv (s : ByteArray) (hs : s.size ≤ 1048576) (w : World) : Calls Tryz.prog 75 #[.string s] w (Ret fun r w' => r = .bool (dN s) ∧ Below w.heap.size w w') := by
 refine qDs (args := [_]) Tryz.func75 rfl Tryz.ntmps75 Tryz.results75 (by simp) ?_
 refine eM ?_; refine iE (fun K hK => ?_); simp only [push_cast, simprocAttr]; refine hK _ _ ?_; clear hK K
 by_cases h0 : s = { data := #[] }
 ·have hd : decide (s = { data := #[] }) = true := decide_eq_true h0
  refine eM ?_; refine eM ?_; refine iE (fun K hK => ?_); simp only [push_cast, simprocAttr, hd]; refine hK _ _ ?_; clear hK K
  refine zV ?_
  refine jX rfl (fun _ => ?_) (fun h => by cases h)
  refine eM ?_; refine iE (fun K hK => ?_); simp only [push_cast, simprocAttr]; refine hK _ _ ?_; clear hK K
  refine zV ?_; refine qAh ?_; refine yN ?_
  simp only [qS4, jR, tup, lk, Nat.reduceEqDiff, reduceIte, reduceCtorEq]
  refine ⟨?_, Below.refl _ _⟩
  rw [h0]; rfl
 have hd : decide (s = { data := #[] }) = false := decide_eq_false h0
 have hz : 1 ≤ s.size := by
  rcases Nat.eq_zero_or_pos s.size with h | h
  ·exact absurd (ByteArray.size_eq_zero_iff.1 h) h0
  ·exact h
 refine eM ?_; refine eM ?_; refine iE (fun K hK => ?_); simp only [push_cast, simprocAttr, hd]; refine hK _ _ ?_; clear hK K
 refine zV ?_
 refine jX rfl (fun h => ?_) (fun h => ?_)
 ·refine eM ?_; refine iE (fun K hK => ?_); simp only [push_cast, simprocAttr]; refine hK _ _ ?_; clear hK K
  refine zV ?_; refine qAh ?_; refine yN ?_
  simp only [qS4, jR, tup, lk, Nat.reduceEqDiff, reduceIte, reduceCtorEq]
  refine ⟨?_, Below.refl _ _⟩
  have : ¬ s.size ≤ 12 := by simp at h; omega
  simp [dN, this]
 have hz2 : s.size ≤ 12 := by simp at h; omega
 refine wU ?_; refine eM ?_; refine eM ?_
 refine iE (fun K hK => ?_); simp only [push_cast, simprocAttr, zBp, qZx]
 refine zD2 st9 rfl ?_
 refine v2s ?_; try simp only [push_cast, simprocAttr]
 refine hK _ _ ?_; clear hK K
 refine zHy (l' := _) [0, 13] (by simp only [keep, lk, Nat.reduceEqDiff, reduceIte]; exact rfl) ?_
 skip
 refine qDu ?_
 refine qVt (fun i : Nat => [(0, .string s), (13, .pointer (some ⟨w.heap.size, 0, none⟩))]) (fun i w1 => i ≤ s.size ∧ w1 = w.iter s i ∧ (s.data.toList.take i).all okC = true) (fun i => s.size - i) [0, 13] 0 rfl ⟨Nat.zero_le _, rfl, rfl⟩ ?_
 rintro i _ ⟨hi, rfl, ha⟩
 by_cases hlt : i < s.size
 ·refine eM ?_; refine iE (fun K hK => ?_); simp only [push_cast, simprocAttr, qWj, qRq]
  refine qX5 (fun _ => run_next_any w s i _ hlt) rfl ?_
  have hd1 : 1 ≤ (Utf8.decode s i).2 ∧ (lQ (Utf8.decode s i).1 = true → okC s[i] = false) ∧ (lQ (Utf8.decode s i).1 = false → (Utf8.decode s i).2 = 1 ∧ okC s[i] = true) := by
   by_cases h128 : (s[i]).toNat < 128
   ·rw [decode_ascii s i hlt h128]
    refine ⟨Nat.le_refl _, fun h => ?_, fun h => ⟨rfl, ?_⟩⟩ <;> rw [qYd] at h <;> simpa using h
   ·have hh := decode_high s i hlt (by omega)
    refine ⟨hh.2, fun _ => ?_, fun h => ?_⟩
    ·rw [qWp]; simp; omega
    ·rw [zAg hh.1] at h; cases h
  generalize hdec : Utf8.decode s i = d at hd1 ⊢
  obtain ⟨r, k⟩ := d
  obtain ⟨d1, d2, d3⟩ := hd1
  simp only at d1 d2 d3
  refine v2s ?_; try simp only [push_cast, simprocAttr]
  refine hK _ _ ?_; clear hK K
  refine eM ?_
  refine jX rfl (fun _ => ?_) (fun h => by cases h)
  refine wU ?_; refine zV ?_
  refine qDu ?_
  refine eM ?_; refine iE (fun K hK => ?_); simp only [push_cast, simprocAttr]; refine hK _ _ ?_; clear hK K
  have bad : ∀ {Q : Prop}, lQ r = true → (dN s = false → Q) → Q := fun {Q} hb f => f (by
   have hk := d2 hb
   have hm : s[i] ∈ s.data.toList := by
    rw [← qNd s i hlt]; exact List.getElem_mem _
   have : s.data.toList.all okC = false := by
    rw [Bool.eq_false_iff]
    intro hall
    rw [List.all_eq_true.1 hall _ hm] at hk; cases hk
   rw [dN, this]; simp)
  have good : lQ r = false → k = 1 ∧ (s.data.toList.take (i + 1)).all okC = true := fun hb => by
   obtain ⟨e1, e2⟩ := d3 hb
   refine ⟨e1, ?_⟩
   rw [List.take_succ_eq_append_getElem (by rw [← Lib.size_eq]; exact hlt), List.all_append, ha, qNd s i hlt]
   simp [e2]
  have cases7 : (r < 48 ∧ lQ r = true) ∨ (48 ≤ r ∧ r ≤ 57 ∧ lQ r = false) ∨ (57 < r ∧ r < 95 ∧ lQ r = true) ∨ (r = 95 ∧ lQ r = false) ∨ (r = 96 ∧ lQ r = true) ∨ (97 ≤ r ∧ r ≤ 122 ∧ lQ r = false) ∨ (122 < r ∧ lQ r = true) := by
   unfold lQ
   simp
   omega
  rcases cases7 with ⟨c1, hb⟩ | ⟨c1, c2, hb⟩ | ⟨c1, c2, hb⟩ | ⟨c1, hb⟩ | ⟨c1, hb⟩ | ⟨c1, c2, hb⟩ | ⟨c1, hb⟩
  ·refine bad hb fun hbad => ?_
   refine eM ?_; refine iE (fun K hK => ?_); simp (disch := omega) only [push_cast, ↓Int.cast_ofNat_Int, simprocAttr]; refine hK _ _ ?_; clear hK K
   refine zV ?_
   refine jX rfl (fun _ => ?_) (fun h => by cases h)
   refine eM ?_; refine iE (fun K hK => ?_); simp only [push_cast, simprocAttr]; refine hK _ _ ?_; clear hK K
   refine zV ?_; refine qAh ?_; refine yS ?_; refine yN ?_; refine yS ?_; refine yN ?_
   simp only [qS4, jR, tup, lk, Nat.reduceEqDiff, reduceIte, reduceCtorEq]
   exact ⟨by rw [hbad], mW _ _ _⟩
  ·obtain ⟨rfl, ha2⟩ := good hb
   refine eM ?_; refine iE (fun K hK => ?_); simp (disch := omega) only [push_cast, ↓Int.cast_ofNat_Int, simprocAttr]; refine hK _ _ ?_; clear hK K
   refine zV ?_
   refine jX rfl (fun h => by cases h) (fun _ => ?_)
   refine wU ?_; refine zY ?_; refine zV ?_
   exact ⟨i + 1, rfl, ⟨hlt, rfl, ha2⟩, by omega⟩
  ·refine bad hb fun hbad => ?_
   refine eM ?_; refine iE (fun K hK => ?_); simp (disch := omega) only [push_cast, ↓Int.cast_ofNat_Int, simprocAttr]; refine hK _ _ ?_; clear hK K
   refine zV ?_
   refine jX rfl (fun _ => ?_) (fun h => by cases h)
   refine eM ?_; refine iE (fun K hK => ?_); simp only [push_cast, simprocAttr]; refine hK _ _ ?_; clear hK K
   refine zV ?_; refine qAh ?_; refine yS ?_; refine yN ?_; refine yS ?_; refine yN ?_
   simp only [qS4, jR, tup, lk, Nat.reduceEqDiff, reduceIte, reduceCtorEq]
   exact ⟨by rw [hbad], mW _ _ _⟩
  ·obtain ⟨rfl, ha2⟩ := good hb
   refine eM ?_; refine iE (fun K hK => ?_); simp (disch := omega) only [push_cast, ↓Int.cast_ofNat_Int, simprocAttr]; refine hK _ _ ?_; clear hK K
   refine zV ?_
   refine jX rfl (fun h => by cases h) (fun _ => ?_)
   refine wU ?_; refine zY ?_; refine zV ?_
   exact ⟨i + 1, rfl, ⟨hlt, rfl, ha2⟩, by omega⟩
  ·refine bad hb fun hbad => ?_
   refine eM ?_; refine iE (fun K hK => ?_); simp (disch := omega) only [push_cast, ↓Int.cast_ofNat_Int, simprocAttr]; refine hK _ _ ?_; clear hK K
   refine zV ?_
   refine jX rfl (fun _ => ?_) (fun h => by cases h)
   refine eM ?_; refine iE (fun K hK => ?_); simp only [push_cast, simprocAttr]; refine hK _ _ ?_; clear hK K
   refine zV ?_; refine qAh ?_; refine yS ?_; refine yN ?_; refine yS ?_; refine yN ?_
   simp only [qS4, jR, tup, lk, Nat.reduceEqDiff, reduceIte, reduceCtorEq]
   exact ⟨by rw [hbad], mW _ _ _⟩
  ·obtain ⟨rfl, ha2⟩ := good hb
   refine eM ?_; refine iE (fun K hK => ?_); simp (disch := omega) only [push_cast, ↓Int.cast_ofNat_Int, simprocAttr]; refine hK _ _ ?_; clear hK K
   refine zV ?_
   refine jX rfl (fun h => by cases h) (fun _ => ?_)
   refine wU ?_; refine zY ?_; refine zV ?_
   exact ⟨i + 1, rfl, ⟨hlt, rfl, ha2⟩, by omega⟩
  ·refine bad hb fun hbad => ?_
   refine eM ?_; refine iE (fun K hK => ?_); simp (disch := omega) only [push_cast, ↓Int.cast_ofNat_Int, simprocAttr]; refine hK _ _ ?_; clear hK K
   refine zV ?_
   refine jX rfl (fun _ => ?_) (fun h => by cases h)
   refine eM ?_; refine iE (fun K hK => ?_); simp only [push_cast, simprocAttr]; refine hK _ _ ?_; clear hK K
   refine zV ?_; refine qAh ?_; refine yS ?_; refine yN ?_; refine yS ?_; refine yN ?_
   simp only [qS4, jR, tup, lk, Nat.reduceEqDiff, reduceIte, reduceCtorEq]
   exact ⟨by rw [hbad], mW _ _ _⟩
 ·have hne : i = s.size := by omega
  subst hne
  refine eM ?_; refine iE (fun K hK => ?_); simp only [push_cast, simprocAttr, qWj, qRq]
  refine qX5 (fun _ => run_next_end w s _ _ hlt) rfl ?_
  refine v2s ?_; try simp only [push_cast, simprocAttr]
  refine hK _ _ ?_; clear hK K
  refine eM ?_
  refine jX rfl (fun h => by cases h) (fun _ => ?_)
  refine qVu ?_; refine yP ?_; refine yP ?_; refine yQ ?_; refine eM ?_
  refine iE (fun K hK => ?_); simp only [push_cast, simprocAttr]; refine hK _ _ ?_; clear hK K
  refine zV ?_; refine qAh ?_
  simp only [qS4, jR, tup, lk, Nat.reduceEqDiff, reduceIte, reduceCtorEq]
  refine ⟨?_, mW _ _ _⟩
  rw [Lib.size_eq, List.take_length] at ha
  rw [dN, ha]
  have e1 : s.size = s.data.toList.length := Lib.size_eq s
  simp
  omega
theorem zFb (s : ByteArray) (hs : s.size ≤ 1048576) : HFun Tryz.prog 75 [.v (.string s)] (fun h st => h = .v (.bool (dN s))) := by
 refine (yV fun w vs R => ?_).mono fun h st q => q.1
 obtain ⟨r1, r2⟩ := R
 match vs, r1 with
 | [x], _ =>
 have ha := bN (r2 0 (by simp) (by simp))
 simp only [List.getElem_cons_zero] at ha
 subst ha
 exact qUv s hs w
end Go.Proofs.YtojolcpblacjjaaGreatDoor
