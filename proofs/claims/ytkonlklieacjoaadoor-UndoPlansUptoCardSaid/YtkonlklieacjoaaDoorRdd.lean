/-
  What a row's block holds, read.
-/
import Derived.Test.YtkonlklieacjoaaDoorUpl
import Derived.Test.YtkonlklieacjoaaDoorUnB
import Derived.Test.YtkonlklieacjoaaDoorTrO
import Derived.Test.YtkonlklieacjoaaDoorGd
section
set_option linter.unusedSimpArgs false
set_option linter.unusedVariables false
set_option maxRecDepth 20000
namespace Go.Tr
open Go Go.Eng
def awA : ByteArray := { data := #[97] }
def awH : ByteArray := { data := #[104, 105] }
def awC : Chg := ⟨awA, 0, (0, ByteArray.empty), (0, ByteArray.empty), (0, ByteArray.empty), (2, awH), (2, awH), (2, awH)⟩
def awT : List Ent := [(awA, (2, awH))]
theorem zSg : (jE [awC] (awT, awT, awT)).1.1 = [] := by decide +kernel
theorem zSf : (jE [awC] (awT, awT, awT)).1.2.1 = [] := by decide +kernel
theorem zSe : (jE [awC] (awT, awT, awT)).1.2.2 = [] := by decide +kernel
theorem zSd : nJ (jE [awC] (awT, awT, awT)).2 = [] := by decide +kernel
theorem aw2 : nJ (jE [awC] (awT, [], awT)).2 = [awA] := by decide +kernel
theorem qMs : Tree awT := (qGu _).1 (by decide +kernel)
end Go.Tr
namespace Go.Proofs.YtkonlklieacjoaaDoor
open Go Go.Eng Go.RowKit Go.Tr
set_option maxHeartbeats 4000000 in
theorem oF : HFun Tryd.prog 39 [] (fun h st => h = .v (.bool true)) := by
 refine eK (N := 71) Tryd.func39 rfl Tryd.ntmps39 Tryd.results39 (by simp) ?_
 refine zE ?_; refine zJ (fun K hK => ?_); simp (maxSteps := 2000000) (disch := omega) only [push_cast, ↓Int.cast_ofNat_Int, simprocAttr]; refine hK _ ?_; clear hK K
 refine zE ?_; refine zJ (fun K hK => ?_); simp (maxSteps := 2000000) (disch := omega) only [push_cast, ↓Int.cast_ofNat_Int, simprocAttr]; (repeat refine ⟨by first | omega | decide | ((repeat' apply And.intro) <;> first | omega | decide), ?_⟩); refine hK _ ?_; clear hK K
 have he : [[FV.v (.string { data := #[97] }), .v (.int .i64 2), .v (.string { data := #[104, 105] })]] = aH awT := rfl
 rw [he]
 have hg : ∀ d, (aH awT).getD 0 d = [.v (.string awA), .v (.int .i64 2), .v (.string awH)] := fun d => rfl
 have hln : (aH awT).length = 1 := rfl
 refine gR 72 rfl (by simp only [gZ, fQ, eB, fE, dX, kX, fL, fM, dZ, fK, fJ, hD, fN, fH, gW, gX, gY, Nat.reduceEqDiff, reduceIte, List.map_cons, List.map_nil, List.map_append]; exact rfl) ?_
 refine zE ?_
 refine eQ 17 [(16, some 16)] [[], [(16, .bx true 52 [.v (.int .i64 0), .v (.int .i64 0), .v (.int .i64 0), .v (.slice none 0 0)])]] [] mixed (by kernel_rfl) (by kernel_rfl) rfl (fun K hK K1 hK1 => ?_); simp (maxSteps := 2000000) (disch := omega) only [push_cast, ↓Int.cast_ofNat_Int, simprocAttr, hg, hln, yU]
 have hcs : [[FV.v (.string { data := #[97] }), .v (.int .i64 0), .v (.int .i64 0), .v (.string ByteArray.empty), .v (.int .i64 0), .v (.string ByteArray.empty), .v (.int .i64 0), .v (.string ByteArray.empty), .v (.int .i64 2), .v (.string awH), .v (.int .i64 2), .v (.string awH), .v (.int .i64 2), .v (.string awH)]] = chs [awC] := rfl
 rw [hcs]
 refine hK1 _ ?_; clear hK1 K1; with_reducible refine aB ?_; simp (maxSteps := 2000000) (disch := omega) only [push_cast, ↓Int.cast_ofNat_Int, simprocAttr]
 refine hK _ ?_; clear hK K
 refine yB [1, 2] [16] (by simp only [zZ, zR, zP, zQ, zN, zS, zM, zX, zU, Nat.reduceEqDiff, reduceIte]; exact rfl) ?_
 have t3 : Tree3 (awT, awT, awT) := ⟨qMs, qMs, qMs⟩
 have t4 : Tree3 (awT, [], awT) := ⟨qMs, Tree.nil, qMs⟩
 have hsz : ∀ c ∈ [awC], c.p.size ≤ 1048576 := fun c hc => by
  simp only [List.mem_singleton] at hc
  subst hc; decide
 have p1 := qYh 0 0 0 [awC] (awT, awT, awT) t3 (by decide) hsz
 have p2 := qYh 0 0 0 [awC] (awT, [], awT) t4 (by decide) hsz
 rw [zSd] at p1
 rw [aw2] at p2
 have u1 := zSg
 have u2 := zSf
 have u3 := zSe
 generalize (jE [awC] (awT, awT, awT)).1 = U at *
 generalize (jE [awC] (awT, [], awT)).1 = V at *
 obtain ⟨x, y, z⟩ := U
 dsimp only at u1 u2 u3
 subst u1 u2 u3
 have lrec : ∀ st, Lend st (.agg [.v (.int .i64 0), .v (.int .i64 0), .v (.int .i64 0), .lst true (chs [awC])]) (qYe 0 0 0 [awC]) := fun st => .agg rfl fun j h1 h2 => by
  match j, h1 with
  | 0, _ => exact .v _
  | 1, _ => exact .v _
  | 2, _ => exact .v _
  | 3, _ => exact aN (iC _)
 refine zE ?_; refine zJ (fun K hK => ?_); simp (maxSteps := 2000000) (disch := omega) only [push_cast, ↓Int.cast_ofNat_Int, simprocAttr]
 refine hat 256 zN9 p1 (.cons (lrec _) (.cons (eX (aN (yT _)) (aN (yT _)) (aN (yT _))) .nil)) ?_
 rintro _ _ ⟨rfl, rfl⟩
 with_reducible refine aB ?_; simp (maxSteps := 2000000) (disch := omega) only [push_cast, ↓Int.cast_ofNat_Int, simprocAttr]
 refine hK _ ?_; clear hK K
 refine yB [1, 2, 3, 4] [16, 24, 256, 257, 258, 259] (by simp only [zZ, zR, zP, zQ, zN, zS, zM, zX, zU, Nat.reduceEqDiff, reduceIte]; exact rfl) ?_
 refine zE ?_; refine zJ (fun K hK => ?_); simp (maxSteps := 2000000) (disch := omega) only [push_cast, ↓Int.cast_ofNat_Int, simprocAttr]
 refine hat 320 zN9 p2 (.cons (lrec _) (.cons (eX (aN (yT _)) .nil (aN (yT _))) .nil)) ?_
 rintro _ _ ⟨rfl, rfl⟩
 with_reducible refine aB ?_; simp (maxSteps := 2000000) (disch := omega) only [push_cast, ↓Int.cast_ofNat_Int, simprocAttr]
 refine hK _ ?_; clear hK K
 refine yB [0, 3, 4, 6] [24, 256, 257, 258, 259, 323] (by simp only [zZ, zR, zP, zQ, zN, zS, zM, zX, zU, Nat.reduceEqDiff, reduceIte]; exact rfl) ?_
 have e0 : (aH []).length = 0 := rfl
 have s0 : (dH []).length = 0 := rfl
 have s1 : (dH [awA]).length = 1 := rfl
 have sg : ∀ d, (dH [awA]).getD 0 d = [.v (.string awA)] := fun d => rfl
 have sw : Wid 1 (dH [awA]) = True := eH _
 have wz : IntKind.i64.wrap (IntKind.i64.wrap (0 + 0) + 0) = 0 := by decide
 have ea : decide (awA = { data := #[97] }) = true := by decide
 refine zE ?_; refine zJ (fun K hK => ?_); simp (maxSteps := 2000000) (disch := omega) only [push_cast, ↓Int.cast_ofNat_Int, simprocAttr, e0, s0, s1, sg, sw, wz, ea]; (repeat refine ⟨by first | omega | decide | ((repeat' apply And.intro) <;> first | omega | decide), ?_⟩); refine hK _ ?_; clear hK K
 refine zA ?_; refine zW ?_
 simp only [yA, yM, yH, yE, aA, aC, yK, yJ, zS, zM, Nat.reduceEqDiff, reduceIte, reduceCtorEq]
 exact aK rfl
end Go.Proofs.YtkonlklieacjoaaDoor
end
section
set_option linter.unusedSimpArgs false
set_option linter.unusedVariables false
set_option maxRecDepth 20000
namespace Go.Proofs.YtkonlklieacjoaaDoor
open Go Go.Eng Go.RowKit Go.Tr
attribute [local push_cast] qYt qSy qMa wW tG qDg qDf wV vE vF xC tM tR qM pX pJ pQ pN pM pW sV pH jH pV pP pR pS pT pU pL pK oQ oP oJ oK oL oM oN mP mK mR mQ mN mM kA mL mS tK tJ oW oX oV kT kS kR gN gP mH sQ sP jF kQ sE oY sF sD sC sG oZ xS sJ qCi qD1 qUd qCk vX pB vY vW vV vT qH4 pC qCl qCj vS wA qH5 vZ sH vU qDj wY xA tH wZ qMd qDk qMc qDh wX qDi qMb sL pE sN sM qF qE qJj qCq wB qCr wK tA sZ qCx sW sY wL qCy pZ tB wM pY sX qGo qBx qGn qBw vA
attribute [local push_cast] List.take_succ_cons List.take_zero List.drop_succ_cons List.drop_zero true_and and_true Option.isSome_some List.getElem?_cons_zero List.getElem?_cons_succ List.length_cons List.length_nil cond_true cond_false Int.toNat_natCast Nat.mul_one Nat.add_zero Nat.zero_add Addr.add_lit bne_self_eq_false beq_self_eq_true Bool.not_true Bool.not_false List.size_toArray Array.getD_eq_getD_getElem? List.getElem?_toArray Option.getD_some decide_true decide_false eq_self Bool.true_beq Bool.false_beq
set_option maxHeartbeats 2000000 in
theorem qY1 (w : World) (g c : Nat) (t : List Ent) (ad : Option Addr) (cd : Nat) (hl : t.length ≤ 1048576) (h1 : RepH w (fun _ => False) w.heap.size (fun _ => undef) (.slice (some ⟨g, 0, none⟩) t.length c) (.lst false (aH t)))
  (h2 : RepH w (fun _ => False) w.heap.size (fun _ => undef) (.slice ad t.length cd) (.lst false (aH t))) (hc : t.length + 1 ≤ c) (hcell : w.cell? ⟨g, t.length * 3, none⟩ = some (.string spare.1)) :
  Calls Tryd.prog 19 #[.slice (some ⟨g, 0, none⟩) t.length c, .slice ad t.length cd] w (Ret fun r w' => r = .bool true ∧ Below w.heap.size w w') := by
 refine qDo (args := [_, _]) Tryd.func19 rfl Tryd.ntmps19 Tryd.results19 (by simp) ?_
 have c22 := qGf t t (by omega)
 rw [decide_eq_true rfl] at c22
 refine bK ?_; refine cN (fun K hK => ?_); simp only [push_cast, Nat.reduceBEq, Nat.reduceAdd, Nat.reduceLT, Nat.reduceEqDiff, reduceIte, reduceCtorEq, Nat.reduceLeDiff, Nat.reduceSub]; refine hK _ _ ?_; clear hK K
 refine bK ?_; refine cN (fun K hK => ?_); simp only [push_cast, Nat.reduceBEq, Nat.reduceAdd, Nat.reduceLT, Nat.reduceEqDiff, reduceIte, reduceCtorEq, Nat.reduceLeDiff, Nat.reduceSub]
 refine ⟨qZf, Ret.mono (c22 w [_, _] ⟨rfl, fun i h1' h2' => ?_⟩) ?_⟩
 ·match i, h1' with
  | 0, _ => exact h1
  | 1, _ => exact h2
 rintro u w1 ⟨B, h, st, h8, rfl, ρ', xs', G', hr⟩
 have hu := cC hr
 subst hu
 have hcell1 := mB B hcell
 have hw : IntKind.i64.wrap ((t.length : Int) + 1) = (t.length : Int) + 1 := qA1 (by omega) (by omega)
 have hx : ((t.length : Int) + 1).toNat = t.length + 1 := by omega
 have hsub : gJ (some ⟨g, 0, none⟩) c (Int.toNat 0) 3 = some ⟨g, 0, none⟩ := by
  rw [gJ, if_neg (show ¬ c = Int.toNat 0 by show ¬ c = 0; omega)]
  rfl
 have e1 : t.length + 1 - Int.toNat 0 = t.length + 1 := rfl
 have e2 : c - Int.toNat 0 = c := rfl
 have e3 : decide (spare.1 = ({ data := #[115, 112, 97, 114, 101] } : ByteArray)) = true := by decide +kernel
 refine v2s ?_; try simp only [push_cast, Nat.reduceBEq, Nat.reduceAdd, Nat.reduceLT, Nat.reduceEqDiff, reduceIte, reduceCtorEq, Nat.reduceLeDiff, Nat.reduceSub, qGp, hw, hx, hc, kt9, qY9, hsub, e1, e2, hcell1, e3]
 refine ⟨by omega, by omega, ?_⟩
 refine hK _ _ ?_; clear hK K
 refine zV ?_; refine qA0 ?_
 simp only [qNh, lH, tup, lk, Nat.reduceEqDiff, reduceIte, reduceCtorEq]
 exact ⟨by trivial, B⟩
theorem zFj {w : World} {A : Nat → Prop} {n0 : Nat} {ρ : Nat → Value} {v : Value} {id g n cap m sz : Nat} (h : RepH w A n0 ρ v (.vw id sz 0 m)) (hg : ρ id = .slice (some ⟨g, 0, none⟩) n cap) (hm : m + 1 ≤ cap) : ∃ c1, v = .slice (some ⟨g, 0, none⟩) m c1 ∧ m + 1 ≤ c1 := by
 cases h with
 | vw _ _ _ hρ h1 hc hn hx ha =>
  rw [hg] at hρ
  simp only [Value.slice.injEq] at hρ
  obtain ⟨rfl, rfl, rfl⟩ := hρ
  obtain ⟨g', eg, rfl⟩ := ha (by omega)
  simp only [Option.some.injEq, Addr.mk.injEq] at eg
  obtain ⟨rfl, -, -⟩ := eg
  exact ⟨cap, by rw [Nat.zero_mul, hc, Nat.sub_zero], hm⟩
theorem zD7 {w : World} {A : Nat → Prop} {n0 : Nat} {ρ : Nat → Value} {v : Value} {fr : Bool} {t : List Ent} (h : RepH w A n0 ρ v (.lst fr (aH t))) : ∃ ad cd, v = .slice ad t.length cd := by
 generalize hx : aH t = xs at h
 cases h with
 | lst hF =>
  cases hF with
  | lst sz vals hn =>
   subst hx
   rw [yV] at hn
   subst hn
   exact ⟨_, _, rfl⟩
section
variable {S : HS} {id : Nat} {t : List Ent} {h2 : HV}
theorem zHt (hl : t.length ≤ 1048576) (hr : rlk S.st id = some (aY (t ++ [spare]))) (L2 : Lend S.st h2 (.lst false (aH t)))
  {c : Ctx} {look : Nat → Option Value} {w : World} {ρ : Nat → Value} {xs : Nat → List Value} {vs : List Value} (G : Eng.Good c S look w ρ xs) (R : tU w (c.A ρ S.st) c.n0 ρ vs [.vw id 3 0 t.length, h2]) :
  Calls Tryd.prog 19 vs.toArray w (Ret fun v w' => v = .bool true ∧ Below w.heap.size w w') := by
 obtain ⟨R1, R2⟩ := R
 match vs, R1 with
 | [v0, v1], _ =>
 have r0 := R2 0 (by simp) (by simp)
 have r1 := R2 1 (by simp) (by simp)
 simp only [List.getElem_cons_zero, List.getElem_cons_succ] at r0 r1
 have l0 := qJ0 G r0 (qCt (ys := aH t) (by rw [List.drop_zero, lX, List.take_left' rfl, yT]) hr)
 have l1 := qJ0 G r1 L2
 obtain ⟨o1, o2, o3⟩ := cX G hr
 rw [yV, List.length_append] at o1
 obtain ⟨g, cap, hg, hcap, -, hcell⟩ := eJ o1 (by simp)
 have hsp : w.cell? ⟨g, t.length * 3, none⟩ = some (.string spare.1) := by
  obtain ⟨u, u1, -, u3⟩ := o3 t.length 0 (by rw [yV]; simp) (by rw [o2 _ (List.getElem_mem _)]; omega)
  have e : (aH (t ++ [spare]))[t.length]'(by rw [yV]; simp) = qNi spare := by simp [aH]
  have e2 : ((aH (t ++ [spare]))[t.length]'(by rw [yV]; simp))[0]'(by rw [e]; simp [qNi]) = .v (.string spare.1) := by simp only [e]; rfl
  rw [e2] at u3
  cases u3
  exact hcell _ _ u1
 have hcap' : t.length + 1 ≤ cap := by simpa using hcap
 obtain ⟨c1, rfl, hc1⟩ : ∃ c1, v0 = .slice (some ⟨g, 0, none⟩) t.length c1 ∧ t.length + 1 ≤ c1 := zFj r0 hg hcap'
 obtain ⟨ad, cd, rfl⟩ : ∃ ad cd, v1 = .slice ad t.length cd := zD7 l1
 exact qY1 w g c1 t ad cd hl l0 l1 hc1 hsp
theorem qS6 (hl : t.length ≤ 1048576) {K : HV → HS → Prop} (hr : rlk S.st id = some (aY (t ++ [spare]))) (L2 : Lend S.st h2 (.lst false (aH t))) (hK : K (.v (.bool true)) S) : HAt Tryd.prog 19 [.vw id 3 0 t.length, h2] S K :=
 ⟨zSc, fun c look w ρ xs vs G R => Ret.mono (zHt hl hr L2 G R) fun v w' ⟨e, B⟩ => ⟨_, _, hK, ρ, xs, G.below B, by subst e; exact .v _⟩⟩
end
end Go.Proofs.YtkonlklieacjoaaDoor
end
section
set_option linter.unusedSimpArgs false
set_option linter.unusedVariables false
namespace Go.Eng
open Go Go.RowKit
def Rd (w : World) (v : Value) (xs : List Value) : Prop := ∀ b, v.ownBlock = some b → ∀ (p : Nat) (u : Value), xs[p]? = some u → w.cell? ⟨b, p, none⟩ = some u
theorem Own.rd {w : World} {v : Value} {xs : List Value} {base te sz n : Nat} (h : Own w base te sz v n xs) : Rd w v xs := by
 intro b hb p u hu
 have hl := h.1
 have hh := h
 rcases h.2 with ⟨rfl, _⟩ | ⟨g, cap, cur, rfl, _⟩
 ·cases hb
 ·cases hb
  rw [World.ownsRow.cellAt hh p (by have := (List.getElem?_eq_some_iff.1 hu).1; omega), hu]
end Go.Eng
end
