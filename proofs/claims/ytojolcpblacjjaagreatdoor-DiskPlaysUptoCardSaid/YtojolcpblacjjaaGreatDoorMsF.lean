/-
  A call that is handed some of the maps: the others stay ay they are.
-/
import Derived.Test.YtojolcpblacjjaaGreatDoorApm
import Derived.Test.YtojolcpblacjjaaGreatDoorSmH
import Derived.Test.YtojolcpblacjjaaGreatDoorMt
section
set_option linter.unusedSimpArgs false
set_option linter.unusedVariables false
set_option maxRecDepth 20000
namespace Go.Eng
open Go Go.RowKit
theorem qU4 {P : Program} {N : Nat} {x : Code} {Q : kK} {g : MS} {S S' : HS} (a b : Nat) {ty sz : Nat} {nw : Bool} {els : List (List FV)} (hab : a ≠ b) (hb : rlk S.st b = none) (ha : rlk S.st a = some (.sl nw ty sz els)) (hs : S.name a b = S') (h : HWM P N x Q g S') : HWM P N x Q g S := fun c l w I M => h c l w (hs ▸ I.name hab hb ha) M
end Go.Eng
namespace Go.Proofs.YtojolcpblacjjaaGreatDoor
open Go Go.Eng Go.RowKit Go.Tr Go.Dk
set_option maxHeartbeats 16000000 in
theorem qCd (d : Dk) (R : LN) (fr nw : Bool) (B : Int) (ok : d.Ok B) (hB : B ≤ 1099511627776) (rok : ROk d R) (p : ByteArray) (hp : p.size ≤ 1048576) (r1 r2 : Nat) :
  HFunM Tryz.prog 9 [.ptr 0 6 0 0, .ptr 1 6 0 0, .v (.string p)] [(0, .bx false 47 (d.cells r1 r2)), (1, .bx false 35 (rcj d fr 2)), (2, .sl nw 76 2 (rms R))] (d.maps kS r1 r2)
   (fun h st g => h = .v (.bool true) ∧ st = [(0, .bx false 47 (d.cells r1 r2)), (1, .bx false 35 (rcj d fr 2)), (2, .sl nw 76 2 (rms R))] ∧ g = d.maps kS r1 r2) := by
 refine iU (N := 107) Tryz.func9 rfl Tryz.ntmps9 Tryz.results9 (by simp) ?_
 have crd := zCg d p r1 r2 hp
 have rrd := zF4 d R p rok.l4
 have cli := qV5 d B ok hB p hp rok.l4 r1 r2
 have rli := qQn d R p rok.l4 rok.keys
 have ckd := zDa d p r1 r2 hp
 have rkd := kZ d R p rok.l4
 have cst := zFw d p r1 r2 hp
 have rst' := zB6 d R p rok.l4
 have cus := qVa d B ok hB p r1 r2
 have rus := qW8 d R p rok.l4 rok.keys rok.t2
 have est := zFv d r1 r2
 have edn := zJf d r1 r2
 have hz0 : ({ data := #[] } : ByteArray).size ≤ 1048576 := by decide
 have cl0 := qV5 d B ok hB { data := #[] } hz0 rok.l4 r1 r2
 have rl0 := qQn d R { data := #[] } rok.l4 rok.keys
 have hle : ∀ q, (mF d q).length ≤ 4194304 := fun q => by
  unfold mF
  rw [List.length_map]
  exact Nat.le_trans (List.length_filter_le _ _) rok.l4
 have hl1 := hle p
 have hl2 := hle { data := #[] }
 obtain ⟨⟨ra, rb⟩, hrd⟩ : ∃ z, nX d p = z := ⟨_, rfl⟩
 rw [hrd] at crd rrd
 obtain ⟨kk, hkk⟩ : ∃ kk, hZ d p = kk := ⟨_, rfl⟩
 obtain ⟨ss, hss⟩ : ∃ ss, qQd d p = ss := ⟨_, rfl⟩
 obtain ⟨uu, huu⟩ : ∃ uu, used d p = uu := ⟨_, rfl⟩
 rw [hkk] at ckd rkd
 rw [hss] at cst rst'
 rw [huu] at cus rus
 obtain ⟨l1, hll1⟩ : ∃ l1, mF d p = l1 := ⟨_, rfl⟩
 obtain ⟨l2, hll2⟩ : ∃ l2, mF d { data := #[] } = l2 := ⟨_, rfl⟩
 rw [hll1] at cli rli hl1
 rw [hll2] at cl0 rl0 hl2
 have sm1 := qW9 l1 l1 (by omega) (by omega)
 have sm2 := qW9 l2 l2 (by omega) (by omega)
 rw [decide_eq_true (show l1 = l1 from rfl)] at sm1
 rw [decide_eq_true (show l2 = l2 from rfl)] at sm2
 have hx1 : decide (ra = ra) = true := decide_eq_true rfl
 have hx2 : decide (rb = rb) = true := decide_eq_true rfl
 have hx3 : decide (kk = kk) = true := decide_eq_true rfl
 have hx4 : decide (ss = ss) = true := decide_eq_true rfl
 have hx5 : decide (uu = uu) = true := decide_eq_true rfl
 have hx6 : decide (d.steps = d.steps) = true := decide_eq_true rfl
 simp only [bG, rcj] at crd cli ckd cst cus cl0 ⊢
 refine aA ?_; refine aC (fun K hK => ?_); simp (disch := omega) only [push_cast, ↓Int.cast_ofNat_Int, simprocAttr]; refine hK _ ?_; clear hK K
 refine aA ?_; refine bF ?_; refine aH 2 (fun K1 hK1 => ?_); simp (disch := omega) only [push_cast, ↓Int.cast_ofNat_Int, simprocAttr]; refine hK1 _ ?_; (try clear hK1 K1)
 refine bW 128 [0] zLo (crd) rfl rfl rfl rfl (by simp only [push_cast, simprocAttr]; exact rfl) (by decide) (by decide) (by decide) (by simp only [push_cast, simprocAttr]; try rfl) (by simp only [push_cast, simprocAttr]; try rfl) ?_
 rintro _ _ _ ⟨rfl, rfl, rfl⟩
 refine aH 5 (fun K1 hK1 => ?_); simp (disch := omega) only [push_cast, ↓Int.cast_ofNat_Int, simprocAttr, aF, aD]; refine hK1 _ ?_; (try clear hK1 K1)
 refine aW ?_
 refine aT [0, 1, 2, 7, 8] [0, 1, 2] (by simp only [zZ, zR, zP, zQ, zN, zS, zM, zX, zU, Nat.reduceEqDiff, reduceIte]; exact rfl) ?_
 refine aA ?_; refine aC (fun K hK => ?_); simp (disch := omega) only [push_cast, ↓Int.cast_ofNat_Int, simprocAttr]
 refine zJa zMo rrd (.cons (dL rfl rfl) (.cons (.v _) .nil)) ?_
 with_reducible refine aM ?_; simp (disch := omega) only [push_cast, ↓Int.cast_ofNat_Int, simprocAttr]
 refine hK _ ?_; clear hK K
 refine aT [0, 1, 2, 7, 8, 9, 10] [0, 1, 2] (by simp only [zZ, zR, zP, zQ, zN, zS, zM, zX, zU, Nat.reduceEqDiff, reduceIte]; exact rfl) ?_
 refine aA ?_; refine bF ?_; refine aH 2 (fun K1 hK1 => ?_); simp (disch := omega) only [push_cast, ↓Int.cast_ofNat_Int, simprocAttr]; refine hK1 _ ?_; (try clear hK1 K1)
 refine bW 216 [0] zGz (cli) rfl rfl rfl rfl (by simp only [push_cast, simprocAttr]; exact rfl) (by decide) (by decide) (by decide) (by simp only [push_cast, simprocAttr]; try rfl) (by simp only [push_cast, simprocAttr]; try rfl) ?_
 rintro _ _ _ ⟨rfl, rfl, rfl⟩
 refine aH 2 (fun K1 hK1 => ?_); simp (disch := omega) only [push_cast, ↓Int.cast_ofNat_Int, simprocAttr, aF, aD]; refine hK1 _ ?_; (try clear hK1 K1)
 refine bW 240 [0] zGz (cli) rfl rfl rfl rfl (by simp only [push_cast, simprocAttr]; exact rfl) (by decide) (by decide) (by decide) (by simp only [push_cast, simprocAttr]; try rfl) (by simp only [push_cast, simprocAttr]; try rfl) ?_
 rintro _ _ _ ⟨rfl, rfl, rfl⟩
 refine aH 2 (fun K1 hK1 => ?_); simp (disch := omega) only [push_cast, ↓Int.cast_ofNat_Int, simprocAttr, aF, aD]; refine hK1 _ ?_; (try clear hK1 K1)
 refine aW ?_
 refine aT [0, 1, 2, 7, 8, 9, 10, 11, 12] [0, 1, 2, 217, 241] (by simp only [zZ, zR, zP, zQ, zN, zS, zM, zX, zU, Nat.reduceEqDiff, reduceIte]; exact rfl) ?_
 refine aA ?_; refine aA ?_; refine bF ?_; refine aH 11 (fun K1 hK1 => ?_); simp (disch := omega) only [push_cast, ↓Int.cast_ofNat_Int, simprocAttr, hx1, hx2]; refine hK1 _ ?_; (try clear hK1 K1)
 refine bW 336 [0] zLm (ckd) rfl rfl rfl rfl (by simp only [push_cast, simprocAttr]; exact rfl) (by decide) (by decide) (by decide) (by simp only [push_cast, simprocAttr]; try rfl) (by simp only [push_cast, simprocAttr]; try rfl) ?_
 rintro _ _ _ ⟨rfl, rfl, rfl⟩
 refine aH 3 (fun K1 hK1 => ?_); simp (disch := omega) only [push_cast, ↓Int.cast_ofNat_Int, simprocAttr, aF, aD]
 refine cG mU rkd (.cons (dL rfl rfl) (.cons (.v _) .nil)) ?_
 with_reducible refine aM ?_; simp (disch := omega) only [push_cast, ↓Int.cast_ofNat_Int, simprocAttr]
 refine hK1 _ ?_; (try clear hK1 K1)
 refine aH 5 (fun K1 hK1 => ?_); simp (disch := omega) only [push_cast, ↓Int.cast_ofNat_Int, simprocAttr, aF, aD, hx3]; refine hK1 _ ?_; (try clear hK1 K1)
 refine bW 408 [0] zM5 (cst) rfl rfl rfl rfl (by simp only [push_cast, simprocAttr]; exact rfl) (by decide) (by decide) (by decide) (by simp only [push_cast, simprocAttr]; try rfl) (by simp only [push_cast, simprocAttr]; try rfl) ?_
 rintro _ _ _ ⟨rfl, rfl, rfl⟩
 refine aH 3 (fun K1 hK1 => ?_); simp (disch := omega) only [push_cast, ↓Int.cast_ofNat_Int, simprocAttr, aF, aD]
 refine cG zMn rst' (.cons (dL rfl rfl) (.cons (.v _) .nil)) ?_
 with_reducible refine aM ?_; simp (disch := omega) only [push_cast, ↓Int.cast_ofNat_Int, simprocAttr]
 refine hK1 _ ?_; (try clear hK1 K1)
 refine aH 5 (fun K1 hK1 => ?_); simp (disch := omega) only [push_cast, ↓Int.cast_ofNat_Int, simprocAttr, aF, aD, hx4]; refine hK1 _ ?_; (try clear hK1 K1)
 refine bW 480 [0] zJq (cus) rfl rfl rfl rfl (by simp only [push_cast, simprocAttr]; exact rfl) (by decide) (by decide) (by decide) (by simp only [push_cast, simprocAttr]; try rfl) (by simp only [push_cast, simprocAttr]; try rfl) ?_
 rintro _ _ _ ⟨rfl, rfl, rfl⟩
 refine aH 3 (fun K1 hK1 => ?_); simp (disch := omega) only [push_cast, ↓Int.cast_ofNat_Int, simprocAttr, aF, aD]
 refine cG zLh rus (.cons (dL rfl rfl) (.cons (.v _) .nil)) ?_
 with_reducible refine aM ?_; simp (disch := omega) only [push_cast, ↓Int.cast_ofNat_Int, simprocAttr]
 refine hK1 _ ?_; (try clear hK1 K1)
 refine aH 2 (fun K1 hK1 => ?_); simp (disch := omega) only [push_cast, ↓Int.cast_ofNat_Int, simprocAttr, aF, aD, hx5]; refine hK1 _ ?_; (try clear hK1 K1)
 refine aW ?_
 refine aB ?_
 refine bB rfl ?_
 refine aT [0, 1, 2, 11, 12] [0, 1, 2, 217, 241] (by simp only [zZ, zR, zP, zQ, zN, zS, zM, zX, zU, Nat.reduceEqDiff, reduceIte]; exact rfl) ?_
 refine aU ?_; refine aA ?_; refine aA ?_
 refine qC3 ?_
 refine iD 30 mixed (by kernel_rfl) (fun K hK => ?_); simp (disch := omega) only [push_cast, ↓Int.cast_ofNat_Int, simprocAttr, hx6]
 refine gK zLi est (.cons (zHh (d := d) rfl) .nil) ?_
 with_reducible refine aM ?_; simp (disch := omega) only [push_cast, ↓Int.cast_ofNat_Int, simprocAttr, hx6]
 refine gK zM6 edn (.cons (zHh (d := d) rfl) .nil) ?_
 with_reducible refine aM ?_; simp (disch := omega) only [push_cast, ↓Int.cast_ofNat_Int, simprocAttr]
 refine zK5 zJo rli (.cons (dL rfl rfl) (.cons (.v _) .nil)) ?_
 with_reducible refine aM ?_; simp (disch := omega) only [push_cast, ↓Int.cast_ofNat_Int, simprocAttr]
 refine gK zJp sm1 (.cons (qM6 (rK _) rfl) (.cons (zHg (rK _)) .nil)) ?_
 with_reducible refine aM ?_; simp (disch := omega) only [push_cast, ↓Int.cast_ofNat_Int, simprocAttr]
 refine gK zJp sm1 (.cons (qM6 (rK _) rfl) (.cons (qM6 (rK _) rfl) .nil)) ?_
 with_reducible refine aM ?_; simp (disch := omega) only [push_cast, ↓Int.cast_ofNat_Int, simprocAttr]
 with_reducible refine aM ?_; simp (disch := omega) only [push_cast, ↓Int.cast_ofNat_Int, simprocAttr]
 refine hK _ ?_; clear hK K
 refine bB rfl ?_
 refine aT [0, 1, 11, 12] [0, 1, 2, 217, 241] (by simp only [zZ, zR, zP, zQ, zN, zS, zM, zX, zU, Nat.reduceEqDiff, reduceIte]; exact rfl) ?_
 refine qU4 217 1000000 (by decide) rfl rfl (by simp only [qXy, zHf, qUo, qPu, qRo, qL3, qH3, wL, wK, qCj, qFs, wM, wJ, yU, qBq, qBs, qBr, Nat.reduceMul, Nat.reduceAdd, Nat.reduceEqDiff, reduceIte, List.map_cons, List.map_nil]; exact rfl) ?_
 refine qU4 241 1000001 (by decide) rfl rfl (by simp only [qXy, zHf, qUo, qPu, qRo, qL3, qH3, wL, wK, qCj, qFs, wM, wJ, yU, qBq, qBs, qBr, Nat.reduceMul, Nat.reduceAdd, Nat.reduceEqDiff, reduceIte, List.map_cons, List.map_nil]; exact rfl) ?_
 refine aU ?_; refine aA ?_; refine bF ?_; refine aH 4 (fun K1 hK1 => ?_); simp (disch := omega) only [push_cast, ↓Int.cast_ofNat_Int, simprocAttr]
 refine eC 792 [784, 1000000, 1000001] zMm (zFl l1 l1 true true true (by omega) (by omega)) rfl (by decide) (by decide) (by simp only [push_cast, simprocAttr]; try rfl) (by simp only [push_cast, simprocAttr]; try rfl) ?_
 rintro _ _ ⟨rfl, rfl⟩
 refine aM ?_; simp (disch := omega) only [push_cast, ↓Int.cast_ofNat_Int, simprocAttr]
 refine hK1 _ ?_; (try clear hK1 K1)
 refine aH 2 (fun K1 hK1 => ?_); simp (disch := omega) only [push_cast, ↓Int.cast_ofNat_Int, simprocAttr, aF, aD]; refine hK1 _ ?_; (try clear hK1 K1)
 refine bW 816 [0] zGz (cl0) rfl rfl rfl rfl (by simp only [push_cast, simprocAttr]; exact rfl) (by decide) (by decide) (by decide) (by simp only [push_cast, simprocAttr]; try rfl) (by simp only [push_cast, simprocAttr]; try rfl) ?_
 rintro _ _ _ ⟨rfl, rfl, rfl⟩
 refine aH 3 (fun K1 hK1 => ?_); simp (disch := omega) only [push_cast, ↓Int.cast_ofNat_Int, simprocAttr, aF, aD]
 refine hat 832 zJo rl0 (.cons (dL rfl rfl) (.cons (.v _) .nil)) ?_
 rintro _ _ ⟨rfl, rfl⟩
 with_reducible refine aM ?_; simp (disch := omega) only [push_cast, ↓Int.cast_ofNat_Int, simprocAttr]
 refine cG zJp sm2 (.cons (qM6 (rK _) rfl) (.cons (qM6 (rK _) rfl) .nil)) ?_
 with_reducible refine aM ?_; simp (disch := omega) only [push_cast, ↓Int.cast_ofNat_Int, simprocAttr]
 refine hK1 _ ?_; (try clear hK1 K1)
 refine aH 2 (fun K1 hK1 => ?_); simp (disch := omega) only [push_cast, ↓Int.cast_ofNat_Int, simprocAttr, aF, aD]; refine hK1 _ ?_; (try clear hK1 K1)
 refine aW ?_
 refine aB ?_; refine aY ?_
 simp only [aE, aL, yH, yE, yK, yJ, aG, zS, zM, Nat.reduceEqDiff, reduceIte, reduceCtorEq]
 refine bR [0, 1, 2] [] (by first | rfl | simp [bsL, MO.bs]) (by decide) (by decide) (by simp only [push_cast, simprocAttr]) (by simp only [push_cast, simprocAttr]) (by simp only [push_cast, simprocAttr]; rfl) (by simp only [push_cast, simprocAttr]; rfl) ?_
 exact ⟨rfl, rfl, rfl⟩
end Go.Proofs.YtojolcpblacjjaaGreatDoor
end
section
set_option linter.unusedSimpArgs false
set_option linter.unusedVariables false
namespace Go.Eng
open Go Go.RowKit Go.Maps
section
variable {P : Program} {N : Nat} {S : HS} {g : MS} {Q : kK}
theorem qFp {pre g1 g2 post : MS} {i : Nat} {m : MO} (h : (pre ++ (g2 ++ post))[i]? = some m) :
  (∃ j, i = pre.length + j ∧ g2[j]? = some m) ∨ (i < pre.length ∧ (pre ++ (g1 ++ post))[i]? = some m) ∨ (pre.length + g2.length ≤ i ∧ (pre ++ (g1 ++ post))[i - g2.length + g1.length]? = some m) := by
 rcases Nat.lt_or_ge i pre.length with h1 | h1
 ·right; left
  rw [List.getElem?_append_left h1] at h
  exact ⟨h1, by rw [List.getElem?_append_left h1]; exact h⟩
 ·rw [List.getElem?_append_right h1] at h
  rcases Nat.lt_or_ge (i - pre.length) g2.length with h2 | h2
  ·left
   rw [List.getElem?_append_left h2] at h
   exact ⟨i - pre.length, by omega, h⟩
  ·right; right
   rw [List.getElem?_append_right h2] at h
   refine ⟨by omega, ?_⟩
   rw [List.getElem?_append_right (by omega), List.getElem?_append_right (by omega), show i - g2.length + g1.length - pre.length - g1.length = i - pre.length - g2.length by omega]
   exact h
theorem qDj {pre g1 post : MS} {j : Nat} {m : MO} (h : g1[j]? = some m) : (pre ++ (g1 ++ post))[pre.length + j]? = some m := by
 have hj := (List.getElem?_eq_some_iff.1 h).1
 rw [List.getElem?_append_right (by omega), Nat.add_sub_cancel_left, List.getElem?_append_left hj]; exact h
theorem jT {all more : List Oper} {o : Oper} {f : FuncId} {args args' : List HV} {st : aN} {R : HV → aN → MS → Prop} {x : Operand} {ay : Array Operand} {ats : Array TypeId} (pre g1 post : MS) (hgg : g = pre ++ (g1 ++ post)) (n : Nat) (ids : List Nat) (hc : aJ P f = true) (H : HFunM P f args' st g1 R)
  (hop : o.op = .call ⟨.value x, ay, ats⟩) (hg : gOK S.env (cP all) o.guard = true) (hd : dP N o.dst = true) (hfn : fnH (hev S.env x) = some f) (has : lX S.env ay.toList = some args)
  (hdup : dup ids = false) (hlen : ids.length ≤ 8) (hids : ∀ i ∈ ids, cV n i = false) (hst : iE (pos ids) S.st 0 ids = st) (hargs : args.map (HV.ren (pos ids)) = args')
  (h : ∀ h st' g', R h st' g' → HVM P N all Q more (pre ++ (g' ++ post)) ((S.swap ids n st').set o.dst (h.ren (sh2 ids n)))) : HVM P N all Q (o :: more) g S := fun c F l w hk I M => by
 have hd := eJ hd
 have I0 := I
 obtain ⟨ρ, xs, G⟩ := I
 have hk' : ∀ v, bZ N (stp o.dst v l) = true := fun v => eP hk (fun k e => by rw [e] at hd; exact hd)
 unfold wpList
 rw [pK I0 F hk hg, if_pos rfl]
 obtain ⟨vs, e1, e2, e3⟩ := G.evs (bN _ _) has
 subst hst; subst hargs; subst hgg
 have inG1 : ∀ b, b ∈ bsL g1 → ∃ (j : Nat) (m : MO), g1[j]? = some m ∧ b ∈ m.bs := fun b hb => by
  obtain ⟨m, hm, hb⟩ := List.mem_flatMap.1 hb
  obtain ⟨i, hi⟩ := List.mem_iff_getElem?.1 hm
  exact ⟨i, m, hi, hb⟩
 obtain ⟨c1, ρ1, xs1, hw1, hT, hnT, hfT, G1, R1, back⟩ := qDs n ids hdup hlen hids (fun b => b ∈ bsL g1) G (fun b hb => by
  obtain ⟨j, m, hj, hb⟩ := inG1 b hb
  exact ⟨M.dull (qDj hj) hb, M.foot _ m b (qDj hj) hb⟩) (R := (⟨e2, e3⟩ : mX w (c.A ρ S.st) c.n0 ρ vs args))
 have M1 : MsOk P c1 w g1 := ⟨fun i m hi => M.ok _ m (qDj hi), fun i j m m' b hne hi hj => M.nd _ _ m m' b (fun e => hne (by omega)) (qDj hi) (qDj hj), fun i m b hi hb => .inr (hT b (List.mem_flatMap.2 ⟨m, List.mem_iff_getElem?.2 ⟨i, hi⟩, hb⟩))⟩
 have hcall := H c1 w ρ1 xs1 vs hw1 G1 M1 R1
 -- the others' blocks
 have oth : ∀ (i : Nat) (m : MO) (b : Nat), (pre ++ (g1 ++ post))[i]? = some m → (i < pre.length ∨ pre.length + g1.length ≤ i) → b ∈ m.bs → b < w.heap.size ∧ ¬ c1.T b := fun i m b hi hr hb => by
  have hdl := M.dull hi hb
  refine ⟨hdl.lt, hnT b hdl fun hb1 => ?_⟩
  obtain ⟨j, m', hj, hb'⟩ := inG1 b hb1
  have hjl := (List.getElem?_eq_some_iff.1 hj).1
  exact M.nd i (pre.length + j) m m' b (by omega) hi (qDj hj) hb hb'
 have hv : bM P l o.op o.type w (fun u w2 => ∃ h st' g', R h st' g' ∧ InvV c (S.swap ids n st') (h.ren (sh2 ids n)) u (lk l) w2 ∧ MsOk P c w2 (pre ++ (g' ++ post))) (fun u w2 => ∃ h st' g', R h st' g' ∧ InvV c (S.swap ids n st') (h.ren (sh2 ids n)) u (lk l) w2 ∧ MsOk P c w2 (pre ++ (g' ++ post))) := by
  rw [hop]
  unfold bM
  simp only [aV, cD, e1, G.fn (bN _ _) hfn]
  refine ⟨hc, Ret.mono hcall fun u w2 ⟨h, st2, g2, ρ2, xs2, h8, hbx, ⟨m, hm⟩, q, G2, M2, hr⟩ => ⟨h, st2, g2, q, back u w2 h st2 ρ2 xs2 h8 hbx (fun b hb => ?_) G2 hr, ?_⟩⟩
  ·have : b ∈ bsL g2 := by rw [hm]; exact List.mem_append_left _ hb
   obtain ⟨m', hm', hb'⟩ := List.mem_flatMap.1 this
   obtain ⟨i, hi⟩ := List.mem_iff_getElem?.1 hm'
   exact M2.dull hi hb'
  ·have keptO : ∀ (i : Nat) (m : MO), (pre ++ (g1 ++ post))[i]? = some m → (i < pre.length ∨ pre.length + g1.length ≤ i) → m.ok P w2 := fun i m hi hr => MO.ok_block (M.ok i m hi) fun b hb => by
    obtain ⟨h1, h2⟩ := oth i m b hi hr hb
    have hw1' := hw1
    have := G2.kept.block b (by rw [hw1]; exact h1) h2
    rw [hw1] at this; exact this
   have clash : ∀ (i : Nat) (m m' : MO) (j b : Nat), (pre ++ (g1 ++ post))[i]? = some m → (i < pre.length ∨ pre.length + g1.length ≤ i) → g2[j]? = some m' → b ∈ m.bs → b ∈ m'.bs → False := fun i m m' j b hi hr hj hb hb' => by
    obtain ⟨h1, h2⟩ := oth i m b hi hr hb
    rcases M2.foot j m' b hj hb' with h | h
    ·rw [hw1] at h; omega
    ·exact h2 h
   refine ⟨fun i m hi => ?_, fun i j m m' b hne hi hj hb hb' => ?_, fun i m b hi hb => ?_⟩
   ·rcases qFp (g1 := g1) hi with ⟨j, -, hj⟩ | ⟨h1, h2⟩ | ⟨h1, h2⟩
    ·exact M2.ok j m hj
    ·exact keptO _ m h2 (.inl h1)
    ·exact keptO _ m h2 (.inr (by omega))
   ·rcases qFp (g1 := g1) hi with ⟨j1, e1, hj1⟩ | ⟨h1, h2⟩ | ⟨h1, h2⟩ <;> rcases qFp (g1 := g1) hj with ⟨j2, e2, hj2⟩ | ⟨k1, k2⟩ | ⟨k1, k2⟩
    ·exact M2.nd j1 j2 m m' b (fun e => hne (by omega)) hj1 hj2 hb hb'
    ·exact clash _ m' m j1 b k2 (.inl k1) hj1 hb' hb
    ·exact clash _ m' m j1 b k2 (.inr (by omega)) hj1 hb' hb
    ·exact clash _ m m' j2 b h2 (.inl h1) hj2 hb hb'
    ·exact M.nd _ _ m m' b hne h2 k2 hb hb'
    ·exact M.nd _ _ m m' b (by omega) h2 k2 hb hb'
    ·exact clash _ m m' j2 b h2 (.inr (by omega)) hj2 hb hb'
    ·exact M.nd _ _ m m' b (by omega) h2 k2 hb hb'
    ·exact M.nd _ _ m m' b (by omega) h2 k2 hb hb'
   ·rcases qFp (g1 := g1) hi with ⟨j, -, hj⟩ | ⟨h1, h2⟩ | ⟨h1, h2⟩
    ·rcases M2.foot j m b hj hb with h | h
     ·rw [hw1] at h
      have := G.kept.size
      exact .inl (by omega)
     ·exact hfT b h
    ·exact M.foot _ m b h2 hb
    ·exact M.foot _ m b h2 hb
 refine .inl (dA ((gE (fun x X hx => lD F hk hx) hv).mono fun u w2 ⟨h', st', g', q, I2, M2⟩ => ?_))
 rw [mC]
 exact h h' st' g' q c F _ _ (hk' _) (I2.set o.dst) M2
end
end Go.Eng
end
