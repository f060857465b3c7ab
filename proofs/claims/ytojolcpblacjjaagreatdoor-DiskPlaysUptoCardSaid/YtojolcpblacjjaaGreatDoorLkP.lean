/-
  The law DiskPlays: the walk.
-/
import Derived.Test.YtojolcpblacjjaaGreatDoorMsF
import Derived.Test.YtojolcpblacjjaaGreatDoorUps
set_option linter.unusedSimpArgs false
set_option linter.unusedVariables false
set_option maxRecDepth 20000
namespace Go.Proofs.YtojolcpblacjjaaGreatDoor
open Go Go.Eng Go.RowKit Go.Tr Go.Dk
structure St4 (d : Dk) (R : LN) (S i : Nat) : Prop where
 bd : Bd d S i i
 rel : Rel d R i
theorem St4.mono {d : Dk} {R : LN} {S S' i j : Nat} (h : St4 d R S i) (hS : S ≤ S') (hi : i ≤ j) : St4 d R S' j := ⟨h.bd.mono hS hi hi, h.rel.look, h.rel.nod, Nat.le_trans h.rel.rl hi⟩
theorem zKe : ({ data := #[118] } : ByteArray).size ≤ 1048576 := by decide
set_option maxHeartbeats 32000000 in
theorem qUt (l : List Stp) (hl : ∀ x ∈ l, x.Ok) (hsum : qX l ≤ 1048576) : HFun Tryz.prog 3 [.lst false (tU l)] (fun h st => h = .v (.bool true)) := by
 refine iB (N := 99) Tryz.func3 rfl Tryz.ntmps3 Tryz.results3 (by simp) ?_
 refine zFo ?_
 refine aA ?_; refine aC (fun K hK => ?_); simp (disch := omega) only [push_cast, ↓Int.cast_ofNat_Int, simprocAttr]; refine hK _ ?_; clear hK K
 refine aA ?_
 refine bF ?_
 refine bW 80 [] cl5 (zC0) rfl rfl rfl rfl (by simp only [push_cast, simprocAttr]; exact rfl) (by decide) (by decide) (by decide) (by simp only [push_cast, simprocAttr]; try rfl) (by simp only [push_cast, simprocAttr]; try rfl) ?_
 rintro _ _ _ ⟨r1, r2, rfl, rfl, rfl⟩
 refine aH 0 (fun K1 hK1 => ?_); simp (disch := omega) only [push_cast, ↓Int.cast_ofNat_Int, simprocAttr, aF, aD, bG]; refine hK1 _ ?_; (try clear hK1 K1)
 refine jT (Dk.new.maps kS r1 r2) ([]) ([]) rfl 88 [] cl5 (zC0) rfl rfl rfl rfl (by simp only [push_cast, simprocAttr]; exact rfl) (by decide) (by decide) (by decide) (by simp only [push_cast, simprocAttr]; try rfl) (by simp only [push_cast, simprocAttr]; try rfl) ?_
 rintro _ _ _ ⟨r3, r4, rfl, rfl, rfl⟩
 refine aH 2 (fun K1 hK1 => ?_); simp (disch := omega) only [push_cast, ↓Int.cast_ofNat_Int, simprocAttr, aF, aD, bG]; refine hK1 _ ?_; (try clear hK1 K1)
 refine aW ?_
 refine aT [0, 3, 4] [80, 88] (by simp only [zZ, zR, zP, zQ, zN, zS, zM, zX, zU, Nat.reduceEqDiff, reduceIte]; exact rfl) ?_
 refine aA ?_; refine aA ?_; refine aC (fun K hK => ?_); simp (disch := omega) only [push_cast, ↓Int.cast_ofNat_Int, simprocAttr]
 refine cG cl6 zG1 .nil ?_
 with_reducible refine aM ?_; simp (disch := omega) only [push_cast, ↓Int.cast_ofNat_Int, simprocAttr]
 refine hK _ ?_; clear hK K
 refine aB ?_
 refine bB rfl ?_
 refine aT [0, 3, 4] [80, 88] (by simp only [zZ, zR, zP, zQ, zN, zS, zM, zX, zU, Nat.reduceEqDiff, reduceIte]; exact rfl) ?_
 refine aU ?_; refine aA ?_; refine aC (fun K hK => ?_); simp (disch := omega) only [push_cast, ↓Int.cast_ofNat_Int, simprocAttr]
 refine eC 176 [] cl7 (zB8) rfl (by decide) (by decide) (by simp only [push_cast, simprocAttr]; try rfl) (by simp only [push_cast, simprocAttr]; try rfl) ?_
 rintro _ _ ⟨rfl, rfl⟩
 refine aM ?_; simp (disch := omega) only [push_cast, ↓Int.cast_ofNat_Int, simprocAttr, eF]
 refine eC 184 [] cl7 (zB8) rfl (by decide) (by decide) (by simp only [push_cast, simprocAttr]; try rfl) (by simp only [push_cast, simprocAttr]; try rfl) ?_
 rintro _ _ ⟨rfl, rfl⟩
 refine aM ?_; simp (disch := omega) only [push_cast, ↓Int.cast_ofNat_Int, simprocAttr, eF]
 refine hK _ ?_; clear hK K
 refine aT [0, 3, 4, 5, 6] [80, 88, 176, 177, 184, 185] (by simp only [zZ, zR, zP, zQ, zN, zS, zM, zX, zU, Nat.reduceEqDiff, reduceIte]; exact rfl) ?_
 refine aA ?_; refine aA ?_; refine aC (fun K hK => ?_); simp (disch := omega) only [push_cast, ↓Int.cast_ofNat_Int, simprocAttr]; refine hK _ ?_; clear hK K
 refine aB ?_; refine bL ?_
 refine xJ (ι := Nat × (Dk × LN × Bool × Bool) × (Dk × LN × Bool × Bool)) (fun q => ⟨[(0, .lst false (tU l)), (3, .ptr 80 6 0 0), (4, .ptr 88 6 0 0), (5, .ptr 176 6 0 0), (6, .ptr 184 6 0 0), (7, .v (.int .i64 (q.1 : Int)))],
   [(80, .bx true 47 [.v (.map (some r1)), .v (.map (some r2)), .v (.int .i64 q.2.1.1.steps), .v (.int .i64 q.2.1.1.stamps), .v (.int .i64 q.2.1.1.armed), .v (.bool q.2.1.1.down)]), (88, .bx true 47 [.v (.map (some r3)), .v (.map (some r4)), .v (.int .i64 q.2.2.1.steps), .v (.int .i64 q.2.2.1.stamps), .v (.int .i64 q.2.2.1.armed), .v (.bool q.2.2.1.down)]), (176, .bx true 35 [.lst q.2.1.2.2.1 (dS q.2.1.1.L), .own 177, .v (.int .i64 q.2.1.1.steps), .v (.int .i64 q.2.1.1.stamps), .v (.int .i64 q.2.1.1.armed), .v (.bool q.2.1.1.down)]), (177, .sl q.2.1.2.2.2 76 2 (rms q.2.1.2.1)), (184, .bx true 35 [.lst q.2.2.2.2.1 (dS q.2.2.1.L), .own 185, .v (.int .i64 q.2.2.1.steps), .v (.int .i64 q.2.2.1.stamps), .v (.int .i64 q.2.2.1.armed), .v (.bool q.2.2.1.down)]), (185, .sl q.2.2.2.2.2 76 2 (rms q.2.2.2.1))]⟩)
  (fun q => q.2.1.1.maps kS r1 r2 ++ (q.2.2.1.maps kS r3 r4 ++ [])) (fun q => q.1 ≤ l.length ∧ q.1 ≤ 200 ∧ St4 q.2.1.1 q.2.1.2.1 (qX (l.take q.1)) q.1 ∧ St4 q.2.2.1 q.2.2.2.1 (qX (l.take q.1)) q.1) (fun q => l.length - q.1) [0, 3, 4, 5, 6, 7] [80, 88, 176, 177, 184, 185] (0, (Dk.new, [], true, true), (Dk.new, [], true, true)) rfl rfl
  ⟨Nat.zero_le _, Nat.zero_le _, ⟨Bd.new, fun _ => rfl, List.nodup_nil, Nat.le_refl _⟩, ⟨Bd.new, fun _ => rfl, List.nodup_nil, Nat.le_refl _⟩⟩ ?_
 rintro ⟨i, ⟨d, R, fr, nw⟩, ⟨t, R2, fr2, nw2⟩⟩ ⟨hil, hi2, hD, hT⟩
 dsimp only at hil hi2 hD hT ⊢
 have hsq := qW6 l i
 have hS : qX (l.take i) ≤ 1048576 := by omega
 have ok := hD.bd.ok hS (by omega) (by omega)
 have lo := hD.bd.lo hS
 have rok := hD.bd.rok hS (by omega) (by omega) hD.rel (by omega)
 have hlen : d.L.length ≤ 1000 := by have := hD.bd.len; omega
 have okt := hT.bd.ok hS (by omega) (by omega)
 have lot := hT.bd.lo hS
 have rokt := hT.bd.rok hS (by omega) (by omega) hT.rel (by omega)
 have hlent : t.L.length ≤ 1000 := by have := hT.bd.len; omega
 have hBB : (1073741824 : Int) ≤ 1099511627776 := by decide
 by_cases hc : i < l.length ∧ i < 200
 ·obtain ⟨h1, h2⟩ := hc
  obtain ⟨s1, s2, s3, s4⟩ := hl _ (List.getElem_mem h1)
  have hst := qZv h1
  have hsq2 := qW6 l (i + 1)
  have hS2 : qX (l.take (i + 1)) ≤ 1048576 := by omega
  obtain ⟨m5, hm5⟩ : ∃ m5 : Nat, m5 = i % 5 := ⟨_, rfl⟩
  have e5 : Int.tmod (i : Int) 5 = (m5 : Int) := by rw [Int.tmod_eq_emod_of_nonneg (by omega)]; omega
  refine aA ?_; refine aA ?_; refine aC (fun K hK => ?_); simp (disch := omega) only [push_cast, ↓Int.cast_ofNat_Int, simprocAttr, qBh]; refine hK _ ?_; clear hK K
  refine aB ?_
  refine bY rfl ?_
  refine aU ?_; refine aA ?_
  refine bL ?_; refine aA ?_; refine aC (fun K hK => ?_); simp (disch := omega) only [push_cast, ↓Int.cast_ofNat_Int, simprocAttr, qBh, zBw, zBx h1]; refine hK _ ?_; clear hK K
  refine aT [0, 3, 4, 5, 6, 7, 8] [80, 88, 176, 177, 184, 185, 64] (by simp only [zZ, zR, zP, zQ, zN, zS, zM, zX, zU, Nat.reduceEqDiff, reduceIte]; exact rfl) ?_
  refine aA ?_; refine aA ?_; refine aC (fun K hK => ?_); simp (disch := omega) only [push_cast, ↓Int.cast_ofNat_Int, simprocAttr, e5]; (repeat refine ⟨by first | omega | decide | ((repeat' apply And.intro) <;> first | omega | decide), ?_⟩); refine hK _ ?_; clear hK K
  refine aB ?_
  by_cases h4 : m5 = 4
  ·have cd := zE5 t R2 fr2 nw2 1073741824 okt (Int.le_refl _) rokt lot hlent l[i].k l[i].P l[i].Q l[i].N s1 s2 s3 s4 r3 r4
   have hB2 := hT.bd.call (by omega) l[i].k s1 s2 l[i].N s4
   rw [← hst] at hB2
   obtain ⟨e, he⟩ : ∃ e, uY t l[i].k l[i].P l[i].Q l[i].N = e := ⟨_, rfl⟩
   rw [he] at cd hB2
   simp only [bG, rcj] at cd
   refine aZ rfl (fun _ => ?_) (fun h => by simp [h4] at h)
   refine aT [0, 3, 4, 5, 6, 7, 8] [80, 88, 176, 177, 184, 185, 64] (by simp only [zZ, zR, zP, zQ, zN, zS, zM, zX, zU, Nat.reduceEqDiff, reduceIte]; exact rfl) ?_
   refine aA ?_; refine aA ?_; refine bF ?_; refine aH 3 (fun K1 hK1 => ?_); simp (disch := omega) only [push_cast, ↓Int.cast_ofNat_Int, simprocAttr]; refine hK1 _ ?_; (try clear hK1 K1)
   refine jT (d.maps kS r1 r2) (t.maps kS r3 r4) ([]) rfl 352 [88, 184, 185] cl8 (cd) rfl rfl rfl rfl (by simp only [push_cast, simprocAttr]; exact rfl) (by decide) (by decide) (by decide) (by simp only [push_cast, simprocAttr]; try rfl) (by simp only [push_cast, simprocAttr]; try rfl) ?_
   rintro _ _ _ ⟨rfl, R3, fr3, nw3, hR3, rfl, rfl⟩
   have hR3' : Rel e R3 (i + 1) := ⟨hR3.look, hR3.nod, by have := hR3.rl; have := hT.rel.rl; omega⟩
   have cl := qCd e R3 fr3 nw3 1073741824 (hB2.ok hS2 (by omega) (by omega)) hBB (hB2.rok hS2 (by omega) (by omega) hR3' (by omega)) l[i].P s1 r3 r4
   simp only [bG, rcj] at cl
   refine aH 6 (fun K1 hK1 => ?_); simp (disch := omega) only [push_cast, ↓Int.cast_ofNat_Int, simprocAttr, aF, aD]; refine hK1 _ ?_; (try clear hK1 K1)
   refine jT (d.maps kS r1 r2) (e.maps kS r3 r4) ([]) rfl 408 [88, 184, 185] cl9 (cl) rfl rfl rfl rfl (by simp only [push_cast, simprocAttr]; exact rfl) (by decide) (by decide) (by decide) (by simp only [push_cast, simprocAttr]; try rfl) (by simp only [push_cast, simprocAttr]; try rfl) ?_
   rintro _ _ _ ⟨rfl, rfl, rfl⟩
   refine aH 2 (fun K1 hK1 => ?_); simp (disch := omega) only [push_cast, ↓Int.cast_ofNat_Int, simprocAttr, aF, aD]; refine hK1 _ ?_; (try clear hK1 K1)
   refine aW ?_
   refine aB ?_
   refine bB rfl ?_
   refine aU ?_; refine aB ?_; refine iX ?_; refine dZ ?_; refine iR ?_; refine aB ?_
   refine aC (fun K hK => ?_); simp (disch := omega) only [push_cast, ↓Int.cast_ofNat_Int, simprocAttr]; refine hK _ ?_; clear hK K
   refine aB ?_
   exact ⟨(i + 1, (d, R, fr, nw), (e, R3, fr3, nw3)), rfl, rfl, ⟨h1, h2, hD.mono (S' := qX (l.take (i + 1))) (j := i + 1) (by omega) (by omega), ⟨hB2, hR3'⟩⟩, by show l.length - (i + 1) < l.length - i; omega⟩
  ·have cd := zE5 d R fr nw 1073741824 ok (Int.le_refl _) rok lo hlen l[i].k l[i].P l[i].Q l[i].N s1 s2 s3 s4 r1 r2
   have hB2 := hD.bd.call (by omega) l[i].k s1 s2 l[i].N s4
   rw [← hst] at hB2
   obtain ⟨e, he⟩ : ∃ e, uY d l[i].k l[i].P l[i].Q l[i].N = e := ⟨_, rfl⟩
   rw [he] at cd hB2
   simp only [bG, rcj] at cd
   refine aZ rfl (fun h => by simp at h; omega) (fun _ => ?_)
   refine aU ?_; refine aA ?_
   refine aT [0, 3, 4, 5, 6, 7, 8] [80, 88, 176, 177, 184, 185, 64] (by simp only [zZ, zR, zP, zQ, zN, zS, zM, zX, zU, Nat.reduceEqDiff, reduceIte]; exact rfl) ?_
   refine bF ?_; refine aH 3 (fun K1 hK1 => ?_); simp (disch := omega) only [push_cast, ↓Int.cast_ofNat_Int, simprocAttr]; refine hK1 _ ?_; (try clear hK1 K1)
   refine jT ([]) (d.maps kS r1 r2) (t.maps kS r3 r4 ++ []) rfl 456 [80, 176, 177] cl8 (cd) rfl rfl rfl rfl (by simp only [push_cast, simprocAttr]; exact rfl) (by decide) (by decide) (by decide) (by simp only [push_cast, simprocAttr]; try rfl) (by simp only [push_cast, simprocAttr]; try rfl) ?_
   rintro _ _ _ ⟨rfl, R3, fr3, nw3, hR3, rfl, rfl⟩
   have hR3' : Rel e R3 (i + 1) := ⟨hR3.look, hR3.nod, by have := hR3.rl; have := hD.rel.rl; omega⟩
   have cl := qCd e R3 fr3 nw3 1073741824 (hB2.ok hS2 (by omega) (by omega)) hBB (hB2.rok hS2 (by omega) (by omega) hR3' (by omega)) l[i].P s1 r1 r2
   have cl2 := qCd e R3 fr3 nw3 1073741824 (hB2.ok hS2 (by omega) (by omega)) hBB (hB2.rok hS2 (by omega) (by omega) hR3' (by omega)) l[i].Q s2 r1 r2
   simp only [bG, rcj] at cl cl2
   refine aH 6 (fun K1 hK1 => ?_); simp (disch := omega) only [push_cast, ↓Int.cast_ofNat_Int, simprocAttr, aF, aD]; refine hK1 _ ?_; (try clear hK1 K1)
   refine jT ([]) (e.maps kS r1 r2) (t.maps kS r3 r4 ++ []) rfl 512 [80, 176, 177] cl9 (cl) rfl rfl rfl rfl (by simp only [push_cast, simprocAttr]; exact rfl) (by decide) (by decide) (by decide) (by simp only [push_cast, simprocAttr]; try rfl) (by simp only [push_cast, simprocAttr]; try rfl) ?_
   rintro _ _ _ ⟨rfl, rfl, rfl⟩
   refine aH 7 (fun K1 hK1 => ?_); simp (disch := omega) only [push_cast, ↓Int.cast_ofNat_Int, simprocAttr, aF, aD]; refine hK1 _ ?_; (try clear hK1 K1)
   refine jT ([]) (e.maps kS r1 r2) (t.maps kS r3 r4 ++ []) rfl 576 [80, 176, 177] cl9 (cl2) rfl rfl rfl rfl (by simp only [push_cast, simprocAttr]; exact rfl) (by decide) (by decide) (by decide) (by simp only [push_cast, simprocAttr]; try rfl) (by simp only [push_cast, simprocAttr]; try rfl) ?_
   rintro _ _ _ ⟨rfl, rfl, rfl⟩
   refine aH 2 (fun K1 hK1 => ?_); simp (disch := omega) only [push_cast, ↓Int.cast_ofNat_Int, simprocAttr, aF, aD]; refine hK1 _ ?_; (try clear hK1 K1)
   refine aW ?_
   refine aB ?_
   refine bB rfl ?_
   refine aU ?_; refine bP ?_; refine aB ?_
   refine aC (fun K hK => ?_); simp (disch := omega) only [push_cast, ↓Int.cast_ofNat_Int, simprocAttr]; refine hK _ ?_; clear hK K
   refine aB ?_
   exact ⟨(i + 1, (e, R3, fr3, nw3), (t, R2, fr2, nw2)), rfl, rfl, ⟨h1, h2, ⟨hB2, hR3'⟩, hT.mono (S' := qX (l.take (i + 1))) (j := i + 1) (by omega) (by omega)⟩, by show l.length - (i + 1) < l.length - i; omega⟩
 refine aA ?_; refine aA ?_
 refine qLl (ι := Unit) (fun _ => ⟨[(0, .lst false (tU l)), (3, .ptr 80 6 0 0), (4, .ptr 88 6 0 0), (5, .ptr 176 6 0 0), (6, .ptr 184 6 0 0), (31, .v (.bool false))],
   [(80, .bx true 47 [.v (.map (some r1)), .v (.map (some r2)), .v (.int .i64 d.steps), .v (.int .i64 d.stamps), .v (.int .i64 d.armed), .v (.bool d.down)]), (88, .bx true 47 [.v (.map (some r3)), .v (.map (some r4)), .v (.int .i64 t.steps), .v (.int .i64 t.stamps), .v (.int .i64 t.armed), .v (.bool t.down)]), (176, .bx true 35 [.lst fr (dS d.L), .own 177, .v (.int .i64 d.steps), .v (.int .i64 d.stamps), .v (.int .i64 d.armed), .v (.bool d.down)]), (177, .sl nw 76 2 (rms R)), (184, .bx true 35 [.lst fr2 (dS t.L), .own 185, .v (.int .i64 t.steps), .v (.int .i64 t.stamps), .v (.int .i64 t.armed), .v (.bool t.down)]), (185, .sl nw2 76 2 (rms R2))]⟩)
   (fun _ => d.maps kS r1 r2 ++ (t.maps kS r3 r4 ++ [])) (fun _ => True) [0, 3, 4, 5, 6, 31] [80, 88, 176, 177, 184, 185] ?_ ?_
 ·by_cases h1 : i < l.length
  ·have h2 : ¬ i < 200 := fun h => hc ⟨h1, h⟩
   refine aC (fun K hK => ?_); simp (disch := omega) only [push_cast, ↓Int.cast_ofNat_Int, simprocAttr, qBh]; refine hK _ ?_; clear hK K
   exact ⟨(), rfl, rfl, trivial⟩
  ·refine aC (fun K hK => ?_); simp (disch := omega) only [push_cast, ↓Int.cast_ofNat_Int, simprocAttr, qBh]; refine hK _ ?_; clear hK K
   exact ⟨(), rfl, rfl, trivial⟩
 rintro - -
 refine bB rfl ?_
 refine iX ?_; refine dZ ?_; refine dZ ?_; refine iR ?_; refine aA ?_; refine aA ?_
 refine aC (fun K hK => ?_); simp (disch := omega) only [push_cast, ↓Int.cast_ofNat_Int, simprocAttr]; refine hK _ ?_; clear hK K
 refine aT [3, 4, 5, 6, 9] [80, 88, 176, 177, 184, 185] (by simp only [zZ, zR, zP, zQ, zN, zS, zM, zX, zU, Nat.reduceEqDiff, reduceIte]; exact rfl) ?_
 refine bL ?_
 refine xJ (ι := Nat) (fun j => ⟨[(3, .ptr 80 6 0 0), (4, .ptr 88 6 0 0), (5, .ptr 176 6 0 0), (6, .ptr 184 6 0 0), (9, .v (.int .i64 (j : Int)))],
   [(80, .bx true 47 [.v (.map (some r1)), .v (.map (some r2)), .v (.int .i64 d.steps), .v (.int .i64 d.stamps), .v (.int .i64 d.armed), .v (.bool d.down)]), (88, .bx true 47 [.v (.map (some r3)), .v (.map (some r4)), .v (.int .i64 t.steps), .v (.int .i64 t.stamps), .v (.int .i64 t.armed), .v (.bool t.down)]), (176, .bx true 35 [.lst fr (dS d.L), .own 177, .v (.int .i64 d.steps), .v (.int .i64 d.stamps), .v (.int .i64 d.armed), .v (.bool d.down)]), (177, .sl nw 76 2 (rms R)), (184, .bx true 35 [.lst fr2 (dS t.L), .own 185, .v (.int .i64 t.steps), .v (.int .i64 t.stamps), .v (.int .i64 t.armed), .v (.bool t.down)]), (185, .sl nw2 76 2 (rms R2))]⟩)
  (fun _ => d.maps kS r1 r2 ++ (t.maps kS r3 r4 ++ [])) (fun j => j ≤ d.L.length) (fun j => d.L.length - j) [3, 4, 5, 6, 9] [80, 88, 176, 177, 184, 185] 0 rfl rfl (Nat.zero_le _) ?_
 intro j hj
 by_cases h1 : j < d.L.length
 ·have hkey := rok.keys _ (List.getElem_mem h1)
  have cl := qCd d R fr nw 1073741824 ok hBB rok d.L[j].1 hkey r1 r2
  simp only [bG, rcj] at cl
  refine aA ?_; refine aA ?_; refine aC (fun K hK => ?_); simp (disch := omega) only [push_cast, ↓Int.cast_ofNat_Int, simprocAttr, bD]; refine hK _ ?_; clear hK K
  refine aB ?_
  refine bY rfl ?_
  refine aU ?_; refine aA ?_
  refine bL ?_; refine aA ?_; refine bF ?_; refine aH 10 (fun K1 hK1 => ?_); simp (disch := omega) only [push_cast, ↓Int.cast_ofNat_Int, simprocAttr, bD, bQ, bV h1]
  refine hK1 _ ?_; (try clear hK1 K1)
  refine jT ([]) (d.maps kS r1 r2) (t.maps kS r3 r4 ++ []) rfl 752 [80, 176, 177] cl9 (cl) rfl rfl rfl rfl (by simp only [push_cast, simprocAttr]; exact rfl) (by decide) (by decide) (by decide) (by simp only [push_cast, simprocAttr]; try rfl) (by simp only [push_cast, simprocAttr]; try rfl) ?_
  rintro _ _ _ ⟨rfl, rfl, rfl⟩
  refine aH 1 (fun K1 hK1 => ?_); simp (disch := omega) only [push_cast, ↓Int.cast_ofNat_Int, simprocAttr, aF, aD]; refine hK1 _ ?_; (try clear hK1 K1)
  refine aW ?_
  refine aB ?_
  refine bB rfl ?_
  refine aU ?_; refine bP ?_; refine aB ?_
  refine aC (fun K hK => ?_); simp (disch := omega) only [push_cast, ↓Int.cast_ofNat_Int, simprocAttr]; refine hK _ ?_; clear hK K
  refine aB ?_
  exact ⟨j + 1, rfl, rfl, h1, by omega⟩
 ·have cl := qCd t R2 fr2 nw2 1073741824 okt hBB rokt { data := #[118] } zKe r3 r4
  simp only [bG, rcj] at cl
  refine aA ?_; refine aA ?_; refine aC (fun K hK => ?_); simp (disch := omega) only [push_cast, ↓Int.cast_ofNat_Int, simprocAttr, bD]; refine hK _ ?_; clear hK K
  refine aB ?_
  refine bB rfl ?_
  refine iX ?_; refine dZ ?_; refine dZ ?_; refine iR ?_; refine aA ?_
  refine bF ?_; refine aH 2 (fun K1 hK1 => ?_); simp (disch := omega) only [push_cast, ↓Int.cast_ofNat_Int, simprocAttr]; refine hK1 _ ?_; (try clear hK1 K1)
  refine jT (d.maps kS r1 r2) (t.maps kS r3 r4) ([]) rfl 784 [88, 184, 185] cl9 (cl) rfl rfl rfl rfl (by simp only [push_cast, simprocAttr]; exact rfl) (by decide) (by decide) (by decide) (by simp only [push_cast, simprocAttr]; try rfl) (by simp only [push_cast, simprocAttr]; try rfl) ?_
  rintro _ _ _ ⟨rfl, rfl, rfl⟩
  refine aH 1 (fun K1 hK1 => ?_); simp (disch := omega) only [push_cast, ↓Int.cast_ofNat_Int, simprocAttr, aF, aD]; refine hK1 _ ?_; (try clear hK1 K1)
  refine aW ?_
  refine aB ?_; refine aY ?_
  simp only [yA, yM, yH, yE, aP, aX, yK, yJ, zS, zM, Nat.reduceEqDiff, reduceIte, reduceCtorEq]
  exact bJ rfl
theorem qUs (l : List Stp) (hl : ∀ x ∈ l, NR x.N) (hu : fw (.lst false (tU l)) + 0 ≤ 1048576) : HFun Tryz.prog 3 [.lst false (tU l)] (fun h st => h = .v (.bool true)) := by
 obtain ⟨h1, h2⟩ := zGt l
 refine qUt l (fun x hx => ?_) (by omega)
 have := h2 x hx
 exact ⟨by omega, by omega, hl x hx⟩
end Go.Proofs.YtojolcpblacjjaaGreatDoor
