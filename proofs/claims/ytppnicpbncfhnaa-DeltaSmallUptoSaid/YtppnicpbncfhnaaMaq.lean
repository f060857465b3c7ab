/-
  Regions that look up in a map, or store into it.
-/
import Derived.Test.YtppnicpbncfhnaaMap
set_option linter.unusedSimpArgs false
set_option linter.unusedVariables false
namespace Go.Eng
open Go Go.RowKit Go.Maps
section
variable {P : Program} {N : Nat} {k e : TypeId} {r : Nat} {c : Ctx} {S : HS} {g : MSt} {Q Q' : Exit → MSt → HS → Prop} {look : Nat → Option Value} {w : World} {ρ : Nat → Value} {xs : Nat → List Value}
theorem sub_back {n : Nat} {T : Tab} (I : Inv c S look w) (M : MapIs P k e w r n T) : ∃ c1 : Ctx, Inv c1 S look w ∧ ∀ S' look' w', Inv c1 S' look' w' → Inv c S' look' w' ∧ MapIs P k e w' r n T := by
  obtain ⟨ρ, xs, G⟩ := I
  obtain ⟨G1, hA⟩ := G.sub (T := S.env) (st1 := S.st) (look1 := look) (fun k r hr => ⟨r, hr, fun _ h => h⟩) (fun t x hx => G.env t x hx)
  have hno := not_owned G M
  have hlt := M.lt
  refine ⟨_, ⟨ρ, xs, G1⟩, fun S' look' w' ⟨ρ', xs', G'⟩ => ⟨⟨ρ', xs', ?_⟩, M.block (G'.kept.block r hlt hno)⟩⟩
  have hO : ∀ b, Owns ρ S.st b → c.w0.heap.size ≤ b ∨ c.T b := fun b ⟨i, s, hi, hb⟩ => ((G.rows i s hi).new b hb).1
  have hAA : ∀ b, c.A ρ' S'.st b → Ctx.A ⟨w, Owns ρ S.st, fun b => c.A ρ S.st b ∧ ¬ Owns ρ S.st b, c.n0, Nat.le_trans c.hn G.kept.size, c.B⟩ ρ' S'.st b := by
    rintro b (h0 | h0)
    · refine .inl ⟨.inl h0, fun ho => ?_⟩
      have h1 := G.a0 b h0
      rcases hO b ho with h2 | h2
      · omega
      · exact h1.2 h2
    · exact .inr h0
  refine ⟨fun i s hi => ?_, G'.apart, fun t y hy => ?_, G.kept.trans G'.kept fun b hb hT => ?_, G.a0⟩
  · have R := G'.rows i s hi
    refine (R.up (Nat.le_refl _) (fun _ _ _ => rfl) (fun b _ => hAA b) (fun _ _ => rfl)).ctx rfl rfl fun b hb => ?_
    rcases (R.new b hb).1 with h1 | h1
    · have h1 : w.heap.size ≤ b := h1
      have := G.kept.size
      exact .inl (by omega)
    · exact hO b h1
  · obtain ⟨v, h1, h2⟩ := G'.env t y hy
    exact ⟨v, h1, h2.up (Nat.le_refl _) (fun _ _ _ => rfl) (fun b _ => hAA b) (Nat.le_refl _)⟩
  · rcases hO b hT with h1 | h1
    · omega
    · exact h1
/-! ### a block that is no row turns -/
theorem RepF.upc {w w' : World} {A : Nat → Prop} {n0 : Nat} {v : Value} {x : FV} (h : RepF w A n0 v x) (hs : w.heap.size ≤ w'.heap.size) (hb : ∀ b o u, w.cell? ⟨b, o, none⟩ = some u → w'.cell? ⟨b, o, none⟩ = some u) : RepF w' A n0 v x := by
  induction h with
  | v x => exact .v x
  | lst sz vals hn hc hm hnil hsz ha h1 hr ih =>
    refine .lst sz vals hn hc hm hnil hsz (fun h0 => ?_) h1 (fun i k hi hk => ih i k hi hk)
    obtain ⟨b, off, ea, h2, h3, h4, h5⟩ := ha h0
    exact ⟨b, off, ea, h2, by omega, h4, fun i k hi hk => hb _ _ _ (h5 i k hi hk)⟩
theorem RepH.upc {w w' : World} {A : Nat → Prop} {n0 : Nat} {ρ : Nat → Value} {v : Value} {x : HV} (h : RepH w A n0 ρ v x) (hs : w.heap.size ≤ w'.heap.size) (hb : ∀ b o u, w.cell? ⟨b, o, none⟩ = some u → w'.cell? ⟨b, o, none⟩ = some u) : RepH w' A n0 ρ v x := by
  induction h with
  | v x => exact .v x
  | lst h => exact .lst (h.upc hs hb)
  | own id h1 => exact .own id h1
  | vw sz off m h a b d x e => exact .vw sz off m h a b d x e
  | ptr sz i k h => exact .ptr sz i k h
  | elt h h1 h2 => exact .elt (h.upc hs hb) h1 h2
  | agg hn h1 h ih => exact .agg hn h1 ih
  | tup hn h ih => exact .tup hn ih
  | junk v => exact .junk v
theorem Good.upc {w' : World} (G : Good c S look w ρ xs) (hs : w.heap.size ≤ w'.heap.size) (hb : ∀ b o u, w.cell? ⟨b, o, none⟩ = some u → w'.cell? ⟨b, o, none⟩ = some u) (ho : ∀ b, Owns ρ S.st b → w'.heap[b]? = w.heap[b]?) (hk : Kept c.T c.w0 w') : Good c S look w' ρ xs := by
  refine ⟨fun i s hi => ?_, G.apart, fun t y hy => ?_, hk, G.a0⟩
  · have R := G.rows i s hi
    refine ⟨R.own.block fun b hb' => ho b ⟨i, s, hi, hb'⟩, ?_, R.new⟩
    have rp := R.rep
    cases s with
    | sl nw ty sz els =>
      refine ⟨rp.1, fun p q hp hq => ?_⟩
      obtain ⟨u, u1, u2, u3⟩ := rp.2 p q hp hq
      exact ⟨u, u1, u2, u3.upc hs hb⟩
    | bx nw ty cells =>
      refine ⟨rp.1, fun q hq => ?_⟩
      obtain ⟨u, u1, u2, u3⟩ := rp.2 q hq
      exact ⟨u, u1, u2, u3.upc hs hb⟩
    | hl nw ty sz els =>
      refine ⟨rp.1, fun p q hp hq => ?_⟩
      obtain ⟨u, u1, u2, u3⟩ := rp.2 p q hp hq
      exact ⟨u, u1, u2, u3.upc hs hb⟩
  · obtain ⟨v, h1, h2⟩ := G.env t y hy
    exact ⟨v, h1, h2.upc hs hb⟩
theorem VC_pre (F : Fr N) {all more : List Oper} {Qa : Exit → Act → World → Prop} {K : Env → World → Prop} (hK : ∀ l w, keysLt N l = true → K l w → wpList P all.toArray Qa more (mk F l) w) :
    ∀ (pre : List Oper) (l : Env) (w : World), keysLt N l = true → VC P N (dsts all) K pre l w → wpList P all.toArray Qa (pre ++ more) (mk F l) w
  | [], l, w, hk, h => hK l w hk h
  | o :: rest, l, w, hk, h => by
    have h := gd_wanted F hk h
    obtain ⟨hd, h⟩ := h
    have hk' : ∀ v, keysLt N (stp o.dst v l) = true := fun v => keysLt_put hk (fun k e => by rw [e] at hd; exact hd)
    rw [List.cons_append]
    unfold wpList
    cases hw : Region.wanted o (yielded all.toArray (mk F l).tmps)
    · rw [hw] at h
      simp only [doOr] at h
      rw [if_neg (by simp), put_mk]
      exact VC_pre F hK rest _ _ (hk' _) h
    · rw [hw] at h
      simp only [doOr] at h
      rw [if_pos rfl]
      refine .inl (wp_of_yields ((vcOp_ok (fun x X hx => eval_mk F hk hx) h).mono fun v w' hv => ?_))
      rw [put_mk]
      exact VC_pre F hK rest _ _ (hk' _) hv
/-- the types that the map goes by -/
structure MapT (P : Program) (t k e : TypeId) : Prop where
  tk : P.underlying t = some (.map k e)
  kk : P.underlying k = some .string
  ee : P.underlying e = some (.int .i64)
  z : ∀ w, (zeroValue e).run P w = .ok (.int .i64 0) w
theorem HWm_look {id : Nat} {ops : List Oper} (n : Nat) {t : TypeId} (hT : MapT P t k e) {o : Oper} {more : List Oper} (hsp : ops = ops.take n ++ o :: more) (hg : o.guard = none) {m x : Operand} (hop : o.op = .lookup t m x true) {d : Nat} (hd : o.dst = some d) (hdok : dstOk N (some d) = true)
    (h : ∀ K : HS → Prop, (∀ S', Q .normal g S' → K S') → HV2 P N (dsts ops) (fun S1 => ∃ s : ByteArray, hev S1.env m = some (.v (.map (some r))) ∧ hev S1.env x = some (.v (.string s)) ∧ s.size ≤ maxLen ∧
      HStop (HV2 P N (dsts ops) K more) (S1.set (some d) (.tup [.v (.int .i64 ((g.2 s.data.toList).getD 0)), .v (.bool (g.2 s.data.toList).isSome)]))) (ops.take n) S) : HWm P N k e r (.region id ops.toArray false) Q g S := fun c l w hcr I M => fun hk F => by
  obtain ⟨c1, I1, back⟩ := sub_back I M
  have h1 := HV2_VC (c := c1) _ S l w (h (Q .normal g) fun _ h => h) I1
  have key : wpList P ops.toArray (lift N (fun e' l' w' => ∃ S' g', Inv c S' (lk l') w' ∧ MapIs P k e w' r g'.1 g'.2 ∧ Q e' g' S')) (ops.take n ++ o :: more) (mk F l) w := by
    refine VC_pre F (fun l1 w1 hk1 hK1 => ?_) _ l w hk h1
    obtain ⟨S1, IS, s, hm, hx, hsz, hK2⟩ := hK1
    obtain ⟨I2, M2⟩ := back S1 (lk l1) w1 IS
    obtain ⟨D, hD, hDm, hDv⟩ := M2
    have hI2 := I2
    obtain ⟨ρ2, xs2, G2⟩ := I2
    obtain ⟨vm, m1, m2⟩ := G2.ev (agr_self _ l1) hm
    obtain ⟨vx, x1, x2⟩ := G2.ev (agr_self _ l1) hx
    have := repH_v m2; subst this
    have := repH_v x2; subst this
    refine wpList_lookup_own_ok_int w1 hg m x t hop k e .i64 (string_keyed hT.kk) hT.tk hT.ee (hT.z w1) r g.1 D (eval_mk F hk1 m1) hD (.string s) (.string s.data.toList) (eval_mk F hk1 x1) (WideMaps.keyOf_string_mk hT.kk hsz) fun cc hat hwf => ?_
    have e1 := hDv s.data.toList
    rw [e1.2] at hat
    have ecc : (g.2 s.data.toList).getD 0 = cc := by
      injection hat with hat
      injection hat
    rw [hd, put_mk, e1.1, ← ecc]
    have hlt := dstOk_lt hdok
    obtain ⟨c3, I3, back3⟩ := sub_back (S := S1.set (some d) (.tup [.v (.int .i64 ((g.2 s.data.toList).getD 0)), .v (.bool (g.2 s.data.toList).isSome)])) (look := lk (stp (some d) (.tuple #[.int .i64 ((g.2 s.data.toList).getD 0), .bool (g.2 s.data.toList).isSome]) l1)) (c := c) (w := w1) (P := P) (k := k) (e := e) (r := r) (n := g.1) (T := g.2) (by
      refine ⟨ρ2, xs2, G2.rows, G2.apart, fun q y hy => ?_, G2.kept, G2.a0⟩
      simp only [HS.set, hlk] at hy
      simp only [stp, lk]
      by_cases eq : d = q
      · rw [if_pos eq] at hy ⊢
        simp only [Option.some.injEq] at hy
        subst hy
        refine ⟨_, rfl, .tup rfl fun j a b => ?_⟩
        match j, a with
        | 0, _ => exact .v _
        | 1, _ => exact .v _
      · rw [if_neg eq] at hy ⊢
        exact G2.env q y hy) ⟨D, hD, hDm, hDv⟩
    refine VC_sound F (ops := ops) (K := fun l w => ∃ S' g', Inv c S' (lk l) w ∧ MapIs P k e w r g'.1 g'.2 ∧ Q .normal g' S') (fun l' w' hk' hK => ⟨F, l', rfl, hk', hK⟩) _ _ _ (keysLt_put hk1 (fun q eq => by cases eq; exact hlt)) ?_
    have h4 := HV2_VC (c := c3) _ _ _ w1 hK2 I3
    exact HW_reg.V.mono h4 fun l' w' ⟨S', I', q⟩ => by
      obtain ⟨I5, M5⟩ := back3 S' _ _ I'
      exact ⟨S', g, I5, M5, q⟩
  rw [← hsp] at key
  exact wp_region_lit key
theorem HWm_upd {id : Nat} {ops : List Oper} (n : Nat) {t : TypeId} (hT : MapT P t k e) {o : Oper} (hsp : ops = ops.take n ++ [o]) (hg : o.guard = none) {m x v : Operand} (hop : o.op = .mapUpdate t m x v) (hd : o.dst = none) (hn : g.1 < maxLen)
    (h : HV2 P N (dsts ops) (fun S1 => ∃ (s : ByteArray) (i : Int), hev S1.env m = some (.v (.map (some r))) ∧ hev S1.env x = some (.v (.string s)) ∧ hev S1.env v = some (.v (.int .i64 i)) ∧ s.size ≤ maxLen ∧ (Lit.int .i64 i).wf = true ∧
      Q .normal (g.1 + 1, g.2.put s.data.toList i) S1) (ops.take n) S) : HWm P N k e r (.region id ops.toArray false) Q g S := fun c l w hcr I M => fun hk F => by
  obtain ⟨c1, I1, back⟩ := sub_back I M
  have h1 := HV2_VC (c := c1) _ S l w h I1
  have key : wpList P ops.toArray (lift N (fun e' l' w' => ∃ S' g', Inv c S' (lk l') w' ∧ MapIs P k e w' r g'.1 g'.2 ∧ Q e' g' S')) (ops.take n ++ [o]) (mk F l) w := by
    refine VC_pre F (fun l1 w1 hk1 hK1 => ?_) _ l w hk h1
    obtain ⟨S1, IS, s, i, hm, hx, hv, hsz, hwf, hK2⟩ := hK1
    obtain ⟨I2, M2⟩ := back S1 (lk l1) w1 IS
    have hlt := M2.lt
    have hno : ∀ ρ2 xs2, Good c S1 (lk l1) w1 ρ2 xs2 → ¬ Owns ρ2 S1.st r := fun ρ2 xs2 G2 => not_owned G2 M2
    obtain ⟨D, hD, hDm, hDv⟩ := M2
    obtain ⟨ρ2, xs2, G2⟩ := I2
    have hno := hno ρ2 xs2 G2
    obtain ⟨vm, m1, m2⟩ := G2.ev (agr_self _ l1) hm
    obtain ⟨vx, x1, x2⟩ := G2.ev (agr_self _ l1) hx
    obtain ⟨vv, v1, v2⟩ := G2.ev (agr_self _ l1) hv
    have := repH_v m2; subst this
    have := repH_v x2; subst this
    have := repH_v v2; subst this
    refine wpList_mapUpdate_own w1 hg m x v t hop k e (string_keyed hT.kk) hT.tk (plainElem P e) r g.1 D (eval_mk F hk1 m1) hD hn (.string s) (.int .i64 i) (.string s.data.toList) (eval_mk F hk1 x1) (eval_mk F hk1 v1) (WideMaps.keyOf_string_mk hT.kk hsz) (.lit (.int .i64 i)) [] (plainElem_int hT.ee hwf) fun w2 hD2 hgr => ?_
    rw [hd, put_mk]
    have hcell : ∀ b o u, w1.cell? ⟨b, o, none⟩ = some u → w2.cell? ⟨b, o, none⟩ = some u := fun b o u hu => by
      by_cases eb : b = r
      · subst eb
        obtain ⟨es, cl, hh, _⟩ := hD
        simp only [World.cell?, hh] at hu
        cases hu
      · rw [cell_block (hgr.block b (by have := World.block_lt_of_cell? w1 ⟨b, o, none⟩ hu; exact this) (fun e => eb (Option.some.inj e)))]; exact hu
    have G3 : Good c S1 (lk (stp none undef l1)) w2 ρ2 xs2 := by
      refine G2.upc hgr.size hcell (fun b hb => hgr.block b ?_ fun e => hno ((Option.some.inj e) ▸ hb)) ?_
      · obtain ⟨i', s', h5, h6⟩ := hb; exact G2.lt h5 h6
      · exact G2.kept.trans (T' := fun b => b = r) ⟨hgr.os, hgr.tape, hgr.output, hgr.size, fun b hb hne => hgr.block b hb fun e => hne (Option.some.inj e)⟩ fun b hb e => absurd hb (by omega)
    unfold wpList
    refine ⟨F, _, rfl, hk1, S1, (g.1 + 1, g.2.put s.data.toList i), ⟨ρ2, xs2, G3⟩, ⟨_, hD2, ?_, fun q => ?_⟩, hK2⟩
    · obtain ⟨es, cl, _, _, _, h6⟩ := hD2
      exact ⟨_, h6⟩
    · have hkl : WideAt.IsKeyLit (.string s.data.toList) := trivial
      by_cases eq : q = s.data.toList
      · subst eq
        rw [Maps.has_put_same hDm hkl, Maps.atKey_put_same hDm hkl]
        simp [Tab.put]
      · have hne : Lit.string q ≠ Lit.string s.data.toList := fun h => eq (by injection h)
        rw [Maps.has_put_other hne, Maps.atKey_put_other hne]
        simp only [Tab.put, if_neg eq]
        exact hDv q
  rw [← hsp] at key
  exact wp_region_lit key
end
end Go.Eng
