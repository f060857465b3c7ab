/-
  A region that draws its order: one call that is handed rows and maps; the other heads move what stands in slots, or read a variable of plain values.
-/
import Derived.Test.YtojolcpblacjjaaGreatDoorMt
import Derived.Test.YtojolcpblacjjaaGreatDoorDrj
set_option linter.unusedSimpArgs false
set_option linter.unusedVariables false
namespace Go.Eng
open Go Go.RowKit Go.Maps
inductive SK where
 | mv (d k : Nat)
 | fa (d off : Nat)
 | ld (d j off : Nat)
 | go
def skM (d : Nat) : Option HV → bX → bX
 | some x, r => (d, x) :: r
 | none, r => r
def skL (d : Nat) : Option Value → bX → bX
 | some v, r => (d, .v v) :: r
 | none, r => r
def skE (E : bX) (cells : List Value) : List SK → bX
 | [] => []
 | .mv d k :: r => skM d (hlk E k) (skE E cells r)
 | .ld d _ off :: r => skL d cells[off]? (skE E cells r)
 | .fa _ _ :: r => skE E cells r
 | .go :: r => skE E cells r
theorem iJ (d : Nat) (x : HV) (r : bX) : skM d (some x) r = (d, x) :: r := (fun h => h) rfl
theorem iK (d : Nat) (x : Value) (r : bX) : skL d (some x) r = (d, .v x) :: r := (fun h => h) rfl
theorem mL (E : bX) (cells : List Value) : skE E cells [] = [] := (fun h => h) rfl
theorem qY (E : bX) (cells : List Value) (d k : Nat) (r : List SK) : skE E cells (.mv d k :: r) = skM d (hlk E k) (skE E cells r) := (fun h => h) rfl
theorem qZ (E : bX) (cells : List Value) (d j off : Nat) (r : List SK) : skE E cells (.ld d j off :: r) = skL d cells[off]? (skE E cells r) := (fun h => h) rfl
theorem uA (E : bX) (cells : List Value) (d off : Nat) (r : List SK) : skE E cells (.fa d off :: r) = skE E cells r := (fun h => h) rfl
theorem tZ (E : bX) (cells : List Value) (r : List SK) : skE E cells (.go :: r) = skE E cells r := (fun h => h) rfl
def uM (q : Nat) : List SK → Nat → Bool
 | [], _ => true
 | .go :: r, i => i == q && uM q r (i + 1)
 | .mv _ _ :: r, i => uM q r (i + 1)
 | .fa _ _ :: r, i => uM q r (i + 1)
 | .ld _ _ _ :: r, i => uM q r (i + 1)
theorem qK0 {q : Nat} : ∀ {ks : List SK} {i j : Nat}, uM q ks i = true → ks[j]? = some .go → i + j = q
 | [], i, j, _, h => by simp at h
 | a :: r, i, 0, H, h => by
  simp only [List.getElem?_cons_zero, Option.some.injEq] at h
  subst h
  simp only [uM, Bool.and_eq_true, beq_iff_eq] at H
  omega
 | a :: r, i, j + 1, H, h => by
  have H2 : uM q r (i + 1) = true := by
   cases a <;> simp only [uM, Bool.and_eq_true] at H <;> first | exact H | exact H.2
  have := qK0 (j := j) H2 (by simpa using h)
  omega
def zHr (P : Program) (ke : List Nat) (ops : List Oper) (ks0 : List SK) (v sz i : Nat) : SK → Prop
 | .mv d k => ∃ o, ops[i]? = some o ∧ o.op = .move (.tmp k) ∧ o.guard = none ∧ o.dst = some d ∧ ke.contains k = true
 | .fa d off => ∃ o T f, ops[i]? = some o ∧ o.op = .fieldAddr T (.tmp v) f ∧ o.guard = none ∧ o.dst = some d ∧ fG P T f = some off
 | .ld d j off => ∃ o T t, ops[i]? = some o ∧ o.op = .load T (.tmp t) ∧ o.guard = none ∧ o.dst = some d ∧ cM P T = some none ∧ ks0[j]? = some (.fa t off) ∧ off < sz ∧ j < i
 | .go => True
def SkOk (P : Program) (ke : List Nat) (ops : List Oper) (ks0 : List SK) (v sz : Nat) : List SK → Nat → Prop
 | [], _ => True
 | k :: r, i => zHr P ke ops ks0 v sz i k ∧ SkOk P ke ops ks0 v sz r (i + 1)
theorem SkOk.get {P : Program} {ke : List Nat} {ops : List Oper} {ks0 : List SK} {v sz : Nat} : ∀ {ks : List SK} {i j : Nat} {k : SK}, SkOk P ke ops ks0 v sz ks i → ks[j]? = some k → zHr P ke ops ks0 v sz (i + j) k
 | [], i, j, k, _, h => by simp at h
 | a :: r, i, 0, k, H, h => by
  simp only [List.getElem?_cons_zero, Option.some.injEq] at h
  subst h; exact H.1
 | a :: r, i, j + 1, k, H, h => by
  have := SkOk.get (j := j) H.2 (by simpa using h)
  rw [show i + 1 + j = i + (j + 1) by omega] at this; exact this
theorem qYj {a b : bX} {k : Nat} {x : HV} (h : hlk (a ++ b) k = some x) : hlk a k = some x ∨ hlk b k = some x := by
 induction a with
 | nil => exact .inr h
 | cons p r ih =>
  obtain ⟨j, y⟩ := p
  simp only [List.cons_append, hlk] at h ⊢
  by_cases e : j = k
  ·rw [if_pos e] at h; rw [if_pos e]; exact .inl h
  ·rw [if_neg e] at h; rw [if_neg e]; exact ih h
theorem qQh {E : bX} {cells : List Value} {k : Nat} {x : HV} : ∀ {ks : List SK}, hlk (skE E cells ks) k = some x → ∃ j : Nat, (∃ k', ks[j]? = some (.mv k k') ∧ hlk E k' = some x) ∨ ∃ j' off v, ks[j]? = some (.ld k j' off) ∧ cells[off]? = some v ∧ x = .v v
 | [], h => by simp [skE, hlk] at h
 | s :: r, h => by
  have tail : hlk (skE E cells r) k = some x → ∃ j : Nat, (∃ k', (s :: r)[j]? = some (.mv k k') ∧ hlk E k' = some x) ∨ ∃ j' off v, (s :: r)[j]? = some (.ld k j' off) ∧ cells[off]? = some v ∧ x = .v v := fun h => by
   obtain ⟨j, hj⟩ := qQh h
   exact ⟨j + 1, by simpa using hj⟩
  cases s with
  | mv d k' =>
   rw [qY] at h
   cases hy : hlk E k' with
   | none => rw [hy] at h; exact tail h
   | some y =>
    rw [hy, iJ] at h
    simp only [hlk] at h
    by_cases e : d = k
    ·rw [if_pos e] at h
     cases h
     exact ⟨0, .inl ⟨k', by simp [e], hy⟩⟩
    ·rw [if_neg e] at h; exact tail h
  | ld d j' off =>
   rw [qZ] at h
   cases hv : cells[off]? with
   | none => rw [hv] at h; exact tail h
   | some v =>
    rw [hv, iK] at h
    simp only [hlk] at h
    by_cases e : d = k
    ·rw [if_pos e] at h
     cases h
     exact ⟨0, .inr ⟨j', off, v, by simp [e], hv, rfl⟩⟩
    ·rw [if_neg e] at h; exact tail h
  | fa d off => exact tail h
  | go => exact tail h
section
variable {P : Program} {N : Nat} {S : HS} {g : MS} {Q : kK}
theorem qZd {c : Ctx} {look : Nat → Option Value} {w : World} {ρ : Nat → Value} {xs : Nat → List Value} (G : Good c S look w ρ xs) {v X b off : Nat} {cells : List Value} {nw : Bool} {ty : Nat} {u : Value}
  (h1 : hlk S.env v = some (.ptr X cells.length 0 0)) (h2 : look v = some (.pointer (some ⟨b, 0, none⟩))) (h3 : rlk S.st X = some (.bx nw ty (cells.map .v))) (h4 : cells[off]? = some u) : w.cell? ⟨b, off, none⟩ = some u := by
 obtain ⟨y, y1, y2⟩ := G.env v _ h1
 rw [h2] at y1
 cases y1
 have R := G.rows X _ h3
 obtain ⟨⟨g', hg, -⟩, hcs⟩ := R.rep
 obtain ⟨g2, cap, hg2, -, -, hcell⟩ := dY R.own (by simp [Row.len])
 have hb : b = g' := by
  generalize hp : Value.pointer (some ⟨b, 0, none⟩) = pv at y2
  cases y2 with
  | ptr _ _ _ hρ =>
   rw [hg] at hρ
   simp only [Value.slice.injEq, Option.some.injEq, Addr.mk.injEq] at hρ
   simp only [Value.pointer.injEq, Option.some.injEq, Addr.mk.injEq] at hp
   omega
 rw [hg] at hg2
 simp only [Value.slice.injEq, Option.some.injEq, Addr.mk.injEq] at hg2
 obtain ⟨hk, hu⟩ := List.getElem?_eq_some_iff.1 h4
 obtain ⟨u', u1, u2, u3⟩ := hcs off (by simpa using hk)
 rw [List.getElem_map] at u3
 have := bS u3
 have := hcell _ _ u1
 rw [hb, hg2.1.1, this]
 simp_all
def zL7 (ops : List Oper) (q : Nat) : Bool := (List.range q).all fun j => uX ops q j || (List.range q).any fun k => uX ops q k && uX ops k j
theorem kD {id : Nat} {ops : List Oper} (n q v X dq nn : Nat) (kinds : List SK) (ids : List Nat) {cells : List Value} {nwX : Bool} {tyX : Nat} {oq : Oper} {f : FuncId} {args args' : List HV} {st : aN} {R : HV → aN → MS → Prop} {fx : Operand} {ay : Array Operand} {ats : Array TypeId}
  (hm : P.follows .mixedOrders = true) (hok : rP (bT S.env) ops n = true) (hqn : q < n) (hkn : kinds.length = n) (hkq : kinds[q]? = some .go) (hgo : uM q kinds 0 = true) (hsk : SkOk P (bT S.env) ops kinds v cells.length kinds 0) (kF : zL7 ops q = true)
  (hov : ((bT S.env).all fun k => (List.range n).all fun j => bA ops j != some k) = true) (hdl : ((List.range n).all fun j => match bA ops j with | some d => Nat.blt d N | none => true) = true)
  (hX : hlk S.env v = some (.ptr X cells.length 0 0)) (hrX : rlk S.st X = some (.bx nwX tyX (cells.map .v)))
  (hq : ops[q]? = some oq) (hcq : oq.op = .call ⟨.value fx, ay, ats⟩) (hgq : oq.guard = none) (hdq : oq.dst = some dq) (hfn : fnH (hev (skE S.env cells (kinds.take q) ++ S.env) fx) = some f)
  (hc : aJ P f = true) (has : lX (skE S.env cells (kinds.take q) ++ S.env) ay.toList = some args) (H : HFunM P f args' st g R)
  (hdup : dup ids = false) (hlen : ids.length ≤ 8) (hids : ∀ i ∈ ids, cV nn i = false) (hst : iE (pos ids) S.st 0 ids = st) (hargs : args.map (HV.ren (pos ids)) = args')
  (hX2 : ∀ h st' g', R h st' g' → hlk (S.swap ids nn st').env v = some (.ptr X cells.length 0 0) ∧ rlk (S.swap ids nn st').st X = some (.bx nwX tyX (cells.map .v)))
  (h : ∀ h st' g', R h st' g' → HVM P N ops Q (ops.drop n) g' ⟨(dq, h.ren (sh2 ids nn)) :: (skE (S.swap ids nn st').env cells kinds ++ (S.swap ids nn st').env), (S.swap ids nn st').st⟩) : HWM P N (.region id ops.toArray true) Q g S := fun c l w I M => by
 have honly : ∀ i, kinds[i]? = some .go → i = q := fun i hi => by have := qK0 hgo hi; omega
 have hks : ∀ k ∈ bT S.env, ∃ v, lk l k = some v := fun k hk => by
  obtain ⟨x, hx⟩ := jQ hk
  obtain ⟨ρ, xs, G⟩ := I
  obtain ⟨v, h1, -⟩ := G.env k x hx
  exact ⟨v, h1⟩
 refine xG (bT S.env) ?_
 have I' : Inv c S (lk (keep (bT S.env) l)) w := I.agree fun k x hk => lB (jP hk)
 have hkk : oK (keep (bT S.env) l) = bT S.env := kR hks
 generalize keep (bT S.env) l = l' at I' hkk
 have I0 := I'
 obtain ⟨ρ, xs, G⟩ := I'
 have ok := gN hok
 have uniq : ∀ i j t, i < n → j < n → bA ops i = some t → bA ops j = some t → i = j := by
  intro i j t hi hj h1 h2
  rcases Nat.lt_trichotomy i j with h | h | h
  ·rcases ok.uniq j i hj h with e | e
   ·rw [h2] at e; cases e
   ·exact absurd (h2.trans h1.symm) e
  ·exact h
  ·rcases ok.uniq i j hi h with e | e
   ·rw [h1] at e; cases e
   ·exact absurd (h1.trans h2.symm) e
 have hlt : DLt N ops n := fun i t hi hd => by
  have := List.all_eq_true.1 hdl i (List.mem_range.2 hi)
  rw [hd] at this
  simpa [Nat.blt_eq] using this
 have over : ∀ k x, hlk S.env k = some x → ∀ j, j < n → bA ops j ≠ some k := fun k x hk j hj e => by
  have := List.all_eq_true.1 (List.all_eq_true.1 hov k (jP hk)) j (List.mem_range.2 hj)
  rw [e] at this
  simp at this
 obtain ⟨b, hb⟩ : ∃ b, lk l' v = some (.pointer (some ⟨b, 0, none⟩)) := by
  obtain ⟨y, y1, y2⟩ := G.env v _ hX
  generalize hx : HV.ptr X cells.length 0 0 = hv at y2
  cases y2 with
  | @ptr _ b0 _ _ sz i k hρ =>
   cases hx
   exact ⟨b0, by rw [y1]; simp⟩
  | _ => cases hx
 -- the value of a head
 let val : Nat → Value := fun j => match kinds[j]? with
  | some (.mv _ k) => (lk l' k).getD undef
  | some (.fa _ off) => .pointer (some ⟨b, off, none⟩)
  | some (.ld _ _ off) => cells.getD off undef
  | _ => undef
 let uR : Value → World → Prop := fun u w' => ∃ h st' g', R h st' g' ∧ InvV c (S.swap ids nn st') (h.ren (sh2 ids nn)) u (lk l') w' ∧ MsOk P c w' g'
 let J : (Nat → Bool) → (Nat → Value) → World → Prop := fun L vs w' => (∀ j, j < n → j ≠ q → L j = true → vs j = val j) ∧ (L q = false → Below w.heap.size w w' ∧ w'.heap = w.heap) ∧ (L q = true → uR (vs q) w')
 have oldE : ∀ (vs : Nat → Value) (i k : Nat) (x : HV), i ≤ n → hlk S.env k = some x → lk (dQ l' ops vs i) k = lk l' k := fun vs i k x hi hk => (gT (l := l') (vs := vs) #[] k i fun j hj => over k x hk j (by omega)).1
 have newE : ∀ (vs : Nat → Value) (i j t : Nat), i ≤ n → j < i → bA ops j = some t → lk (dQ l' ops vs i) t = some (vs j) := fun vs i j t hi hj hd => (iW (l := l') (vs := vs) hlt (base := Array.replicate N undef) (by simp) hd (fun k hk hne e => hne (uniq k j t hk (by omega) e hd)) i hi hj).1
 have cellJ : ∀ {L : Nat → Bool} {vs : Nat → Value} {w' : World}, J L vs w' → ∀ {off : Nat} {u : Value}, cells[off]? = some u → w'.cell? ⟨b, off, none⟩ = some u := fun {L vs w'} hJ {off u} hu => by
  cases hL : L q with
  | false =>
   have e := (hJ.2.1 hL).2
   have := qZd G hX hb hrX hu
   simp only [World.cell?, e] at this ⊢
   exact this
  | true =>
   obtain ⟨h', st', g', hR, ⟨ρ', xs', G', -⟩, -⟩ := hJ.2.2 hL
   obtain ⟨a1, a2⟩ := hX2 _ _ _ hR
   exact qZd G' a1 hb a2 hu
 have still : ∀ {L : Nat → Bool} {vs : Nat → Value} {w1 : World} {i : Nat}, J L vs w1 → i < n → i ≠ q → L i = false → J (fun j => if j = i then true else L j) (fun j => if j = i then val i else vs j) w1 := fun {L vs w1 i} hJ hi hne hL => by
  refine ⟨fun j hj hjq hl => ?_, fun hl => ?_, fun hl => ?_⟩
  ·try dsimp only
   by_cases e : j = i
   ·subst e; rw [if_pos rfl]
   ·rw [if_neg e]; dsimp only at hl; rw [if_neg e] at hl; exact hJ.1 j hj hjq hl
  ·dsimp only at hl; rw [if_neg (fun e => hne e.symm)] at hl; exact hJ.2.1 hl
  ·dsimp only at hl ⊢; rw [if_neg (fun e => hne e.symm)] at hl ⊢; exact hJ.2.2 hl
 refine fun hkl F => ?_
 refine wp_region_any hm ?_
 have hdr : J (fun _ => false) (fun _ => undef) w.drew := ⟨fun j _ _ e => (by cases e), fun _ => ⟨(Below.refl _ _).drew, rfl⟩, fun e => (by cases e)⟩
 have main := zA6 (P := P) ok F hkl (fun t ht => sH (by rw [hkk]; exact ht)) hlt (J := J) (Q := qV7 N fun e l w' => ∃ S' g', Inv c S' (lk l) w' ∧ MsOk P c w' g' ∧ Q e g' S') ?_ ?_ ops.length (Array.replicate ops.length false) (mk F l') w.drew (fun _ => undef) (kV _)
  ⟨by simp, (fun i j hi => by rw [getD_replicate_false] at hi; cases hi), (fun i hi => by rw [getD_replicate_false] at hi; cases hi), rfl, by simp [mk, jJ, F.hN], (fun j t _ hl => by rw [getD_replicate_false] at hl; cases hl), (fun t _ => rfl), trivial⟩
  (by
   have e : (fun j => (Array.replicate ops.length false).getD j false) = fun _ => false := by funext j; exact getD_replicate_false _ _
   rw [e]; exact hdr)
 ·simpa using main
 ·intro i o hi ho L vs w1 hJ hL hdep hclos
  by_cases hiq : i = q
  ·subst hiq
   rw [hq] at ho
   cases ho
   refine ⟨true, by rw [hgq]; rfl, fun _ => ?_, fun e => (by cases e)⟩
   obtain ⟨hB, hheap⟩ := hJ.2.1 hL
   have hall : ∀ j, j < i → L j = true := fun j hj => by
    have := List.all_eq_true.1 kF j (List.mem_range.2 hj)
    rw [Bool.or_eq_true] at this
    rcases this with h1 | h1
    ·exact hdep j h1
    ·obtain ⟨k, hk, h2⟩ := List.any_eq_true.1 h1
     rw [Bool.and_eq_true] at h2
     exact hclos k j (hdep k h2.1) h2.2
   have GB := G.below hB
   have Ga : Good c ⟨skE S.env cells (kinds.take i) ++ S.env, S.st⟩ (lk (dQ l' ops vs i)) w1 ρ xs := by
    refine ⟨GB.rows, GB.apart, fun k x hk => ?_, GB.kept, GB.a0⟩
    rcases qYj hk with hk | hk
    ·obtain ⟨j, hj⟩ := qQh hk
     have hji : j < i := by
      have : j < (kinds.take i).length := by
       rcases hj with ⟨k', e, -⟩ | ⟨j', off, v', e, -⟩ <;> exact (List.getElem?_eq_some_iff.1 e).1
      rw [List.length_take] at this; omega
     have hval := hJ.1 j (by omega) (by omega) (hall j hji)
     rcases hj with ⟨k', e, hk'⟩ | ⟨j', off, v', e, hc', rfl⟩
     ·rw [List.getElem?_take_of_lt hji] at e
      have hS := hsk.get e
      rw [Nat.zero_add] at hS
      obtain ⟨oj, ho1, -, -, hd1, -⟩ := hS
      obtain ⟨y, y1, y2⟩ := GB.env k' x hk'
      refine ⟨vs j, newE vs i j k (by omega) hji (by unfold bA; rw [ho1]; exact hd1), ?_⟩
      have : val j = y := by simp only [val, e, y1]; rfl
      rw [hval, this]; exact y2
     ·rw [List.getElem?_take_of_lt hji] at e
      have hS := hsk.get e
      rw [Nat.zero_add] at hS
      obtain ⟨oj, T, t, ho1, -, -, hd1, -⟩ := hS
      refine ⟨vs j, newE vs i j k (by omega) hji (by unfold bA; rw [ho1]; exact hd1), ?_⟩
      have : val j = v' := by simp only [val, e, List.getD_eq_getElem?_getD, hc']; rfl
      rw [hval, this]; exact .v _
    ·obtain ⟨y, y1, y2⟩ := GB.env k x hk
     exact ⟨y, by rw [oldE vs i k x (by omega) hk]; exact y1, y2⟩
   have MB := M.block (w' := w1) fun b' hb' _ => by rw [hheap]
   obtain ⟨us, e1, e2, e3⟩ := Ga.evs (bN _ _) has
   have hst := hst
   have hargs := hargs
   subst hst; subst hargs
   obtain ⟨c1, ρ1, xs1, hw1, hT, hnT, hfT, G1, R1, back⟩ := qDs nn ids hdup hlen hids (fun b => b ∈ bsL g) GB (fun b hb => by
    obtain ⟨m, hm, hb⟩ := List.mem_flatMap.1 hb
    obtain ⟨i, hi⟩ := List.mem_iff_getElem?.1 hm
    exact ⟨MB.dull hi hb, MB.foot i m b hi hb⟩) (R := (⟨e2, e3⟩ : mX w1 (c.A ρ S.st) c.n0 ρ us args))
   have M1 : MsOk P c1 w1 g := ⟨MB.ok, MB.nd, fun i m b hi hb => .inr (hT b (List.mem_flatMap.2 ⟨m, List.mem_iff_getElem?.2 ⟨i, hi⟩, hb⟩))⟩
   have hcall := H c1 w1 ρ1 xs1 us hw1 G1 M1 R1
   have hv : bM P (dQ l' ops vs i) oq.op oq.type w1 (fun u w2 => uR u w2) (fun u w2 => uR u w2) := by
    rw [hcq]
    unfold bM
    simp only [aV, cD, e1, Ga.fn (bN _ _) hfn]
    refine ⟨hc, Ret.mono hcall fun u w2 ⟨h, st2, g2, ρ2, xs2, h8, hbx, ⟨m, hm⟩, q, G2, M2, hr⟩ => ⟨h, st2, g2, q, back u w2 h st2 ρ2 xs2 h8 hbx (fun b hb => ?_) G2 hr, M2.ok, M2.nd, fun i m b hi hb => ?_⟩⟩
    ·have : b ∈ bsL g2 := by rw [hm]; exact List.mem_append_left _ hb
     obtain ⟨m', hm', hb'⟩ := List.mem_flatMap.1 this
     obtain ⟨i, hi⟩ := List.mem_iff_getElem?.1 hm'
     exact M2.dull hi hb'
    ·rcases M2.foot i m b hi hb with h | h
     ·rw [hw1] at h
      have := GB.kept.size
      exact .inl (by omega)
     ·exact hfT b h
   exact (gE (fun x X hx => by simp [evD, hx]) hv).mono fun u w2 hP => ⟨fun j hj hjq hl => by
    try dsimp only
    rw [if_neg hjq]
    dsimp only at hl; rw [if_neg hjq] at hl
    exact hJ.1 j hj hjq hl, fun hl => by simp at hl, fun _ => by simpa using hP⟩
  · -- a head that leaves the memory ay it is
   have hik : i < kinds.length := by omega
   obtain ⟨k, hk⟩ : ∃ k, kinds[i]? = some k := ⟨_, List.getElem?_eq_getElem hik⟩
   have hS := hsk.get hk
   rw [Nat.zero_add] at hS
   have fin : ∀ (o : Oper), ops[i]? = some o → o.guard = none → bM P (dQ l' ops vs i) o.op o.type w1 (fun u w2 => u = val i ∧ w2 = w1) (fun u w2 => u = val i ∧ w2 = w1) →
     ∃ b, gd (dQ l' ops vs i) (cP ops) o.guard (· = b) ∧ (b = true → Yields P (execOp (evD (dQ l' ops vs i)) o) w1 fun u w' => J (fun j => if j = i then true else L j) (fun j => if j = i then u else vs j) w') ∧ (b = false → J (fun j => if j = i then true else L j) (fun j => if j = i then undef else vs j) w1) := fun o _ hg hv =>
    ⟨true, by rw [hg]; rfl, fun _ => (gE (fun x X hx => by simp [evD, hx]) hv).mono fun u w2 ⟨e1, e2⟩ => by subst e1; subst e2; exact still hJ hi hiq hL, fun e => (by cases e)⟩
   cases k with
   | go => exact absurd (honly i hk) hiq
   | mv d k' =>
    obtain ⟨o', ho', hop, hg, hd, hke⟩ := hS
    rw [ho] at ho'; cases ho'
    refine fin o ho hg ?_
    have hkey : ∃ y, lk (dQ l' ops vs i) k' = some y ∧ y = (lk l' k').getD undef := by
     obtain ⟨x, hx⟩ := jQ (List.contains_iff_mem.1 hke)
     obtain ⟨y, y1, -⟩ := G.env k' x hx
     exact ⟨y, by rw [oldE vs i k' x (by omega) hx]; exact y1, by rw [y1]; rfl⟩
    obtain ⟨y, y1, y2⟩ := hkey
    rw [hop]
    unfold bM
    simp only [aV, wW, y1]
    exact ⟨trivial, by simp only [val, hk]; exact y2, trivial⟩
   | fa d off =>
    obtain ⟨o', T, fi, ho', hop, hg, hd, hf⟩ := hS
    rw [ho] at ho'; cases ho'
    refine fin o ho hg ?_
    have y1 : lk (dQ l' ops vs i) v = some (.pointer (some ⟨b, 0, none⟩)) := by rw [oldE vs i v _ (by omega) hX]; exact hb
    rw [hop]
    unfold bM
    simp only [aV, wW, y1, hf, Addr.add_lit]
    exact ⟨trivial, by simp only [val, hk, Nat.zero_add], trivial⟩
   | ld d j off =>
    obtain ⟨o', T, t, ho', hop, hg, hd, hkt, hkj, hoff, hji⟩ := hS
    rw [ho] at ho'; cases ho'
    refine fin o ho hg ?_
    have hSj := hsk.get hkj
    rw [Nat.zero_add] at hSj
    obtain ⟨oj, Tj, fj, hoj, -, -, hdj, -⟩ := hSj
    have hdj' : bA ops j = some t := by unfold bA; rw [hoj]; exact hdj
    have hjq : j ≠ q := fun e => by rw [e, hkq] at hkj; cases hkj
    have lks := ok.looks i o t hi ho (nC (by rw [hop]; exact qD8 (List.mem_singleton.2 rfl)))
    have hLj := hdep j (lks.1 j (by omega) hdj').2
    have y1 : lk (dQ l' ops vs i) t = some (.pointer (some ⟨b, off, none⟩)) := by
     rw [newE vs i j t (by omega) hji hdj', hJ.1 j (by omega) hjq hLj]
     simp only [val, hkj]
    have hcell := cellJ hJ (List.getElem?_eq_getElem hoff)
    rw [hop]
    unfold bM
    simp only [aV, cD, wW, y1, hkt, hcell]
    exact ⟨by simp only [val, hk, List.getD_eq_getElem?_getD, List.getElem?_eq_getElem hoff]; rfl, trivial⟩
 ·intro L vs w1 hJ hall
  obtain ⟨h', st', g', hR, ⟨ρ', xs', G', hr⟩, M'⟩ := hJ.2.2 (hall q hqn)
  have hfin := h h' st' g' hR
  have hdq' : bA ops q = some dq := by unfold bA; rw [hq]; exact hdq
  have G2 : Good c ⟨(dq, h'.ren (sh2 ids nn)) :: (skE (S.swap ids nn st').env cells kinds ++ (S.swap ids nn st').env), (S.swap ids nn st').st⟩ (lk (dQ l' ops vs n)) w1 ρ' xs' := by
   refine ⟨G'.rows, G'.apart, fun k x hk => ?_, G'.kept, G'.a0⟩
   simp only [hlk] at hk
   by_cases e : dq = k
   ·rw [if_pos e] at hk
    cases hk
    subst e
    exact ⟨vs q, newE vs n q dq (Nat.le_refl _) hqn hdq', hr⟩
   rw [if_neg e] at hk
   rcases qYj hk with hk | hk
   ·obtain ⟨j, hj⟩ := qQh hk
    have hjn : j < n := by
     rw [← hkn]
     rcases hj with ⟨k', e, -⟩ | ⟨j', off, v', e, -⟩ <;> exact (List.getElem?_eq_some_iff.1 e).1
    have hjq : j ≠ q := fun e => by
     subst e
     rcases hj with ⟨k', e, -⟩ | ⟨j', off, v', e, -⟩ <;> (rw [hkq] at e; cases e)
    have hval := hJ.1 j hjn hjq (hall j hjn)
    rcases hj with ⟨k', e, hk'⟩ | ⟨j', off, v', e, hc', rfl⟩
    ·have hS := hsk.get e
     rw [Nat.zero_add] at hS
     obtain ⟨oj, ho1, -, -, hd1, -⟩ := hS
     obtain ⟨y, y1, y2⟩ := G'.env k' x hk'
     refine ⟨vs j, newE vs n j k (Nat.le_refl _) hjn (by unfold bA; rw [ho1]; exact hd1), ?_⟩
     have : val j = y := by simp only [val, e, y1]; rfl
     rw [hval, this]; exact y2
    ·have hS := hsk.get e
     rw [Nat.zero_add] at hS
     obtain ⟨oj, T, t, ho1, -, -, hd1, -⟩ := hS
     refine ⟨vs j, newE vs n j k (Nat.le_refl _) hjn (by unfold bA; rw [ho1]; exact hd1), ?_⟩
     have : val j = v' := by simp only [val, e, List.getD_eq_getElem?_getD, hc']; rfl
     rw [hval, this]; exact .v _
   ·obtain ⟨y, y1, y2⟩ := G'.env k x hk
    have hSk : ∃ x0, hlk S.env k = some x0 := by
     have e2 : (S.swap ids nn st').env = lZ (kL ids S.st nn) S.env := rfl
     rw [e2, jN] at hk
     cases hx : hlk S.env k with
     | none => rw [hx] at hk; cases hk
     | some x0 => exact ⟨x0, rfl⟩
    obtain ⟨x0, hx0⟩ := hSk
    exact ⟨y, by rw [oldE vs n k x0 (Nat.le_refl _) hx0]; exact y1, y2⟩
  exact hfin c F _ w1 (yW hlt hkl n (Nat.le_refl _)) ⟨ρ', xs', G2⟩ M'
end
end Go.Eng
