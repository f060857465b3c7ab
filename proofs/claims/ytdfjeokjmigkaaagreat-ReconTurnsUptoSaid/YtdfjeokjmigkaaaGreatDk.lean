/-
  Plain: a disk: items by path, limits by volume; what its calls make of it.
-/
import Derived.Test.YtdfjeokjmigkaaaGreatMr
import Derived.Test.YtdfjeokjmigkaaaGreatTrC
section
set_option linter.unusedSimpArgs false
set_option linter.unusedVariables false
namespace Go.Eng
open Go Go.RowKit Go.Maps
section
variable {P : Program} {N : Nat} {S : HS} {g : MS} {Q : tV}
theorem zJ0 {Qp : qC5} {l : Env} {w : World} {id : Nat} {ops : List Oper} (keys : List Nat) (n : Nat) (hm : P.follows .mixedOrders = true) (aT : pC l = keys) (hok : uN keys ops n = true) (hlt : DLt N ops n)
  {C : World → Prop} {R : Nat → Value → World → Prop} (hC : C w.drew) {Le : Nat → World → World → Prop} (hLe : ∀ i w, Le i w w) (hS : ∀ j i u w w', j < n → i < n → j ≠ i → C w → R j u w → Le i w w' → R j u w')
  (H : ∀ i o, i < n → ops[i]? = some o → ∀ (vs : Nat → Value) (w : World), C w → (∀ j t, j < i → aJ ops j = some t → t ∈ o.looksAt ops.toArray → R j (vs j) w) →
   ∃ b, gd (eH l ops vs i) (bQ ops) o.guard (· = b) ∧ (b = true → Yields P (execOp (evD (eH l ops vs i)) o) w fun u w' => R i u w' ∧ C w' ∧ Le i w w') ∧ (b = false → R i undef w))
  (hT : ∀ (F : Fr N) (vs : Nat → Value) (w : World), bJ N (eH l ops vs n) = true → C w → (∀ j, j < n → R j (vs j) w) → wpList P ops.toArray (qV2 N Qp) (ops.drop n) (mk F (eH l ops vs n)) w) : W P N (.region id ops.toArray true) Qp l w := fun hk F => by
 have ok := nE hok
 refine wp_region_any hm ?_
 have := qM0 ok F hk (fun t ht => uZ (by rw [aT]; exact ht)) hlt hLe hS H (Q := qV2 N Qp)
  (fun vs w' hw' hR => hT F vs w' (qCl hlt hk n (Nat.le_refl _)) hw' hR)
  ops.length (Array.replicate ops.length false) (mk F l) w.drew (fun _ => undef) (oC _)
  ⟨by simp, (fun i j hi => by rw [getD_replicate_false] at hi; cases hi), (fun i hi => by rw [getD_replicate_false] at hi; cases hi), rfl, by simp [mk, lX, F.hN], (fun j t _ hl => by rw [getD_replicate_false] at hl; cases hl), fun t _ => rfl, hC⟩
  (fun j _ hl => by rw [getD_replicate_false] at hl; cases hl)
 simpa using this
theorem zNp {id : Nat} {ops : List Oper} (n : Nat) (hm : P.follows .mixedOrders = true) (hok : uN (aT S.env) ops n = true)
  (h : ∀ K1 : HS → Prop, (∀ S', HVM P N ops Q (ops.drop n) g S' → K1 S') → HVr P N (bQ ops) K1 (ops.take n) S) : HWM P N (.region id ops.toArray true) Q g S := fun c l w I M => by
 have hks : ∀ k ∈ aT S.env, ∃ v, lk l k = some v := fun k hk => by
  obtain ⟨x, hx⟩ := nW hk
  obtain ⟨ρ, xs, G⟩ := I
  obtain ⟨v, h1, -⟩ := G.env k x hx
  exact ⟨v, h1⟩
 refine qA9 (aT S.env) ?_
 have I' : Inv c S (lk (keep (aT S.env) l)) w := I.agree fun k x hk => oF (nV hk)
 have hkk : pC (keep (aT S.env) l) = aT S.env := nM hks
 generalize keep (aT S.env) l = l' at I' hkk
 obtain ⟨ρ, xs, G⟩ := I'
 have ok := nE hok
 have hlen : (ops.take n).length = n := by rw [List.length_take]; have := ok.hn; omega
 have get_take : ∀ {i : Nat} {o : Oper}, (ops.take n)[i]? = some o → i < n ∧ ops[i]? = some o := fun {i o} h => by
  have hi := (List.getElem?_eq_some_iff.1 h).1
  rw [hlen] at hi
  rw [List.getElem?_take_of_lt hi] at h
  exact ⟨hi, h⟩
 obtain ⟨hs, -, heads, S1, e1, F1, h1⟩ := qF5 (E0 := S.env) (st := S.st) (ops.take n) 0 S (fun _ => .junk) (fun k o hk => by rw [Nat.zero_add]; exact (get_take hk).2) rfl (fun t x hx => .inr ⟨fun j hj => absurd hj (Nat.not_lt_zero _), hx⟩) (h _ fun _ h => h)
 rw [hlen, Nat.zero_add] at F1
 have head : ∀ i o, i < n → ops[i]? = some o → HeadOk P N ops S.env S.st hs i o := fun i o hi ho => by
  have := heads i o (by rw [List.getElem?_take_of_lt hi]; exact ho)
  rw [Nat.zero_add] at this; exact this
 have uniq : ∀ i j t, i < n → j < n → aJ ops i = some t → aJ ops j = some t → i = j := by
  intro i j t hi hj h1 h2
  rcases Nat.lt_trichotomy i j with h | h | h
  ·rcases ok.uniq j i hj h with e | e
   ·rw [h2] at e; cases e
   ·exact absurd (h2.trans h1.symm) e
  ·exact h
  ·rcases ok.uniq i j hi h with e | e
   ·rw [h1] at e; cases e
   ·exact absurd (h1.trans h2.symm) e
 have hlt : DLt N ops n := fun i t hi hd => by
  obtain ⟨o, ho, hod⟩ := oA hd
  have := (head i o hi ho).lt
  rw [hod] at this; exact this
 have frame : ∀ (vs : Nat → Value) (w' : World) (i : Nat) (E : aH), i ≤ n → Below w.heap.size w w' → FrOk ops S.env hs i E →
   (∀ j t x, j < i → aJ ops j = some t → hlk E t = some x → RepH w' (c.A ρ S.st) c.n0 ρ (vs j) (hs j)) → Good c ⟨E, S.st⟩ (lk (eH l' ops vs i)) w' ρ xs := fun vs w' i E hi hB F hv => by
  have GB := G.below hB
  refine ⟨GB.rows, GB.apart, fun k x hk => ?_, GB.kept, GB.a0⟩
  rcases F k x hk with ⟨j, a, b, d⟩ | ⟨a, b⟩
  ·refine ⟨vs j, (jK (l := l') (vs := vs) hlt (base := Array.replicate N undef) (by simp) b (fun q hq hne e => hne (uniq q j k hq (by omega) e b)) i hi a).1, ?_⟩
   rw [← d]; exact hv j k x a b hk
  ·obtain ⟨v, v1, v2⟩ := GB.env k x b
   exact ⟨v, by rw [(kY (l := l') (vs := vs) #[] k i a).1]; exact v1, v2⟩
 refine zJ0 (aT S.env) n hm hkk hok hlt (C := fun w' => Below w.heap.size w w') (R := fun j u w' => RepH w' (c.A ρ S.st) c.n0 ρ u (hs j)) (Below.refl _ _).drew (Le := fun _ w w' => Below w.heap.size w w') (fun _ w => Below.refl _ _) (fun j _ u w1 w2 _ _ _ _ hr hB => hr.above hB) ?_ ?_
 ·intro i o hi ho vs w1 hC hR
  obtain ⟨T, TF, TS, run⟩ := (head i o hi ho).head
  have GT : Good c ⟨T, S.st⟩ (lk (eH l' ops vs i)) w1 ρ xs := frame vs w1 i T (by omega) hC TF fun j t x hj hd hx => hR j t hj hd (oR (TS t x hx))
  obtain ⟨b, b1, b2, b3⟩ := run c _ w1 ρ xs GT
  refine ⟨b, b1, fun hb => ?_, fun hb => ?_⟩
  ·exact (iV (fun x X hx => by simp [evD, hx]) (b2 hb)).mono fun u w2 ⟨hu, hB⟩ => ⟨hu, hC.trans (hB.mono hC.size), hB⟩
  ·rw [b3 hb]; exact .v _
 ·intro F vs w1 hk1 hC hR
  obtain ⟨E1, st1⟩ := S1
  have e1 : st1 = S.st := e1
  subst e1
  have G1 := frame vs w1 n E1 (Nat.le_refl _) hC F1 fun j t x hj _ _ => hR j hj
  exact h1 c F _ w1 hk1 ⟨ρ, xs, G1⟩ (M.block fun b hb _ => hC.block b hb.lt)
def bsL (g : MS) : List Nat := g.flatMap MO.bs
def HFunM (P : Program) (f : FuncId) (args : List HV) (st : aB) (g : MS) (Q : HV → aB → MS → Prop) : Prop :=
 ∀ (c : Ctx) (w : World) (ρ : Nat → Value) (xs : Nat → List Value) (vs : List Value), c.w0 = w → Good c ⟨[], st⟩ (fun _ => none) w ρ xs → MsOk P c w g → qAa w (c.A ρ st) c.n0 ρ vs args →
  Calls P f vs.toArray w (Ret fun v w' => ∃ h st' g' ρ' xs', (∀ i r, rlk st' i = some r → i < 8) ∧ (∀ j, uB (rlk st j) → uB (rlk st' j)) ∧ (∃ m, bsL g' = bsL g ++ m) ∧ Q h st' g' ∧ Good c ⟨[], st'⟩ (fun _ => none) w' ρ' xs' ∧ MsOk P c w' g' ∧ RepH w' (c.A ρ' st') c.n0 ρ' v h)
theorem HFunM.mono {f : FuncId} {args : List HV} {st : aB} {R R' : HV → aB → MS → Prop} (h : HFunM P f args st g R) (hq : ∀ h st g, R h st g → R' h st g) : HFunM P f args st g R' :=
 fun c w ρ xs vs hw G M hr => Ret.mono (h c w ρ xs vs hw G M hr) fun v w' ⟨x, st', g', ρ', xs', a, b, d, q, r⟩ => ⟨x, st', g', ρ', xs', a, b, d, hq _ _ _ q, r⟩
theorem zR2 {x : Code} {Qh : eW} (h : HWM P N x (fun e _ S => Qh e S) [] S) : HW P N x Qh S := fun c l w I =>
 (h c l w I ⟨fun i m hi => by simp at hi, fun i j m m' b _ hi => by simp at hi, fun i m b hi => by simp at hi⟩).mono fun e l' w' ⟨S', g', I', _, q⟩ => ⟨S', I', q⟩
end
end Go.Eng
end
section
set_option linter.unusedSimpArgs false
set_option linter.unusedVariables false
namespace Go.Eng
open Go Go.RowKit Go.Maps
theorem wV (v : Option Value) (z : Value) : qZn v z true = .tup [qWe (v.getD z), .v (.bool v.isSome)] := nr rfl
theorem sR (v : Option Value) (z : Value) : qZn v z false = qWe (v.getD z) := nr rfl
end Go.Eng
end
section
set_option linter.unusedSimpArgs false
set_option linter.unusedVariables false
namespace Go.Dk
open Go Go.Tr Go.Eng
structure Itm where
 dir : Bool
 data : ByteArray
 kept : ByteArray
 loose : Bool
 anew : Bool
 stamp : Int
def Itm.val (x : Itm) : Value := .agg #[.bool x.dir, .string x.data, .string x.kept, .bool x.loose, .bool x.anew, .int .i64 x.stamp]
def Itm.hv (x : Itm) : HV := .agg [.v (.bool x.dir), .v (.string x.data), .v (.string x.kept), .v (.bool x.loose), .v (.bool x.anew), .v (.int .i64 x.stamp)]
def zU5 : Itm := ⟨false, ByteArray.empty, ByteArray.empty, false, false, 0⟩
section
variable {α : Type}
def iA : List (ByteArray × α) → ByteArray → Option α
 | [], _ => none
 | (t, x) :: r, s => if t = s then some x else iA r s
def zRy (a b : ByteArray) : Bool := Op.bytesLess a.data.toList b.data.toList
theorem qZ6 (a b : ByteArray) : zRy a b = blt a b := by rw [blt, zRy, Lib.toList_data, Lib.toList_data]
def put (s : ByteArray) (x : α) : List (ByteArray × α) → List (ByteArray × α)
 | [] => [(s, x)]
 | (t, y) :: r => if t = s then (s, x) :: r else if zRy s t then (s, x) :: (t, y) :: r else (t, y) :: put s x r
theorem qR3 (s : ByteArray) (x : α) (u : ByteArray) : ∀ (L : List (ByteArray × α)), iA (put s x L) u = if u = s then some x else iA L u
 | [] => by
  simp only [put, iA]
  by_cases e : u = s
  ·subst e; simp
  ·rw [if_neg (fun h => e h.symm), if_neg e]
 | (t, y) :: r => by
  simp only [put]
  by_cases h1 : t = s
  ·subst h1
   rw [if_pos rfl]
   simp only [iA]
   by_cases e : t = u
   ·subst e; simp
   ·rw [if_neg e, if_neg (fun h => e h.symm), if_neg e]
  ·rw [if_neg h1]
   split
   ·simp only [iA]
    by_cases e : s = u
    ·subst e; simp
    ·rw [if_neg e, if_neg (show ¬ u = s from fun h => e h.symm)]
   ·simp only [iA]
    rw [qR3 s x u r]
    by_cases e : t = u
    ·subst e; simp [h1]
    ·rw [if_neg e, if_neg e]
def tab (f : α → Value) (L : List (ByteArray × α)) : MTab := fun s => (iA L (mkB s)).map f
theorem zPa (f : α → Value) (L : List (ByteArray × α)) (s : ByteArray) : tab f L s.data.toList = (iA L s).map f := by rw [tab, oQ]
theorem qVz {q : List UInt8} {s : ByteArray} : mkB q = s ↔ q = s.data.toList := by
 constructor
 ·rintro rfl; rfl
 ·rintro rfl; exact oQ s
theorem zKi (f : α → Value) (L : List (ByteArray × α)) (s : ByteArray) (x : α) : (tab f L).put s.data.toList (f x) = tab f (put s x L) := by
 funext q
 simp only [MTab.put, tab, qR3]
 by_cases e : q = s.data.toList
 ·rw [if_pos e, if_pos (qVz.2 e)]; rfl
 ·rw [if_neg e, if_neg (fun h => e (qVz.1 h))]
end
def zLe (n : Int) : Value := .int .i64 n
theorem zF5 (L : List (ByteArray × Int)) (s : ByteArray) : qWe ((tab zLe L s.data.toList).getD (.int .i64 0)) = .v (.int .i64 ((iA L s).getD 0)) := by
 rw [zPa]
 cases iA L s <;> rfl
structure Dk where
 L : List (ByteArray × Itm)
 R : List (ByteArray × Int)
 steps : Int
 stamps : Int
 armed : Int
 down : Bool
 n : Nat
 m : Nat
def Dk.new : Dk := ⟨[], [], 0, 0, -1, false, 0, 0⟩
def Dk.cells (d : Dk) (r1 r2 : Nat) : List HV := [.v (.map (some r1)), .v (.map (some r2)), .v (.int .i64 d.steps), .v (.int .i64 d.stamps), .v (.int .i64 d.armed), .v (.bool d.down)]
def Dk.maps (d : Dk) (k r1 r2 : Nat) : MS := [.map r1 k d.n (tab Itm.val d.L), .map r2 k d.m (tab zLe d.R)]
def zM0 (p : ByteArray) : Int := if p = { data := #[] } then 0 else (p.data.toList.count 47 : Nat) + 1
def may (d : Dk) (p : ByteArray) (names : Int) : Int := if d.down then 14 else if pOk p 6 = false ∨ zM0 p ≤ names then 10 else 0
def qL5 (d : Dk) : Int × Dk := if d.armed = 0 then (14, { d with down := true, armed := -1 }) else (0, { d with armed := if 0 < d.armed then d.armed - 1 else d.armed, steps := d.steps + 1 })
def qSh (d : Dk) (p : ByteArray) : Itm := (iA d.L p).getD zU5
def has (d : Dk) (p : ByteArray) : Bool := (iA d.L p).isSome
def zNy (d : Dk) (p : ByteArray) : Bool := decide (zM0 p = 1) || (qSh d (par p)).dir
def zSm (d : Dk) (p : ByteArray) (x : Itm) : Dk := { d with stamps := d.stamps + 1, L := put p { x with stamp := d.stamps + 1 } d.L, n := d.n + 1 }
def mZ : List UInt8 → Nat
 | [] => 0
 | c :: r => if c = 47 then 0 else mZ r + 1
def vol (p : ByteArray) : ByteArray := p.extract 0 (mZ p.data.toList)
def zNx (v : ByteArray) : List (ByteArray × Itm) → Int
 | [] => 0
 | (p, x) :: r => (if vol p = v then (x.data.size : Int) else 0) + zNx v r
def zUb (d : Dk) (v : ByteArray) : Int := zNx v d.L
def zSs (d : Dk) (p : ByteArray) (more : Int) : Bool := match iA d.R (vol p) with
 | none => true
 | some n => decide (more ≤ 0) || decide (zUb d (vol p) + more ≤ n)
def zNv (d : Dk) (p s : ByteArray) : Int × Dk :=
 if may d p 1 ≠ 0 then (may d p 1, d) else if zNy d p = false then (11, d) else if (qSh d p).dir = true then (12, d) else if zSs d p ((s.size : Int) - (qSh d p).data.size) = false then (13, d) else
  if (qL5 d).1 ≠ 0 then qL5 d else (0, zSm (qL5 d).2 p { qSh d p with data := s, loose := true, anew := true })
def zRj (d : Dk) (p : ByteArray) : Int := if may d p 1 ≠ 0 then may d p 1 else if has d p = false then 11 else if (qSh d p).dir = true then 12 else 0
def append (d : Dk) (p s : ByteArray) : Int × Dk :=
 if zRj d p ≠ 0 then (zRj d p, d) else if zSs d p s.size = false then (13, d) else if (qL5 d).1 ≠ 0 then qL5 d else
  (0, zSm (qL5 d).2 p { qSh d p with data := (qSh d p).data ++ s, loose := true })
def zU4 (d : Dk) (p : ByteArray) : Int := if has d p = false then 0 else if (qSh d p).dir = true then 1 else 2
section
variable {α : Type}
def qGy (L : List (ByteArray × α)) : Prop := L.Pairwise fun a b => blt a.1 b.1 = true
theorem qHb {s : ByteArray} {x : α} {e : ByteArray × α} : ∀ {L : List (ByteArray × α)}, e ∈ put s x L → e = (s, x) ∨ e ∈ L
 | [], h => by simp only [put, List.mem_singleton] at h; exact .inl h
 | (t, y) :: r, h => by
  simp only [put] at h
  split at h
  ·rcases List.mem_cons.1 h with h | h
   ·exact .inl h
   ·exact .inr (List.mem_cons_of_mem _ h)
  ·split at h
   ·rcases List.mem_cons.1 h with h | h
    ·exact .inl h
    ·exact .inr h
   ·rcases List.mem_cons.1 h with h | h
    ·exact .inr (by simp [h])
    ·rcases qHb h with h | h
     ·exact .inl h
     ·exact .inr (List.mem_cons_of_mem _ h)
theorem qRg (s : ByteArray) (x : α) : ∀ {L : List (ByteArray × α)}, qGy L → qGy (put s x L)
 | [], _ => by simp [put, qGy]
 | (t, y) :: r, h => by
  obtain ⟨h1, h2⟩ := List.pairwise_cons.1 h
  simp only [put]
  split
  ·rename_i e; subst e
   exact List.pairwise_cons.2 ⟨h1, h2⟩
  ·rename_i hne
   split
   ·rename_i hb
    refine List.pairwise_cons.2 ⟨fun e he => ?_, h⟩
    rw [qZ6] at hb
    rcases List.mem_cons.1 he with rfl | he
    ·exact hb
    ·exact qG hb (h1 e he)
   ·rename_i hb
    rw [qZ6] at hb
    refine List.pairwise_cons.2 ⟨fun e he => ?_, qRg s x h2⟩
    rcases qHb he with rfl | he
    ·rcases qQn t s with h | h | h
     ·exact h
     ·exact absurd h hne
     ·exact absurd h hb
    ·exact h1 e he
theorem qFs {s : ByteArray} {x : α} : ∀ {L : List (ByteArray × α)}, iA L s = some x → (s, x) ∈ L
 | [], h => by simp [iA] at h
 | (t, y) :: r, h => by
  simp only [iA] at h
  split at h
  ·rename_i e; subst e
   simp only [Option.some.injEq] at h
   simp [h]
  ·exact List.mem_cons_of_mem _ (qFs h)
theorem qMq {s : ByteArray} {x : α} : ∀ {L : List (ByteArray × α)}, qGy L → (s, x) ∈ L → iA L s = some x
 | [], _, h => by simp at h
 | (t, y) :: r, hR, h => by
  obtain ⟨h1, h2⟩ := List.pairwise_cons.1 hR
  simp only [iA]
  rcases List.mem_cons.1 h with h | h
  ·cases h; rw [if_pos rfl]
  ·rw [if_neg (fun e => by subst e; have := h1 _ h; rw [yR] at this; cases this)]
   exact qMq h2 h
end
def tot : List (ByteArray × Itm) → Int
 | [] => 0
 | (_, x) :: r => (x.data.size : Int) + tot r
theorem iN {a b : ByteArray} (h : a.data.toList = b.data.toList) : a = b := by rw [← oQ a, ← oQ b, h]
structure Dk.Ok (d : Dk) (B : Int) : Prop where
 rise : qGy d.L
 keys : ∀ e ∈ d.L, e.1.size ≤ 1048576
 size : tot d.L ≤ B
 n : (d.n : Int) ≤ B
 m : (d.m : Int) ≤ B
 steps : 0 ≤ d.steps ∧ d.steps ≤ B
 stamps : 0 ≤ d.stamps ∧ d.stamps ≤ B
 armed : -1 ≤ d.armed ∧ d.armed ≤ 9223372036854775807
end Go.Dk
end
