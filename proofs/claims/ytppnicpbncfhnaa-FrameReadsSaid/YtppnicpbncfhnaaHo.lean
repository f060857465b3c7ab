/-
  What an operation makes of values: as a function; and that memory follows.
-/
import Derived.Test.YtppnicpbncfhnaaHv
import Derived.Laws.BytesArg
set_option linter.unusedSimpArgs false
set_option linter.unusedVariables false
namespace Go.Eng
open Go Go.RowKit

def leaf : Option HV → Option Value
  | some (.v x) => some x
  | _ => none
/-- the leaves of a frame -/
def lo : HEnv → Env
  | [] => []
  | (k, h) :: r => match h with
    | .v x => (k, x) :: lo r
    | _ => (lo r).filter (fun p => p.1 != k)
theorem lk_filter (k : Nat) : ∀ (l : Env) (t : Nat), lk (l.filter (fun p => p.1 != k)) t = if t = k then none else lk l t
  | [], t => by simp [lk]
  | (j, v) :: r, t => by
    by_cases e : j = k
    · subst e
      rw [List.filter_cons_of_neg (by simp), lk_filter j r t]
      by_cases e2 : t = j
      · simp [e2]
      · rw [if_neg e2, if_neg e2, lk, if_neg (by omega)]
    · rw [List.filter_cons_of_pos (by simpa using e)]
      simp only [lk]
      by_cases e2 : j = t
      · rw [if_pos e2, if_pos e2, if_neg (by omega)]
      · rw [if_neg e2, if_neg e2, lk_filter k r t]
theorem lk_lo : ∀ (l : HEnv) (t : Nat), lk (lo l) t = leaf (hlk l t)
  | [], t => rfl
  | (k, h) :: r, t => by
    have ih := lk_lo r t
    simp only [hlk]
    by_cases e : k = t
    · subst e
      rw [if_pos rfl]
      cases h <;> simp [lo, lk, leaf, lk_filter]
    · rw [if_neg e]
      cases h <;> simp only [lo] <;> first | (rw [lk_filter, if_neg (by omega)]; exact ih) | (rw [lk, if_neg e]; exact ih)
def hev (l : HEnv) : Operand → Option HV
  | .tmp t => hlk l t
  | .const v => some (.v v)
  | .global g => some (.v (.pointer (some ⟨g, 0, none⟩)))
  | .func f => some (.v (.func (.func f) #[] #[]))
def hevs (l : HEnv) : List Operand → Option (List HV)
  | [] => some []
  | x :: r => match hev l x with
    | some v => match hevs l r with
      | some vs => some (v :: vs)
      | none => none
    | none => none
/-- a condition, as it is to be proved -/
def Cond (p : Prop) : Prop := p
/-- every element has so many cells -/
def Wid (sz : Nat) (xs : List (List FV)) : Prop := ∀ x ∈ xs, x.length = sz
inductive HOut where
  | go (c : Prop) (h : HV) (S : HS)
  | call (f : FuncId) (args : List HV)
  | eqn (t : TypeId) (xs ys : List Value) (neg : Bool)
  | bad
def HV.f : HV → Option FV
  | .v x => some (.v x)
  | .lst fr xs => some (.lst fr xs)
  | _ => none
def HV.fs : List HV → Option (List FV)
  | [] => some []
  | h :: r => match h.f, HV.fs r with
    | some f, some fs => some (f :: fs)
    | _, _ => none
def FV.one : FV → Bool
  | .v x => x.oneCell'
  | .lst _ _ => true
def HV.one : HV → Bool
  | .v x => x.oneCell'
  | .agg _ | .tup _ | .junk => false
  | _ => true
/-- the cells that a value has -/
def hcells : HV → Option (List HV)
  | .agg cs => some cs
  | .tup _ | .junk => none
  | .v (.agg _) | .v (.tuple _) => none
  | h => some [h]
def splice {α : Type} (l : List α) (k : Nat) (cs : List α) : List α := l.take k ++ cs ++ l.drop (k + cs.length)
def sset (id : Nat) (r : Row) : Store → Store
  | [] => []
  | (k, s) :: t => if k = id then (k, r) :: t else (k, s) :: sset id r t
theorem rlk_sset (id : Nat) (r : Row) : ∀ (st : Store) (r0 : Row) (_ : rlk st id = some r0) (i : Nat), rlk (sset id r st) i = if i = id then some r else rlk st i
  | [], r0, h, i => by simp [rlk] at h
  | (k, s) :: t, r0, h, i => by
    simp only [rlk] at h
    simp only [sset]
    by_cases e : k = id
    · subst e
      rw [if_pos rfl]
      simp only [rlk]
      by_cases e2 : k = i
      · rw [if_pos e2, if_pos e2.symm]
      · rw [if_neg e2, if_neg (by omega), if_neg e2]
    · rw [if_neg e] at h
      rw [if_neg e]
      simp only [rlk]
      by_cases e2 : k = i
      · rw [if_pos e2, if_neg (by omega), if_pos e2]
      · rw [if_neg e2, if_neg e2, rlk_sset id r t r0 h i]
def oneAll (z : Array Value) : Bool := z.toList.all (·.oneCell')
theorem oneAll_all (z : Array Value) : oneAll z = z.all (·.oneCell') := Array.all_toList
def hMove (S : HS) : Option HV → HOut
  | some h => .go True h S
  | none => .bad
def hPick (S : HS) : Option HV → Option HV → Option HV → HOut
  | some (.v (.bool t)), some a, some b => .go True (bif t then a else b) S
  | _, _, _ => .bad
def hExtract (S : HS) (i : Nat) : Option HV → HOut
  | some (.tup hs) => match hs[i]? with
    | some h => .go True h S
    | none => .bad
  | _ => .bad
def hField (S : HS) (fp : Option (Nat × Option Nat)) : Option HV → HOut
  | some (.agg hs) => match fp with
    | some (off, none) => match hs[off]? with
      | some h => .go True h S
      | none => .bad
    | some (off, some n) => .go (Cond (off + n ≤ hs.length)) (.agg ((hs.drop off).take n)) S
    | none => .bad
  | _ => .bad
def hFAddr (S : HS) (fo : Option Nat) : Option HV → HOut
  | some (.ptr id sz i k) => match fo with
    | some off => .go True (.ptr id sz i (k + off)) S
    | none => .bad
  | some (.elt fr xs sz i k) => match fo with
    | some off => .go True (.elt fr xs sz i (k + off)) S
    | none => .bad
  | _ => .bad
def hNil (S : HS) : Option HV → HOut
  | some (.ptr id sz i k) => .go True (.ptr id sz i k) S
  | some (.elt fr xs sz i k) => .go True (.elt fr xs sz i k) S
  | _ => .bad
def hIAddrR (S : HS) (id : Nat) (n : Int) : Option (Nat × Nat) → Option Row → HOut
  | some (_, sz), some (.sl _ _ s els) => .go (Cond (sz = s ∧ 0 ≤ n ∧ n < els.length)) (.ptr id s n.toNat 0) S
  | _, _ => .bad
def hIAddrL (S : HS) (fr : Bool) (xs : List (List FV)) (n : Int) : Option (Nat × Nat) → HOut
  | some (_, sz) => .go (Cond (0 ≤ n ∧ n < xs.length) ∧ Wid sz xs) (.elt fr xs sz n.toNat 0) S
  | none => .bad
def hIAddrP (S : HS) (id sz i k : Nat) (n : Int) : Option (Nat × Nat) → HOut
  | some (len, size) => .go (Cond (0 ≤ n ∧ n < len)) (.ptr id sz i (k + n.toNat * size)) S
  | none => .bad
def hIAddrE (S : HS) (fr : Bool) (xs : List (List FV)) (sz i k : Nat) (n : Int) : Option (Nat × Nat) → HOut
  | some (len, size) => .go (Cond (0 ≤ n ∧ n < len)) (.elt fr xs sz i (k + n.toNat * size)) S
  | none => .bad
def hIAddrV (S : HS) (id s off m : Nat) (n : Int) : Option (Nat × Nat) → Option Row → HOut
  | some (_, sz), some (.sl _ _ s' els) => .go (Cond (sz = s ∧ s' = s ∧ 0 ≤ n ∧ n < m)) (.ptr id s (off + n.toNat) 0) S
  | _, _ => .bad
def hIAddr (S : HS) (us ua : Option (Nat × Nat)) : Option HV → Option HV → HOut
  | some (.vw id s off m), some (.v (.int _ n)) => hIAddrV S id s off m n us (rlk S.st id)
  | some (.own id), some (.v (.int _ n)) => hIAddrR S id n us (rlk S.st id)
  | some (.lst fr xs), some (.v (.int _ n)) => hIAddrL S fr xs n us
  | some (.ptr id sz i k), some (.v (.int _ n)) => hIAddrP S id sz i k n ua
  | some (.elt fr xs sz i k), some (.v (.int _ n)) => hIAddrE S fr xs sz i k n ua
  | _, _ => .bad
def hLenR (S : HS) (c : Prop) : Option Row → HOut
  | some (.sl _ _ _ els) => .go c (.v (.int .i64 els.length)) S
  | _ => .bad
def hLen (S : HS) (c : Prop) : Option HV → HOut
  | some (.vw _ _ _ n) => .go c (.v (.int .i64 n)) S
  | some (.own id) => hLenR S c (rlk S.st id)
  | some (.lst _ xs) => .go c (.v (.int .i64 xs.length)) S
  | _ => .bad
def hSliceL (S : HS) (fr : Bool) (xs : List (List FV)) : Option Int → Option Int → Option (Nat × Nat) → HOut
  | some a, some b, some (_, sz) => .go (Cond (0 ≤ a ∧ a ≤ b ∧ b ≤ xs.length) ∧ Wid sz xs) (.lst fr ((xs.take b.toNat).drop a.toNat)) S
  | _, _, _ => .bad
def hSliceR (S : HS) (id : Nat) : Option Int → Option Int → Option (Nat × Nat) → Option Row → HOut
  | some a, some b, some (_, sz), some (.sl _ _ s els) => .go (Cond (sz = s ∧ 0 ≤ a ∧ a ≤ b ∧ b ≤ els.length)) (.vw id s a.toNat (b.toNat - a.toNat)) S
  | _, _, _, _ => .bad
def hSliceV (S : HS) (id sz off : Nat) : Option Int → Option Int → Option (Nat × Nat) → Option Row → HOut
  | some a, some b, some (_, sz'), some (.sl _ _ s els) => .go (Cond (sz' = sz ∧ s = sz ∧ 0 ≤ a ∧ a ≤ b ∧ off + b ≤ els.length)) (.vw id sz (off + a.toNat) (b.toNat - a.toNat)) S
  | _, _, _, _ => .bad
def rlen : Option Row → Nat
  | some (.sl _ _ _ els) => els.length
  | _ => 0
def hSlice (S : HS) (us : Option (Nat × Nat)) (lo' hi' : Option Operand) : Option HV → HOut
  | some (.own id) => hSliceR S id (oInt (lo S.env) lo' 0) (oInt (lo S.env) hi' (rlen (rlk S.st id))) us (rlk S.st id)
  | some (.vw id sz off n) => hSliceV S id sz off (oInt (lo S.env) lo' 0) (oInt (lo S.env) hi' n) us (rlk S.st id)
  | some (.lst fr xs) => hSliceL S fr xs (oInt (lo S.env) lo' 0) (oInt (lo S.env) hi' xs.length) us
  | _ => .bad
def hLoadR (S : HS) (sz i k : Nat) : Option (Option Nat) → Option Row → HOut
  | some none, some (.sl _ _ s els) => .go (Cond (sz = s ∧ i < els.length ∧ k < (els.getD i []).length)) ((els.getD i []).getD k default).h S
  | some (some n), some (.sl _ _ s els) => .go (Cond (sz = s ∧ i < els.length ∧ k + n ≤ (els.getD i []).length)) (.agg ((((els.getD i []).drop k).take n).map FV.h)) S
  | some none, some (.bx _ _ cells) => .go (Cond (i = 0 ∧ k < cells.length)) (cells.getD k .junk) S
  | some (some n), some (.bx _ _ cells) => .go (Cond (i = 0 ∧ k + n ≤ cells.length)) (.agg ((cells.drop k).take n)) S
  | _, _ => .bad
def hLoadE (S : HS) (xs : List (List FV)) (i k : Nat) : Option (Option Nat) → HOut
  | some none => .go (Cond (i < xs.length ∧ k < (xs.getD i []).length)) ((xs.getD i []).getD k default).h S
  | some (some n) => .go (Cond (i < xs.length ∧ k + n ≤ (xs.getD i []).length)) (.agg ((((xs.getD i []).drop k).take n).map FV.h)) S
  | none => .bad
def hLoad (S : HS) (kt : Option (Option Nat)) : Option HV → HOut
  | some (.ptr id sz i k) => hLoadR S sz i k kt (rlk S.st id)
  | some (.elt _ xs _ i k) => hLoadE S xs i k kt
  | _ => .bad
def hStoreS (S : HS) (id sz i k : Nat) (nw : Bool) (ty s : Nat) (els : List (List FV)) : Option (Option Nat) → HV → HOut
  | some none, h => match h.f with
    | some f => .go (Cond (sz = s ∧ i < els.length ∧ k < (els.getD i []).length ∧ f.one = true)) (.v undef) ⟨S.env, sset id (.sl nw ty s (els.set i ((els.getD i []).set k f))) S.st⟩
    | none => .bad
  | some (some n), .agg hs => match HV.fs hs with
    | some fs => .go (Cond (sz = s ∧ i < els.length ∧ fs.length = n ∧ k + n ≤ (els.getD i []).length)) (.v undef) ⟨S.env, sset id (.sl nw ty s (els.set i (splice (els.getD i []) k fs))) S.st⟩
    | none => .bad
  | _, _ => .bad
def hStoreB (S : HS) (id i k : Nat) (nw : Bool) (ty : Nat) (cells : List HV) : Option (Option Nat) → HV → HOut
  | some none, h => .go (Cond (i = 0 ∧ k < cells.length ∧ h.one = true)) (.v undef) ⟨S.env, sset id (.bx nw ty (cells.set k h)) S.st⟩
  | some (some n), .agg hs => .go (Cond (i = 0 ∧ hs.length = n ∧ k + n ≤ cells.length)) (.v undef) ⟨S.env, sset id (.bx nw ty (splice cells k hs)) S.st⟩
  | _, _ => .bad
def hStoreR (S : HS) (id sz i k : Nat) (kt : Option (Option Nat)) (h : HV) : Option Row → HOut
  | some (.sl nw ty s els) => hStoreS S id sz i k nw ty s els kt h
  | some (.bx nw ty cells) => hStoreB S id i k nw ty cells kt h
  | none => .bad
def hStore (S : HS) (kt : Option (Option Nat)) : Option HV → Option HV → HOut
  | some (.ptr id sz i k), some h => hStoreR S id sz i k kt h (rlk S.st id)
  | _, _ => .bad
def hAlloc (S : HS) (id : Nat) (t : TypeId) : Option (Array Value) → HOut
  | some z => .go (Cond (oneAll z = true)) (.ptr id z.size 0 0) ((S.kill (only id)).row id (.bx true t (z.toList.map .v)))
  | none => .bad
def hBoxC (S : HS) (id : Nat) (t : TypeId) : Option (List HV) → HOut
  | some cs => .go True (.ptr id cs.length 0 0) ((S.kill (only id)).row id (.bx true t (cs.map (HV.kill (only id)))))
  | none => .bad
def hBox (S : HS) (id : Nat) (t : TypeId) : Option HV → HOut
  | some h => hBoxC S id t (hcells h)
  | none => .bad
def partsH (l : HEnv) : List (Nat × Operand) → Option (List (Nat × HV))
  | [] => some []
  | (i, x) :: r => match hev l x with
    | some v => match partsH l r with
      | some vs => some ((i, v) :: vs)
      | none => none
    | none => none
/-- where a part of a struct or an array lies, and how many cells it has -/
def partT (P : Program) (t i : Nat) : Option (Nat × Nat) :=
  match P.underlying t with
  | some (.struct fs) => match fs[i]? with
    | some fl => (P.info? fl.type).map fun x => (fl.offset, x.size)
    | none => none
  | some (.array _ e) => (P.info? e).map fun x => (i * x.size, x.size)
  | _ => none
def buildable (P : Program) (t : TypeId) : Bool :=
  match P.underlying t with
  | some (.struct fs) => fs.all fun f => (P.info? f.type).isSome
  | some (.array _ e) => (P.info? e).isSome
  | _ => false
def hfill (place : Nat → Option (Nat × Nat)) : List HV → List (Nat × HV) → Option (Prop × List HV)
  | cells, [] => some (True, cells)
  | cells, (i, h) :: r => match place i with
    | some (off, n) => match hcells h with
      | some cs => match hfill place (splice cells off cs) r with
        | some (c, out) => some (Cond (cs.length = n ∧ off + n ≤ cells.length) ∧ c, out)
        | none => none
      | none => none
    | none => none
def hBuildF (S : HS) (ok : Bool) : Option (Prop × List HV) → HOut
  | some (c, cs) => .go (Cond (ok = true) ∧ c) (.agg cs) S
  | none => .bad
def hBuild (S : HS) (ok : Bool) (place : Nat → Option (Nat × Nat)) : Option (Array Value) → Option (List (Nat × HV)) → HOut
  | some z, some ps => hBuildF S (ok && oneAll z) (hfill place (z.toList.map .v) ps)
  | _, _ => .bad
/-- the elements that are written out -/
def hlit (sz : Nat) : List (List FV) → List (Nat × HV) → Option (Prop × List (List FV))
  | els, [] => some (True, els)
  | els, (i, h) :: r => match hcells h with
    | some cs => match HV.fs cs with
      | some fs => match hlit sz (els.set i fs) r with
        | some (c, out) => some (Cond (fs.length = sz ∧ i < els.length) ∧ c, out)
        | none => none
      | none => none
    | none => none
def hBuildSF (S : HS) (id e sz n : Nat) : Option (Prop × List (List FV)) → HOut
  | some (c, els) => .go (Cond (n * sz ≤ 16777216 ∧ n ≤ 16777216) ∧ c) (.own id) ((S.kill (only id)).row id (.sl true e sz els))
  | none => .bad
def hBuildS (S : HS) (id n : Nat) : Option (Nat × Nat × Nat × Array Value) → Option (List (Nat × HV)) → HOut
  | some (e, sz, _, z), some ps => match oneAll z && z.size == sz with
    | true => hBuildSF S id e sz n (hlit sz (List.replicate n (z.toList.map .v)) ps)
    | false => .bad
  | _, _ => .bad
def hMake (S : HS) (id : Nat) : Option (Nat × Nat × Nat × Array Value) → Option HV → Option HV → HOut
  | some (e, sz, by', z), some (.v (.int .i64 n)), some (.v (.int .i64 m)) => match oneAll z && z.size == sz with
    | true => .go (Cond (n = m ∧ 0 ≤ n ∧ by' * n.toNat ≤ 281474976710656 ∧ n.toNat ≤ maxLen)) (.own id) ((S.kill (only id)).row id (.sl true e sz (List.replicate n.toNat (z.toList.map .v))))
    | false => .bad
  | _, _, _ => .bad
/-- what is appended -/
def newsOf (st : Store) (sz : Nat) : HV → Option (Prop × List (List FV))
  | .own id => match rlk st id with
    | some (.sl _ _ s els) => some (Cond (s = sz), els)
    | _ => none
  | .lst _ xs => some (Wid sz xs, xs)
  | .vw id s off n => match rlk st id with
    | some (.sl _ _ s' els) => some (Cond (s = sz ∧ s' = sz), (els.drop off).take n)
    | _ => none
  | .v (.slice none 0 0) => some (True, [])
  | _ => none
def hAppN (S : HS) (id e sz by' : Nat) (nw : Bool) (els : List (List FV)) : Option (Prop × List (List FV)) → HOut
  | some (c, news) => .go (c ∧ Cond ((els.length + news.length) * by' ≤ 140737488355328 ∧ 0 < by' ∧ 0 < sz)) (.own id) ((S.kill (only id)).row id (.sl nw e sz (els ++ news)))
  | none => .bad
/-- a text's bytes, as elements -/
def byteE (s : ByteArray) : List (List FV) := s.data.toList.map fun b => [.v (.int .u8 b.toNat)]
def newsS : HV → Option (Prop × List (List FV))
  | .v (.string s) => some (True, byteE s)
  | _ => none
def newsA (same str : Bool) (st : Store) (sz : Nat) (x : HV) : Option (Prop × List (List FV)) := match same with
  | true => newsOf st sz x
  | false => match str with
    | true => newsS x
    | false => none
/-- a text is appended to bytes -/
def strT (P : Program) (ats : Array TypeId) : Bool := match ats.toList with
  | [t, u] => (match P.underlying u with | some .string => true | _ => false) && (match P.underlying t with
    | some (.slice e) => (match P.info? e with
      | some i => i.size == 1 && i.bytes == 1 && (match i.zero with | some (.int .u8 0) => true | _ => false)
      | none => false)
    | _ => false)
  | _ => false
def hAppR (S : HS) (id e sz by' : Nat) (news : Option (Prop × List (List FV))) : Option Row → HOut
  | some (.sl nw ty s els) => match decide (ty = e) && decide (s = sz) with
    | true => hAppN S id e sz by' nw els news
    | false => .bad
  | _ => .bad
def hAppend (S : HS) (nid : Nat) (same str : Bool) : Option (Nat × Nat × Nat × Array Value) → Option (List HV) → HOut
  | some (e, sz, by', z), some [.own id, x] => match (same || str) && z.size == sz with
    | true => hAppR S id e sz by' (newsA same str S.st sz x) (rlk S.st id)
    | false => .bad
  | some (e, sz, by', z), some [.v (.slice none 0 0), x] => match same && z.size == sz with
    | true => hAppN S nid e sz by' true [] (newsOf S.st sz x)
    | false => .bad
  | _, _ => .bad
def leafs : List HV → Option (List Value)
  | [] => some []
  | .v x :: r => match leafs r with
    | some vs => some (x :: vs)
    | none => none
  | _ => none
def hEqL (t : TypeId) (neg : Bool) : Option (List Value) → Option (List Value) → HOut
  | some xs, some ys => .eqn t xs ys neg
  | _, _ => .bad
def hEq (S : HS) (up : Bool) (t : TypeId) (neg : Bool) : Option HV → Option HV → HOut
  | some (.agg xs), some (.agg ys) => hEqL t neg (leafs xs) (leafs ys)
  | some (.ptr _ _ _ _), some (.v (.pointer none)) => .go (Cond (up = true)) (.v (.bool neg)) S
  | some (.elt _ _ _ _ _), some (.v (.pointer none)) => .go (Cond (up = true)) (.v (.bool neg)) S
  | _, _ => .bad
/-- bytes as numbers -/
def bytesH : List (List FV) → Option (List Int)
  | [] => some []
  | [.v (.int .u8 n)] :: r => match bytesH r with
    | some ns => some (n :: ns)
    | none => none
  | _ => none
def convOk (P : Program) (s d : TypeId) : Bool :=
  match P.underlying s with
  | some (.slice e) => match P.underlying e with
    | some (.int .u8) => uStr P d
    | _ => false
  | _ => false
def hConvL (S : HS) (ok : Bool) : Option (List Int) → HOut
  | some ns => .go (Cond (ok = true)) (.v (.string (strOfNums ns))) S
  | none => .bad
def hConvR (S : HS) (ok : Bool) : Option Row → HOut
  | some (.sl _ _ _ els) => hConvL S ok (bytesH els)
  | _ => .bad
def hConv (S : HS) (ok : Bool) : Option HV → HOut
  | some (.own id) => hConvR S ok (rlk S.st id)
  | some (.lst _ xs) => hConvL S ok (bytesH xs)
  | _ => .bad
def hCall (f : FuncId) : Option (List HV) → HOut
  | some hs => .call f hs
  | none => .bad
def ats0 (ats : Array TypeId) : TypeId := ats.getD 0 0
def heff (P : Program) (S : HS) (id : Nat) : Op → HOut
  | .move x => hMove S (hev S.env x)
  | .assign x => hMove S (hev S.env x)
  | .pick c a b => hPick S (hev S.env c) (hev S.env a) (hev S.env b)
  | .extract x i => hExtract S i (hev S.env x)
  | .field t x f => hField S (fPart P t f) (hev S.env x)
  | .fieldAddr t x f => hFAddr S (fOff P t f) (hev S.env x)
  | .nilCheck x => hNil S (hev S.env x)
  | .indexAddr t x i => hIAddr S (uSlice P t) (uArr P t) (hev S.env x) (hev S.env i)
  | .slice t x l h none => hSlice S (uSlice P t) l h (hev S.env x)
  | .load t x => hLoad S (kindT P t) (hev S.env x)
  | .store t x y => hStore S (kindT P t) (hev S.env x) (hev S.env y)
  | .alloc t => hAlloc S id t (zeroT P t)
  | .box t x => hBox S id t (hev S.env x)
  | .build t ps => hBuild S (buildable P t) (partT P t) (zeroT P t) (partsH S.env ps.toList)
  | .buildSlice t n ps => hBuildS S id n (seOf P t) (partsH S.env ps.toList)
  | .makeSlice t x y => hMake S id (seOf P t) (hev S.env x) (hev S.env y)
  | .call ⟨.builtin .len, args, ats⟩ => match hevs S.env args.toList with
    | some [h] => hLen S (Cond ((uSlice P (ats0 ats)).isSome = true ∧ ats.size = 1)) (some h)
    | _ => .bad
  | .call ⟨.builtin .append, args, ats⟩ => hAppend S id (ats == #[ats0 ats, ats0 ats]) (strT P ats) (seOf P (ats0 ats)) (hevs S.env args.toList)
  | .call ⟨.value (.func f), args, _⟩ => hCall f (hevs S.env args.toList)
  | .binOp .eql t x y _ => hEq S (uPtr P t) t false (hev S.env x) (hev S.env y)
  | .binOp .neq t x y _ => hEq S (uPtr P t) t true (hev S.env x) (hev S.env y)
  | .convert s d x => hConv S (convOk P s d) (hev S.env x)
  | _ => .bad
def hPure (S : HS) (id : Nat) (P : Program) (o : Op) : Option (Prop × Value) → HOut
  | some (c, v) => .go c (.v v) S
  | none => heff P S id o
/-- an operation; new rows get the name id -/
def hop (P : Program) (S : HS) (id : Nat) (o : Op) : HOut := hPure S id P o (pureOp P (lo S.env) o)
end Go.Eng
