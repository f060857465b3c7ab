/-
  The equations by which simp unfolds the engine of values.
-/
import Derived.Test.YtppnicpbncfhnaaHl
set_option linter.unusedSimpArgs false
set_option linter.unusedVariables false
namespace Go.Eng
open Go Go.RowKit
theorem hlk_nil (t : Nat) : hlk [] t = none := nr rfl
theorem hlk_cons (k : Nat) (v : HV) (r : HEnv) (t : Nat) : hlk ((k, v) :: r) t = if k = t then some v else hlk r t := nr rfl
theorem rlk_nil (t : Nat) : rlk [] t = none := nr rfl
theorem rlk_cons (k : Nat) (v : Row) (r : Store) (t : Nat) : rlk ((k, v) :: r) t = if k = t then some v else rlk r t := nr rfl
theorem hev_tmp (l : HEnv) (t : Nat) : hev l (.tmp t) = hlk l t := nr rfl
theorem hev_const (l : HEnv) (v : Value) : hev l (.const v) = some (.v v) := nr rfl
theorem hev_global (l : HEnv) (g : Nat) : hev l (.global g) = some (.v (.pointer (some ⟨g, 0, none⟩))) := nr rfl
theorem hev_func (l : HEnv) (f : FuncId) : hev l (.func f) = some (.v (.func (.func f) #[] #[])) := nr rfl
theorem hevs_nil (l : HEnv) : hevs l [] = some [] := nr rfl
theorem hevs_cons (l : HEnv) (x : Operand) (r : List Operand) : hevs l (x :: r) = match hev l x with | some v => (match hevs l r with | some vs => some (v :: vs) | none => none) | none => none := nr rfl
theorem leaf_v (x : Value) : leaf (some (.v x)) = some x := nr rfl
theorem leaf_none  : leaf none = none := nr rfl
theorem leaf_lst (fr : Bool) (xs : List (List FV)) : leaf (some (.lst fr xs)) = none := nr rfl
theorem leaf_own (i : Nat) : leaf (some (.own i)) = none := nr rfl
theorem leaf_ptr (i s j k : Nat) : leaf (some (.ptr i s j k)) = none := nr rfl
theorem leaf_elt (fr : Bool) (xs : List (List FV)) (s j k : Nat) : leaf (some (.elt fr xs s j k)) = none := nr rfl
theorem leaf_agg (cs : List HV) : leaf (some (.agg cs)) = none := nr rfl
theorem leaf_tup (cs : List HV) : leaf (some (.tup cs)) = none := nr rfl
theorem leaf_vw (i s o n : Nat) : leaf (some (.vw i s o n)) = none := nr rfl
theorem leaf_junk  : leaf (some .junk) = none := nr rfl
theorem hPure_some (S : HS) (id : Nat) (P : Program) (o : Op) (c : Prop) (v : Value) : hPure S id P o (some (c, v)) = .go c (.v v) S := nr rfl
theorem hPure_none (S : HS) (id : Nat) (P : Program) (o : Op) : hPure S id P o none = heff P S id o := nr rfl
theorem hop_eq (P : Program) (S : HS) (id : Nat) (o : Op) : hop P S id o = hPure S id P o (pureOp P (lo S.env) o) := nr rfl
theorem heff_move (P : Program) (S : HS) (id : Nat) (x : Operand) : heff P S id (.move x) = hMove S (hev S.env x) := nr rfl
theorem heff_assign (P : Program) (S : HS) (id : Nat) (x : Operand) : heff P S id (.assign x) = hMove S (hev S.env x) := nr rfl
theorem heff_pick (P : Program) (S : HS) (id : Nat) (c a b : Operand) : heff P S id (.pick c a b) = hPick S (hev S.env c) (hev S.env a) (hev S.env b) := nr rfl
theorem heff_extract (P : Program) (S : HS) (id : Nat) (x : Operand) (i : Nat) : heff P S id (.extract x i) = hExtract S i (hev S.env x) := nr rfl
theorem heff_field (P : Program) (S : HS) (id : Nat) (t : TypeId) (x : Operand) (f : Nat) : heff P S id (.field t x f) = hField S (fPart P t f) (hev S.env x) := nr rfl
theorem heff_faddr (P : Program) (S : HS) (id : Nat) (t : TypeId) (x : Operand) (f : Nat) : heff P S id (.fieldAddr t x f) = hFAddr S (fOff P t f) (hev S.env x) := nr rfl
theorem heff_nilc (P : Program) (S : HS) (id : Nat) (x : Operand) : heff P S id (.nilCheck x) = hNil S (hev S.env x) := nr rfl
theorem heff_iaddr (P : Program) (S : HS) (id : Nat) (t : TypeId) (x i : Operand) : heff P S id (.indexAddr t x i) = hIAddr S (uSlice P t) (uArr P t) (hev S.env x) (hev S.env i) := nr rfl
theorem heff_slice (P : Program) (S : HS) (id : Nat) (t : TypeId) (x : Operand) (l h : Option Operand) : heff P S id (.slice t x l h none) = hSlice S (uSlice P t) l h (hev S.env x) := nr rfl
theorem heff_load (P : Program) (S : HS) (id : Nat) (t : TypeId) (x : Operand) : heff P S id (.load t x) = hLoad S (kindT P t) (hev S.env x) := nr rfl
theorem heff_store (P : Program) (S : HS) (id : Nat) (t : TypeId) (x y : Operand) : heff P S id (.store t x y) = hStore S (kindT P t) (hev S.env x) (hev S.env y) := nr rfl
theorem heff_alloc (P : Program) (S : HS) (id : Nat) (t : TypeId) : heff P S id (.alloc t) = hAlloc S id t (zeroT P t) := nr rfl
theorem heff_box (P : Program) (S : HS) (id : Nat) (t : TypeId) (x : Operand) : heff P S id (.box t x) = hBox S id t (hev S.env x) := nr rfl
theorem heff_build (P : Program) (S : HS) (id : Nat) (t : TypeId) (ps : Array (Nat × Operand)) : heff P S id (.build t ps) = hBuild S (buildable P t) (partT P t) (zeroT P t) (partsH S.env ps.toList) := nr rfl
theorem heff_buildS (P : Program) (S : HS) (id : Nat) (t n : TypeId) (ps : Array (Nat × Operand)) : heff P S id (.buildSlice t n ps) = hBuildS S id n (seOf P t) (partsH S.env ps.toList) := nr rfl
theorem heff_makeS (P : Program) (S : HS) (id : Nat) (t : TypeId) (x y : Operand) : heff P S id (.makeSlice t x y) = hMake S id (seOf P t) (hev S.env x) (hev S.env y) := nr rfl
theorem heff_len (P : Program) (S : HS) (id : Nat) (args : Array Operand) (ats : Array TypeId) : heff P S id (.call ⟨.builtin .len, args, ats⟩) = match hevs S.env args.toList with | some [h] => hLen S (Cond ((uSlice P (ats0 ats)).isSome = true ∧ ats.size = 1)) (some h) | _ => .bad := nr rfl
theorem heff_app (P : Program) (S : HS) (id : Nat) (args : Array Operand) (ats : Array TypeId) : heff P S id (.call ⟨.builtin .append, args, ats⟩) = hAppend S id (ats == #[ats0 ats, ats0 ats]) (strT P ats) (seOf P (ats0 ats)) (hevs S.env args.toList) := nr rfl
theorem heff_callf (P : Program) (S : HS) (id : Nat) (f : FuncId) (args : Array Operand) (ats : Array TypeId) : heff P S id (.call ⟨.value (.func f), args, ats⟩) = hCall f (hevs S.env args.toList) := nr rfl
theorem heff_eql (P : Program) (S : HS) (id : Nat) (t : TypeId) (x y : Operand) (u : TypeId) : heff P S id (.binOp .eql t x y u) = hEq S (uPtr P t) t false (hev S.env x) (hev S.env y) := nr rfl
theorem heff_neq (P : Program) (S : HS) (id : Nat) (t : TypeId) (x y : Operand) (u : TypeId) : heff P S id (.binOp .neq t x y u) = hEq S (uPtr P t) t true (hev S.env x) (hev S.env y) := nr rfl
theorem heff_conv (P : Program) (S : HS) (id : Nat) (s d : TypeId) (x : Operand) : heff P S id (.convert s d x) = hConv S (convOk P s d) (hev S.env x) := nr rfl
theorem hMove_eq (S : HS) (h : HV) : hMove S (some h) = .go True h S := nr rfl
theorem hPick_eq (S : HS) (t : Bool) (a b : HV) : hPick S (some (.v (.bool t))) (some a) (some b) = .go True (bif t then a else b) S := nr rfl
theorem hExtract_eq (S : HS) (i : Nat) (hs : List HV) : hExtract S i (some (.tup hs)) = match hs[i]? with | some h => .go True h S | none => .bad := nr rfl
theorem hField_one (S : HS) (off : Nat) (hs : List HV) : hField S (some (off, none)) (some (.agg hs)) = match hs[off]? with | some h => .go True h S | none => .bad := nr rfl
theorem hField_sub (S : HS) (off n : Nat) (hs : List HV) : hField S (some (off, some n)) (some (.agg hs)) = .go (Cond (off + n ≤ hs.length)) (.agg ((hs.drop off).take n)) S := nr rfl
theorem hFAddr_ptr (S : HS) (off id sz i k : Nat) : hFAddr S (some off) (some (.ptr id sz i k)) = .go True (.ptr id sz i (k + off)) S := nr rfl
theorem hFAddr_elt (S : HS) (off : Nat) (fr : Bool) (xs : List (List FV)) (sz i k : Nat) : hFAddr S (some off) (some (.elt fr xs sz i k)) = .go True (.elt fr xs sz i (k + off)) S := nr rfl
theorem hNil_ptr (S : HS) (id sz i k : Nat) : hNil S (some (.ptr id sz i k)) = .go True (.ptr id sz i k) S := nr rfl
theorem hNil_elt (S : HS) (fr : Bool) (xs : List (List FV)) (sz i k : Nat) : hNil S (some (.elt fr xs sz i k)) = .go True (.elt fr xs sz i k) S := nr rfl
theorem hIAddr_own (S : HS) (id : Nat) (us ua : Option (Nat × Nat)) (kk : IntKind) (n : Int) : hIAddr S us ua (some (.own id)) (some (.v (.int kk n))) = hIAddrR S id n us (rlk S.st id) := nr rfl
theorem hIAddr_lst (S : HS) (fr : Bool) (xs : List (List FV)) (us ua : Option (Nat × Nat)) (kk : IntKind) (n : Int) : hIAddr S us ua (some (.lst fr xs)) (some (.v (.int kk n))) = hIAddrL S fr xs n us := nr rfl
theorem hIAddr_ptr (S : HS) (id sz i k : Nat) (us ua : Option (Nat × Nat)) (kk : IntKind) (n : Int) : hIAddr S us ua (some (.ptr id sz i k)) (some (.v (.int kk n))) = hIAddrP S id sz i k n ua := nr rfl
theorem hIAddr_elt (S : HS) (fr : Bool) (xs : List (List FV)) (sz i k : Nat) (us ua : Option (Nat × Nat)) (kk : IntKind) (n : Int) : hIAddr S us ua (some (.elt fr xs sz i k)) (some (.v (.int kk n))) = hIAddrE S fr xs sz i k n ua := nr rfl
theorem hIAddrR_eq (S : HS) (id : Nat) (n : Int) (e sz : Nat) (nw : Bool) (ty s : Nat) (els : List (List FV)) : hIAddrR S id n (some (e, sz)) (some (.sl nw ty s els)) = .go (Cond (sz = s ∧ 0 ≤ n ∧ n < els.length)) (.ptr id s n.toNat 0) S := nr rfl
theorem hIAddrL_eq (S : HS) (fr : Bool) (xs : List (List FV)) (n : Int) (e sz : Nat) : hIAddrL S fr xs n (some (e, sz)) = .go (Cond (0 ≤ n ∧ n < xs.length) ∧ Wid sz xs) (.elt fr xs sz n.toNat 0) S := nr rfl
theorem hIAddrP_eq (S : HS) (id sz i k : Nat) (n : Int) (len size : Nat) : hIAddrP S id sz i k n (some (len, size)) = .go (Cond (0 ≤ n ∧ n < len)) (.ptr id sz i (k + n.toNat * size)) S := nr rfl
theorem hIAddrE_eq (S : HS) (fr : Bool) (xs : List (List FV)) (sz i k : Nat) (n : Int) (len size : Nat) : hIAddrE S fr xs sz i k n (some (len, size)) = .go (Cond (0 ≤ n ∧ n < len)) (.elt fr xs sz i (k + n.toNat * size)) S := nr rfl
theorem hLen_vw (S : HS) (c : Prop) (i s o n : Nat) : hLen S c (some (.vw i s o n)) = .go c (.v (.int .i64 n)) S := nr rfl
theorem hSlice_own (S : HS) (us : Option (Nat × Nat)) (l h : Option Operand) (id : Nat) : hSlice S us l h (some (.own id)) = hSliceR S id (oInt (lo S.env) l 0) (oInt (lo S.env) h (rlen (rlk S.st id))) us (rlk S.st id) := nr rfl
theorem hSlice_vw (S : HS) (us : Option (Nat × Nat)) (l h : Option Operand) (id sz off n : Nat) : hSlice S us l h (some (.vw id sz off n)) = hSliceV S id sz off (oInt (lo S.env) l 0) (oInt (lo S.env) h n) us (rlk S.st id) := nr rfl
theorem hSliceR_eq (S : HS) (id : Nat) (a b : Int) (e sz : Nat) (nw : Bool) (ty s : Nat) (els : List (List FV)) : hSliceR S id (some a) (some b) (some (e, sz)) (some (.sl nw ty s els)) = .go (Cond (sz = s ∧ 0 ≤ a ∧ a ≤ b ∧ b ≤ els.length)) (.vw id s a.toNat (b.toNat - a.toNat)) S := nr rfl
theorem hSliceV_eq (S : HS) (id sz off : Nat) (a b : Int) (e sz' : Nat) (nw : Bool) (ty s : Nat) (els : List (List FV)) : hSliceV S id sz off (some a) (some b) (some (e, sz')) (some (.sl nw ty s els)) = .go (Cond (sz' = sz ∧ s = sz ∧ 0 ≤ a ∧ a ≤ b ∧ off + b ≤ els.length)) (.vw id sz (off + a.toNat) (b.toNat - a.toNat)) S := nr rfl
theorem rlen_sl (nw : Bool) (ty s : Nat) (els : List (List FV)) : rlen (some (.sl nw ty s els)) = els.length := nr rfl
theorem hIAddr_vw (S : HS) (id s off m : Nat) (us ua : Option (Nat × Nat)) (kk : IntKind) (n : Int) : hIAddr S us ua (some (.vw id s off m)) (some (.v (.int kk n))) = hIAddrV S id s off m n us (rlk S.st id) := nr rfl
theorem hIAddrV_eq (S : HS) (id s off m : Nat) (n : Int) (e sz : Nat) (nw : Bool) (ty s' : Nat) (els : List (List FV)) : hIAddrV S id s off m n (some (e, sz)) (some (.sl nw ty s' els)) = .go (Cond (sz = s ∧ s' = s ∧ 0 ≤ n ∧ n < m)) (.ptr id s (off + n.toNat) 0) S := nr rfl
theorem newsOf_vw (st : Store) (sz id s off n : Nat) : newsOf st sz (.vw id s off n) = match rlk st id with | some (.sl _ _ s' els) => some (Cond (s = sz ∧ s' = sz), (els.drop off).take n) | _ => none := nr rfl
theorem hcells_vw (i s o n : Nat) : hcells (.vw i s o n) = some [.vw i s o n] := nr rfl
theorem hone_vw (i s o n : Nat) : (HV.vw i s o n).one = true := nr rfl
theorem hkill_vw (p : Nat → Bool) (i s o n : Nat) : HV.kill p (.vw i s o n) = bif p i then .junk else .vw i s o n := by rw [HV.kill]
theorem hren_vw (m : Nat → Option Nat) (i s o n : Nat) : HV.ren m (.vw i s o n) = match m i with | some j => .vw j s o n | none => .junk := by rw [HV.ren]; cases m i <;> rfl
theorem hsub_vw (id : Nat) (x0 : HV) (i s o n : Nat) : HV.sub id x0 (.vw i s o n) = if i = id then vwSub x0 s o n else .vw i s o n := by rw [HV.sub]
theorem ownIds_vw (i s o n : Nat) : ownIds (.vw i s o n) = [] := nr rfl
theorem ownCell_vw (i s o n : Nat) : ownCell (.vw i s o n) = [] := nr rfl
theorem hLen_own (S : HS) (c : Prop) (id : Nat) : hLen S c (some (.own id)) = hLenR S c (rlk S.st id) := nr rfl
theorem hLen_lst (S : HS) (c : Prop) (fr : Bool) (xs : List (List FV)) : hLen S c (some (.lst fr xs)) = .go c (.v (.int .i64 xs.length)) S := nr rfl
theorem hLenR_eq (S : HS) (c : Prop) (nw : Bool) (ty s : Nat) (els : List (List FV)) : hLenR S c (some (.sl nw ty s els)) = .go c (.v (.int .i64 els.length)) S := nr rfl
theorem hSlice_eq (S : HS) (us : Option (Nat × Nat)) (l h : Option Operand) (fr : Bool) (xs : List (List FV)) : hSlice S us l h (some (.lst fr xs)) = hSliceL S fr xs (oInt (lo S.env) l 0) (oInt (lo S.env) h xs.length) us := nr rfl
theorem hSliceL_eq (S : HS) (fr : Bool) (xs : List (List FV)) (a b : Int) (e sz : Nat) : hSliceL S fr xs (some a) (some b) (some (e, sz)) = .go (Cond (0 ≤ a ∧ a ≤ b ∧ b ≤ xs.length) ∧ Wid sz xs) (.lst fr ((xs.take b.toNat).drop a.toNat)) S := nr rfl
theorem hLoad_ptr (S : HS) (kt : Option (Option Nat)) (id sz i k : Nat) : hLoad S kt (some (.ptr id sz i k)) = hLoadR S sz i k kt (rlk S.st id) := nr rfl
theorem hLoad_elt (S : HS) (kt : Option (Option Nat)) (fr : Bool) (xs : List (List FV)) (sz i k : Nat) : hLoad S kt (some (.elt fr xs sz i k)) = hLoadE S xs i k kt := nr rfl
theorem hLoadR_sl (S : HS) (sz i k : Nat) (nw : Bool) (ty s : Nat) (els : List (List FV)) : hLoadR S sz i k (some none) (some (.sl nw ty s els)) = .go (Cond (sz = s ∧ i < els.length ∧ k < (els.getD i []).length)) ((els.getD i []).getD k default).h S := nr rfl
theorem hLoadR_sla (S : HS) (sz i k n : Nat) (nw : Bool) (ty s : Nat) (els : List (List FV)) : hLoadR S sz i k (some (some n)) (some (.sl nw ty s els)) = .go (Cond (sz = s ∧ i < els.length ∧ k + n ≤ (els.getD i []).length)) (.agg ((((els.getD i []).drop k).take n).map FV.h)) S := nr rfl
theorem hLoadR_bx (S : HS) (sz i k : Nat) (nw : Bool) (ty : Nat) (cells : List HV) : hLoadR S sz i k (some none) (some (.bx nw ty cells)) = .go (Cond (i = 0 ∧ k < cells.length)) (cells.getD k .junk) S := nr rfl
theorem hLoadR_bxa (S : HS) (sz i k n : Nat) (nw : Bool) (ty : Nat) (cells : List HV) : hLoadR S sz i k (some (some n)) (some (.bx nw ty cells)) = .go (Cond (i = 0 ∧ k + n ≤ cells.length)) (.agg ((cells.drop k).take n)) S := nr rfl
theorem hLoadE_one (S : HS) (xs : List (List FV)) (i k : Nat) : hLoadE S xs i k (some none) = .go (Cond (i < xs.length ∧ k < (xs.getD i []).length)) ((xs.getD i []).getD k default).h S := nr rfl
theorem hLoadE_agg (S : HS) (xs : List (List FV)) (i k n : Nat) : hLoadE S xs i k (some (some n)) = .go (Cond (i < xs.length ∧ k + n ≤ (xs.getD i []).length)) (.agg ((((xs.getD i []).drop k).take n).map FV.h)) S := nr rfl
theorem hStore_eq (S : HS) (kt : Option (Option Nat)) (id sz i k : Nat) (h : HV) : hStore S kt (some (.ptr id sz i k)) (some h) = hStoreR S id sz i k kt h (rlk S.st id) := nr rfl
theorem hStoreR_sl (S : HS) (id sz i k : Nat) (kt : Option (Option Nat)) (h : HV) (nw : Bool) (ty s : Nat) (els : List (List FV)) : hStoreR S id sz i k kt h (some (.sl nw ty s els)) = hStoreS S id sz i k nw ty s els kt h := nr rfl
theorem hStoreR_bx (S : HS) (id sz i k : Nat) (kt : Option (Option Nat)) (h : HV) (nw : Bool) (ty : Nat) (cells : List HV) : hStoreR S id sz i k kt h (some (.bx nw ty cells)) = hStoreB S id i k nw ty cells kt h := nr rfl
theorem hStoreS_one (S : HS) (id sz i k : Nat) (nw : Bool) (ty s : Nat) (els : List (List FV)) (h : HV) : hStoreS S id sz i k nw ty s els (some none) h = match h.f with | some f => .go (Cond (sz = s ∧ i < els.length ∧ k < (els.getD i []).length ∧ f.one = true)) (.v undef) ⟨S.env, sset id (.sl nw ty s (els.set i ((els.getD i []).set k f))) S.st⟩ | none => .bad := nr rfl
theorem hStoreS_agg (S : HS) (id sz i k n : Nat) (nw : Bool) (ty s : Nat) (els : List (List FV)) (hs : List HV) : hStoreS S id sz i k nw ty s els (some (some n)) (.agg hs) = match HV.fs hs with | some fs => .go (Cond (sz = s ∧ i < els.length ∧ fs.length = n ∧ k + n ≤ (els.getD i []).length)) (.v undef) ⟨S.env, sset id (.sl nw ty s (els.set i (splice (els.getD i []) k fs))) S.st⟩ | none => .bad := nr rfl
theorem hStoreB_one (S : HS) (id i k : Nat) (nw : Bool) (ty : Nat) (cells : List HV) (h : HV) : hStoreB S id i k nw ty cells (some none) h = .go (Cond (i = 0 ∧ k < cells.length ∧ h.one = true)) (.v undef) ⟨S.env, sset id (.bx nw ty (cells.set k h)) S.st⟩ := nr (by cases h <;> rfl)
theorem hStoreB_agg (S : HS) (id i k n : Nat) (nw : Bool) (ty : Nat) (cells : List HV) (hs : List HV) : hStoreB S id i k nw ty cells (some (some n)) (.agg hs) = .go (Cond (i = 0 ∧ hs.length = n ∧ k + n ≤ cells.length)) (.v undef) ⟨S.env, sset id (.bx nw ty (splice cells k hs)) S.st⟩ := nr rfl
theorem hAlloc_eq (S : HS) (id : Nat) (t : TypeId) (z : Array Value) : hAlloc S id t (some z) = .go (Cond (oneAll z = true)) (.ptr id z.size 0 0) ((S.kill (only id)).row id (.bx true t (z.toList.map .v))) := nr rfl
theorem hBox_eq (S : HS) (id : Nat) (t : TypeId) (h : HV) : hBox S id t (some h) = hBoxC S id t (hcells h) := nr rfl
theorem hBoxC_eq (S : HS) (id : Nat) (t : TypeId) (cs : List HV) : hBoxC S id t (some cs) = .go True (.ptr id cs.length 0 0) ((S.kill (only id)).row id (.bx true t (cs.map (HV.kill (only id))))) := nr rfl
theorem partsH_nil (l : HEnv) : partsH l [] = some [] := nr rfl
theorem partsH_cons (l : HEnv) (i : Nat) (x : Operand) (r : List (Nat × Operand)) : partsH l ((i, x) :: r) = match hev l x with | some v => (match partsH l r with | some vs => some ((i, v) :: vs) | none => none) | none => none := nr rfl
theorem hfill_nil (place : Nat → Option (Nat × Nat)) (cells : List HV) : hfill place cells [] = some (True, cells) := nr rfl
theorem hfill_cons (place : Nat → Option (Nat × Nat)) (cells : List HV) (i : Nat) (h : HV) (r : List (Nat × HV)) : hfill place cells ((i, h) :: r) = match place i with | some (off, n) => (match hcells h with | some cs => (match hfill place (splice cells off cs) r with | some (c, out) => some (Cond (cs.length = n ∧ off + n ≤ cells.length) ∧ c, out) | none => none) | none => none) | none => none := nr rfl
theorem hBuild_eq (S : HS) (ok : Bool) (place : Nat → Option (Nat × Nat)) (z : Array Value) (ps : List (Nat × HV)) : hBuild S ok place (some z) (some ps) = hBuildF S (ok && oneAll z) (hfill place (z.toList.map .v) ps) := nr rfl
theorem hBuildF_eq (S : HS) (ok : Bool) (c : Prop) (cs : List HV) : hBuildF S ok (some (c, cs)) = .go (Cond (ok = true) ∧ c) (.agg cs) S := nr rfl
theorem hlit_nil (sz : Nat) (els : List (List FV)) : hlit sz els [] = some (True, els) := nr rfl
theorem hlit_cons (sz : Nat) (els : List (List FV)) (i : Nat) (h : HV) (r : List (Nat × HV)) : hlit sz els ((i, h) :: r) = match hcells h with | some cs => (match HV.fs cs with | some fs => (match hlit sz (els.set i fs) r with | some (c, out) => some (Cond (fs.length = sz ∧ i < els.length) ∧ c, out) | none => none) | none => none) | none => none := nr rfl
theorem hBuildS_eq (S : HS) (id n e sz by' : Nat) (z : Array Value) (ps : List (Nat × HV)) : hBuildS S id n (some (e, sz, by', z)) (some ps) = match oneAll z && z.size == sz with | true => hBuildSF S id e sz n (hlit sz (List.replicate n (z.toList.map .v)) ps) | false => .bad := nr rfl
theorem hBuildSF_eq (S : HS) (id e sz n : Nat) (c : Prop) (els : List (List FV)) : hBuildSF S id e sz n (some (c, els)) = .go (Cond (n * sz ≤ 16777216 ∧ n ≤ 16777216) ∧ c) (.own id) ((S.kill (only id)).row id (.sl true e sz els)) := nr rfl
theorem hMake_eq (S : HS) (id e sz by' : Nat) (z : Array Value) (n m : Int) : hMake S id (some (e, sz, by', z)) (some (.v (.int .i64 n))) (some (.v (.int .i64 m))) = match oneAll z && z.size == sz with | true => .go (Cond (n = m ∧ 0 ≤ n ∧ by' * n.toNat ≤ 281474976710656 ∧ n.toNat ≤ maxLen)) (.own id) ((S.kill (only id)).row id (.sl true e sz (List.replicate n.toNat (z.toList.map .v)))) | false => .bad := nr rfl
theorem newsOf_own (st : Store) (sz id : Nat) : newsOf st sz (.own id) = match rlk st id with | some (.sl _ _ s els) => some (Cond (s = sz), els) | _ => none := nr rfl
theorem newsOf_lst (st : Store) (sz : Nat) (fr : Bool) (xs : List (List FV)) : newsOf st sz (.lst fr xs) = some (Wid sz xs, xs) := nr rfl
theorem newsOf_nil (st : Store) (sz : Nat) : newsOf st sz (.v (.slice none 0 0)) = some (True, []) := nr rfl
theorem hAppend_own (S : HS) (nid : Nat) (same str : Bool) (e sz by' : Nat) (z : Array Value) (id : Nat) (x : HV) : hAppend S nid same str (some (e, sz, by', z)) (some [.own id, x]) = match (same || str) && z.size == sz with | true => hAppR S id e sz by' (newsA same str S.st sz x) (rlk S.st id) | false => .bad := nr rfl
theorem arr2_eq (a b c d : Nat) : (#[a, b] == #[c, d]) = (a == c && b == d) := by rw [Bool.eq_iff_iff]; simp
theorem newsA_t (str : Bool) (st : Store) (sz : Nat) (x : HV) : newsA true str st sz x = newsOf st sz x := nr rfl
theorem newsA_f (st : Store) (sz : Nat) (x : HV) : newsA false true st sz x = newsS x := nr rfl
theorem newsS_str (s : ByteArray) : newsS (.v (.string s)) = some (True, byteE s) := nr rfl
theorem hAppend_nil (S : HS) (nid : Nat) (same str : Bool) (e sz by' : Nat) (z : Array Value) (x : HV) : hAppend S nid same str (some (e, sz, by', z)) (some [.v (.slice none 0 0), x]) = match same && z.size == sz with | true => hAppN S nid e sz by' true [] (newsOf S.st sz x) | false => .bad := nr rfl
theorem hAppR_eq (S : HS) (id e sz by' : Nat) (news : Option (Prop × List (List FV))) (nw : Bool) (ty s : Nat) (els : List (List FV)) : hAppR S id e sz by' news (some (.sl nw ty s els)) = match decide (ty = e) && decide (s = sz) with | true => hAppN S id e sz by' nw els news | false => .bad := nr rfl
theorem hAppN_eq (S : HS) (id e sz by' : Nat) (nw : Bool) (els : List (List FV)) (c : Prop) (news : List (List FV)) : hAppN S id e sz by' nw els (some (c, news)) = .go (c ∧ Cond ((els.length + news.length) * by' ≤ 140737488355328 ∧ 0 < by' ∧ 0 < sz)) (.own id) ((S.kill (only id)).row id (.sl nw e sz (els ++ news))) := nr rfl
theorem leafs_nil  : leafs [] = some [] := nr rfl
theorem leafs_cons (x : Value) (r : List HV) : leafs (.v x :: r) = match leafs r with | some vs => some (x :: vs) | none => none := nr rfl
theorem hEq_eq (S : HS) (up : Bool) (t : TypeId) (neg : Bool) (xs ys : List HV) : hEq S up t neg (some (.agg xs)) (some (.agg ys)) = hEqL t neg (leafs xs) (leafs ys) := nr rfl
theorem hEq_ptr (S : HS) (up : Bool) (t : TypeId) (neg : Bool) (a b c d : Nat) : hEq S up t neg (some (.ptr a b c d)) (some (.v (.pointer none))) = .go (Cond (up = true)) (.v (.bool neg)) S := nr rfl
theorem hEq_elt (S : HS) (up : Bool) (t : TypeId) (neg fr : Bool) (xs : List (List FV)) (a b c : Nat) : hEq S up t neg (some (.elt fr xs a b c)) (some (.v (.pointer none))) = .go (Cond (up = true)) (.v (.bool neg)) S := nr rfl
theorem hConv_own (S : HS) (ok : Bool) (id : Nat) : hConv S ok (some (.own id)) = hConvR S ok (rlk S.st id) := nr rfl
theorem hConv_lst (S : HS) (ok fr : Bool) (xs : List (List FV)) : hConv S ok (some (.lst fr xs)) = hConvL S ok (bytesH xs) := nr rfl
theorem hConvR_eq (S : HS) (ok nw : Bool) (t s : Nat) (els : List (List FV)) : hConvR S ok (some (.sl nw t s els)) = hConvL S ok (bytesH els) := nr rfl
theorem hConvL_eq (S : HS) (ok : Bool) (ns : List Int) : hConvL S ok (some ns) = .go (Cond (ok = true)) (.v (.string (strOfNums ns))) S := nr rfl
theorem bytesH_nil  : bytesH [] = some [] := nr rfl
theorem bytesH_cons (n : Int) (r : List (List FV)) : bytesH ([.v (.int .u8 n)] :: r) = match bytesH r with | some ns => some (n :: ns) | none => none := nr rfl
theorem hEqL_eq (t : TypeId) (neg : Bool) (xs ys : List Value) : hEqL t neg (some xs) (some ys) = .eqn t xs ys neg := nr rfl
theorem hCall_eq (f : FuncId) (hs : List HV) : hCall f (some hs) = .call f hs := nr rfl
theorem ats0_eq (ats : Array TypeId) : ats0 ats = ats.getD 0 0 := nr rfl
theorem oneAll_eq (z : Array Value) : oneAll z = z.toList.all (fun v => v.oneCell') := nr rfl
theorem hf_v (x : Value) : (HV.v x).f = some (.v x) := nr rfl
theorem hf_lst (fr : Bool) (xs : List (List FV)) : (HV.lst fr xs).f = some (.lst fr xs) := nr rfl
theorem hfs_nil  : HV.fs [] = some [] := nr rfl
theorem hfs_cons (h : HV) (r : List HV) : HV.fs (h :: r) = match h.f, HV.fs r with | some f, some fs => some (f :: fs) | _, _ => none := nr rfl
theorem fone_v (x : Value) : (FV.v x).one = x.oneCell' := nr rfl
theorem fone_lst (fr : Bool) (xs : List (List FV)) : (FV.lst fr xs).one = true := nr rfl
theorem hone_v (x : Value) : (HV.v x).one = x.oneCell' := nr rfl
theorem hone_lst (fr : Bool) (xs : List (List FV)) : (HV.lst fr xs).one = true := nr rfl
theorem hone_own (i : Nat) : (HV.own i).one = true := nr rfl
theorem hone_ptr (i s j k : Nat) : (HV.ptr i s j k).one = true := nr rfl
theorem fh_v (x : Value) : (FV.v x).h = .v x := nr rfl
theorem fh_lst (fr : Bool) (xs : List (List FV)) : (FV.lst fr xs).h = .lst fr xs := nr rfl
theorem one_int (k : IntKind) (n : Int) : Value.oneCell' (.int k n) = true := nr rfl
theorem hcellv_int (k : IntKind) (n : Int) : hcells (.v (.int k n)) = some [.v (.int k n)] := nr rfl
theorem one_bool (b : Bool) : Value.oneCell' (.bool b) = true := nr rfl
theorem hcellv_bool (b : Bool) : hcells (.v (.bool b)) = some [.v (.bool b)] := nr rfl
theorem one_str (s : ByteArray) : Value.oneCell' (.string s) = true := nr rfl
theorem hcellv_str (s : ByteArray) : hcells (.v (.string s)) = some [.v (.string s)] := nr rfl
theorem one_slice (a : Option Addr) (n c : Nat) : Value.oneCell' (.slice a n c) = true := nr rfl
theorem hcellv_slice (a : Option Addr) (n c : Nat) : hcells (.v (.slice a n c)) = some [.v (.slice a n c)] := nr rfl
theorem one_ptr (a : Option Addr) : Value.oneCell' (.pointer a) = true := nr rfl
theorem hcellv_ptr (a : Option Addr) : hcells (.v (.pointer a)) = some [.v (.pointer a)] := nr rfl
theorem hcells_agg (cs : List HV) : hcells (.agg cs) = some cs := nr rfl
theorem hcells_lst (fr : Bool) (xs : List (List FV)) : hcells (.lst fr xs) = some [.lst fr xs] := nr rfl
theorem hcells_own (i : Nat) : hcells (.own i) = some [.own i] := nr rfl
theorem hcells_ptr (i s j k : Nat) : hcells (.ptr i s j k) = some [.ptr i s j k] := nr rfl
theorem splice_eq {α : Type} (l : List α) (k : Nat) (cs : List α) : splice l k cs = l.take k ++ cs ++ l.drop (k + cs.length) := nr rfl
theorem kill_eq (e : HEnv) (s : Store) (p : Nat → Bool) : HS.kill ⟨e, s⟩ p = ⟨ekill p e, skill p s⟩ := nr rfl
theorem row_eq (e : HEnv) (s : Store) (id : Nat) (r : Row) : HS.row ⟨e, s⟩ id r = ⟨e, (id, r) :: s⟩ := nr rfl
theorem set_some (e : HEnv) (s : Store) (k : Nat) (h : HV) : HS.set ⟨e, s⟩ (some k) h = ⟨(k, h) :: e, s⟩ := nr rfl
theorem set_none (S : HS) (h : HV) : HS.set S none h = S := nr rfl
theorem rep_eq (e : HEnv) (s : Store) (d : Nat) (h : HV) : HS.rep ⟨e, s⟩ d h = ⟨hrep d h e, s⟩ := nr rfl
theorem hrep_nil (d : Nat) (h : HV) : hrep d h [] = [] := nr rfl
theorem hrep_cons (d : Nat) (h : HV) (k : Nat) (x : HV) (r : HEnv) : hrep d h ((k, x) :: r) = if k = d then (k, h) :: r else (k, x) :: hrep d h r := nr rfl
theorem ekill_nil (p : Nat → Bool) : ekill p [] = [] := nr rfl
theorem ekill_cons (p : Nat → Bool) (k : Nat) (h : HV) (r : HEnv) : ekill p ((k, h) :: r) = (k, h.kill p) :: ekill p r := nr rfl
theorem skill_nil (p : Nat → Bool) : skill p [] = [] := nr rfl
theorem skill_cons (p : Nat → Bool) (k : Nat) (h : Row) (r : Store) : skill p ((k, h) :: r) = bif p k then skill p r else (k, h.kill p) :: skill p r := nr rfl
theorem rkill_sl (p : Nat → Bool) (nw : Bool) (t s : Nat) (xs : List (List FV)) : (Row.sl nw t s xs).kill p = .sl nw t s xs := nr rfl
theorem rkill_bx (p : Nat → Bool) (nw : Bool) (t : Nat) (cs : List HV) : (Row.bx nw t cs).kill p = .bx nw t (cs.map (HV.kill p)) := nr rfl
theorem hkill_v (p : Nat → Bool) (x : Value) : HV.kill p (.v x) = .v x := by rw [HV.kill]
theorem hren_v (m : Nat → Option Nat) (x : Value) : HV.ren m (.v x) = .v x := by rw [HV.ren]
theorem hsub_v (id : Nat) (x0 : HV) (x : Value) : HV.sub id x0 (.v x) = .v x := by rw [HV.sub]
theorem hkill_lst (p : Nat → Bool) (fr : Bool) (xs : List (List FV)) : HV.kill p (.lst fr xs) = .lst fr xs := by rw [HV.kill]
theorem hren_lst (m : Nat → Option Nat) (fr : Bool) (xs : List (List FV)) : HV.ren m (.lst fr xs) = .lst fr xs := by rw [HV.ren]
theorem hsub_lst (id : Nat) (x0 : HV) (fr : Bool) (xs : List (List FV)) : HV.sub id x0 (.lst fr xs) = .lst fr xs := by rw [HV.sub]
theorem hkill_elt (p : Nat → Bool) (fr : Bool) (xs : List (List FV)) (s j k : Nat) : HV.kill p (.elt fr xs s j k) = .elt fr xs s j k := by rw [HV.kill]
theorem hren_elt (m : Nat → Option Nat) (fr : Bool) (xs : List (List FV)) (s j k : Nat) : HV.ren m (.elt fr xs s j k) = .elt fr xs s j k := by rw [HV.ren]
theorem hsub_elt (id : Nat) (x0 : HV) (fr : Bool) (xs : List (List FV)) (s j k : Nat) : HV.sub id x0 (.elt fr xs s j k) = .elt fr xs s j k := by rw [HV.sub]
theorem hkill_junk (p : Nat → Bool) : HV.kill p .junk = .junk := by rw [HV.kill]
theorem hren_junk (m : Nat → Option Nat) : HV.ren m .junk = .junk := by rw [HV.ren]
theorem hsub_junk (id : Nat) (x0 : HV) : HV.sub id x0 .junk = .junk := by rw [HV.sub]
theorem hkill_own (p : Nat → Bool) (i : Nat) : HV.kill p (.own i) = bif p i then .junk else .own i := by rw [HV.kill]
theorem hkill_ptr (p : Nat → Bool) (i s j k : Nat) : HV.kill p (.ptr i s j k) = bif p i then .junk else .ptr i s j k := by rw [HV.kill]
theorem hkill_agg (p : Nat → Bool) (cs : List HV) : HV.kill p (.agg cs) = .agg (cs.map (HV.kill p)) := by rw [HV.kill]
theorem hkill_tup (p : Nat → Bool) (cs : List HV) : HV.kill p (.tup cs) = .tup (cs.map (HV.kill p)) := by rw [HV.kill]
theorem hren_own (m : Nat → Option Nat) (i : Nat) : HV.ren m (.own i) = match m i with | some j => .own j | none => .junk := by rw [HV.ren]; cases m i <;> rfl
theorem hren_ptr (m : Nat → Option Nat) (i s j k : Nat) : HV.ren m (.ptr i s j k) = match m i with | some i' => .ptr i' s j k | none => .junk := by rw [HV.ren]; cases m i <;> rfl
theorem hren_agg (m : Nat → Option Nat) (cs : List HV) : HV.ren m (.agg cs) = .agg (cs.map (HV.ren m)) := by rw [HV.ren]
theorem hren_tup (m : Nat → Option Nat) (cs : List HV) : HV.ren m (.tup cs) = .tup (cs.map (HV.ren m)) := by rw [HV.ren]
theorem hsub_own (id : Nat) (x0 : HV) (i : Nat) : HV.sub id x0 (.own i) = if i = id then x0 else .own i := by rw [HV.sub]
theorem hsub_ptr (id : Nat) (x0 : HV) (i s j k : Nat) : HV.sub id x0 (.ptr i s j k) = if i = id then .junk else .ptr i s j k := by rw [HV.sub]
theorem hsub_agg (id : Nat) (x0 : HV) (cs : List HV) : HV.sub id x0 (.agg cs) = .agg (cs.map (HV.sub id x0)) := by rw [HV.sub]
theorem hsub_tup (id : Nat) (x0 : HV) (cs : List HV) : HV.sub id x0 (.tup cs) = .tup (cs.map (HV.sub id x0)) := by rw [HV.sub]
theorem rren_sl (m : Nat → Option Nat) (nw : Bool) (t s : Nat) (xs : List (List FV)) : (Row.sl nw t s xs).ren m = .sl nw t s xs := nr rfl
theorem rren_bx (m : Nat → Option Nat) (nw : Bool) (t : Nat) (cs : List HV) : (Row.bx nw t cs).ren m = .bx nw t (cs.map (HV.ren m)) := nr rfl
theorem rsub_sl (id : Nat) (x0 : HV) (nw : Bool) (t s : Nat) (xs : List (List FV)) : (Row.sl nw t s xs).sub id x0 = .sl nw t s xs := nr rfl
theorem rsub_bx (id : Nat) (x0 : HV) (nw : Bool) (t : Nat) (cs : List HV) : (Row.bx nw t cs).sub id x0 = .bx nw t (cs.map (HV.sub id x0)) := nr rfl
theorem only_eq (id i : Nat) : only id i = (i == id) := nr rfl
theorem eight_eq (n i : Nat) : eight n i = (decide (n ≤ i) && decide (i < n + 8)) := by rw [Bool.eq_iff_iff]; simp [eight]
theorem sh_eq (n i : Nat) : sh n i = bif decide (i < 8) then some (n + i) else none := by unfold sh; congr 1; rw [Bool.eq_iff_iff]; simp
theorem adds_eq (e : HEnv) (s : Store) (n : Nat) (st : Store) : HS.adds ⟨e, s⟩ n st = ⟨ekill (eight n) e, radds n st (skill (eight n) s)⟩ := nr rfl
theorem radds_nil (n : Nat) (b : Store) : radds n [] b = b := nr rfl
theorem radds_cons (n k : Nat) (r : Row) (t b : Store) : radds n ((k, r) :: t) b = (n + k, r.ren (sh n)) :: radds n t b := nr rfl
theorem rest_eq (e : HEnv) (s : Store) (id : Nat) (x : HV) : HS.rest ⟨e, s⟩ id x = ⟨esub id x e, ssub id x s⟩ := nr rfl
theorem esub_nil (id : Nat) (x : HV) : esub id x [] = [] := nr rfl
theorem esub_cons (id : Nat) (x : HV) (k : Nat) (h : HV) (r : HEnv) : esub id x ((k, h) :: r) = (k, HV.sub id x h) :: esub id x r := nr rfl
theorem ssub_nil (id : Nat) (x : HV) : ssub id x [] = [] := nr rfl
theorem ssub_cons (id : Nat) (x : HV) (k : Nat) (h : Row) (r : Store) : ssub id x ((k, h) :: r) = if k = id then ssub id x r else (k, h.sub id x) :: ssub id x r := nr rfl
theorem sset_nil (id : Nat) (r : Row) : sset id r [] = [] := nr rfl
theorem sset_cons (id : Nat) (r : Row) (k : Nat) (s : Row) (t : Store) : sset id r ((k, s) :: t) = if k = id then (k, r) :: t else (k, s) :: sset id r t := nr rfl
theorem hG_none (l : HEnv) (ds : List (Option Nat)) : hG l ds none = .yes := nr rfl
theorem hG_some (l : HEnv) (ds : List (Option Nat)) (j : Nat) (want : Bool) : hG l ds (some (j, want)) = match ds[j]? with | some (some d) => hGv d want (hlk l d) | _ => .bad := nr rfl
theorem hGv_bool (d : Nat) (want b : Bool) : hGv d want (some (.v (.bool b))) = .ask d b want := nr rfl
theorem hGv_tup (d : Nat) (want : Bool) (vs : Array Value) : hGv d want (some (.v (.tuple vs))) = .no := nr rfl
theorem hgo_go (P : Program) (d : Option Nat) (S : HS) (K : HS → Prop) (c : Prop) (h : HV) (S' : HS) : HGoOut P d S K (.go c h S') = (c ∧ K (S'.set d h)) := nr rfl
theorem hgo_call (P : Program) (d : Option Nat) (S : HS) (K : HS → Prop) (f : FuncId) (args : List HV) : HGoOut P d S K (.call f args) = HAt P f args S (fun h S' => HStop K (S'.set d h)) := nr rfl
theorem hgo_eqn (P : Program) (d : Option Nat) (S : HS) (K : HS → Prop) (t : TypeId) (x y : List Value) (neg : Bool) : HGoOut P d S K (.eqn t x y neg) = ∃ r, EqR P t x.toArray y.toArray r ∧ HStop K (S.set d (.v (.bool (neg ^^ r)))) := nr rfl
theorem hgo_eq (P : Program) (N : Nat) (o : Oper) (S : HS) (K : HS → Prop) : HGo P N o S K = HGo1 P N o (hpre S o.op) K := nr rfl
theorem hgo1_eq (P : Program) (N : Nat) (o : Oper) (S : HS) (K : HS → Prop) : HGo1 P N o S K = match dstOk N o.dst with | true => HGoOut P o.dst S K (hop P S (idOf o.dst) o.op) | false => False := nr rfl
theorem hpre_move (S : HS) (x : Operand) : hpre S (.move x) = S := nr rfl
theorem hpre_assign (S : HS) (x : Operand) : hpre S (.assign x) = S := nr rfl
theorem hpre_pick (S : HS) (c a b : Operand) : hpre S (.pick c a b) = S := nr rfl
theorem hpre_extract (S : HS) (x : Operand) (i : Nat) : hpre S (.extract x i) = S := nr rfl
theorem hpre_field (S : HS) (t : TypeId) (x : Operand) (f : Nat) : hpre S (.field t x f) = S := nr rfl
theorem hpre_faddr (S : HS) (t : TypeId) (x : Operand) (f : Nat) : hpre S (.fieldAddr t x f) = S := nr rfl
theorem hpre_nilc (S : HS) (x : Operand) : hpre S (.nilCheck x) = S := nr rfl
theorem hpre_iaddr (S : HS) (t : TypeId) (x i : Operand) : hpre S (.indexAddr t x i) = S := nr rfl
theorem hpre_slice (S : HS) (t : TypeId) (x : Operand) (l h m : Option Operand) : hpre S (.slice t x l h m) = S := nr rfl
theorem hpre_load (S : HS) (t : TypeId) (x : Operand) : hpre S (.load t x) = S := nr rfl
theorem hpre_build (S : HS) (t : TypeId) (ps : Array (Nat × Operand)) : hpre S (.build t ps) = S := nr rfl
theorem hpre_bin (S : HS) (b : BinOp) (t : TypeId) (x y : Operand) (u : TypeId) : hpre S (.binOp b t x y u) = S := nr rfl
theorem hpre_un (S : HS) (u : UnOp) (t : TypeId) (x : Operand) : hpre S (.unOp u t x) = S := nr rfl
theorem hpre_conv (S : HS) (s d : TypeId) (x : Operand) : hpre S (.convert s d x) = S := nr rfl
theorem hpre_index (S : HS) (t : TypeId) (x i : Operand) : hpre S (.index t x i) = S := nr rfl
theorem hpre_call (S : HS) (c : Call) : hpre S (.call c) = S := nr rfl
theorem hpre_alloc (S : HS) (t : TypeId) : hpre S (.alloc t) = S := nr rfl
theorem hpre_box (S : HS) (t : TypeId) (x : Operand) : hpre S (.box t x) = S := nr rfl
theorem hpre_make (S : HS) (t : TypeId) (x y : Operand) : hpre S (.makeSlice t x y) = S := nr rfl
theorem hpre_store (S : HS) (t : TypeId) (x y : Operand) : hpre S (.store t x y) = restAll S (ownsS S (hev S.env x) (hev S.env y)) := nr rfl
theorem hpre_buildS (S : HS) (t n : TypeId) (ps : Array (Nat × Operand)) : hpre S (.buildSlice t n ps) = restAll S (ownsP (partsH S.env ps.toList)) := nr rfl
theorem ownsS_eq (S : HS) (id sz i k : Nat) (h : HV) : ownsS S (some (.ptr id sz i k)) (some h) = ownsR S h (rlk S.st id) := nr rfl
theorem ownsR_sl (S : HS) (h : HV) (nw : Bool) (ty s : Nat) (els : List (List FV)) : ownsR S h (some (.sl nw ty s els)) = ownIds h := nr rfl
theorem ownsR_bx (S : HS) (h : HV) (nw : Bool) (ty : Nat) (cs : List HV) : ownsR S h (some (.bx nw ty cs)) = [] := nr rfl
theorem ownsP_eq (ps : List (Nat × HV)) : ownsP (some ps) = ps.flatMap fun p => ownIds p.2 := nr rfl
theorem ownIds_own (i : Nat) : ownIds (.own i) = [i] := nr rfl
theorem ownIds_v (x : Value) : ownIds (.v x) = [] := nr rfl
theorem ownIds_lst (fr : Bool) (xs : List (List FV)) : ownIds (.lst fr xs) = [] := nr rfl
theorem ownIds_agg (cs : List HV) : ownIds (.agg cs) = cs.flatMap ownCell := nr rfl
theorem ownCell_own (i : Nat) : ownCell (.own i) = [i] := nr rfl
theorem ownCell_v (x : Value) : ownCell (.v x) = [] := nr rfl
theorem ownCell_lst (fr : Bool) (xs : List (List FV)) : ownCell (.lst fr xs) = [] := nr rfl
theorem restAll_nil (S : HS) : restAll S [] = S := nr rfl
theorem restAll_cons (S : HS) (i : Nat) (r : List Nat) : restAll S (i :: r) = restAll (restOne S i) r := nr rfl
theorem restOne_eq (e : HEnv) (s : Store) (i : Nat) : restOne ⟨e, s⟩ i = match rlk s i with | some (.sl nw _ _ els) => HS.rest ⟨e, s⟩ i (.lst nw els) | _ => ⟨e, s⟩ := nr rfl
theorem hskip_eq (N : Nat) (d : Option Nat) (S : HS) (K : HS → Prop) : HSkip N d S K = match dstOk N d with | true => K (S.set d (.v undef)) | false => False := nr rfl
theorem hstep_yes (P : Program) (N : Nat) (o : Oper) (S : HS) (K : HS → Prop) : HStep P N o S K .yes = HGo P N o S K := nr rfl
theorem hstep_no (P : Program) (N : Nat) (o : Oper) (S : HS) (K : HS → Prop) : HStep P N o S K .no = HSkip N o.dst S K := nr rfl
theorem hstep_ask (P : Program) (N : Nat) (o : Oper) (S : HS) (K : HS → Prop) (d : Nat) (b want : Bool) : HStep P N o S K (.ask d b want) = match b == want with | true => HGo P N o (S.rep d (.v (.bool want))) K | false => HSkip N o.dst (S.rep d (.v (.bool (!want)))) K := nr rfl
theorem hv2_nil (P : Program) (N : Nat) (ds : List (Option Nat)) (K : HS → Prop) (S : HS) : HV2 P N ds K [] S = K S := nr rfl
theorem hv2_cons (P : Program) (N : Nat) (ds : List (Option Nat)) (K : HS → Prop) (o : Oper) (rest : List Oper) (S : HS) : HV2 P N ds K (o :: rest) S = HStep P N o S (HV2 P N ds K rest) (hG S.env ds o.guard) := nr rfl
theorem hgoq_go (P : Program) (o : Oper) (S : HS) (K : HS → Prop) (c : Prop) (h : HV) (S' : HS) : HGoQOut P o S K (.go c h S') = (quiet o.op = true ∧ c ∧ K (S.set o.dst h)) := nr rfl
theorem hgoq_call (P : Program) (o : Oper) (S : HS) (K : HS → Prop) (f : FuncId) (args : List HV) : HGoQOut P o S K (.call f args) = HAtQ P f args S (fun x => HStop K (S.set o.dst (.v x))) := nr rfl
theorem hgoq_eqn (P : Program) (o : Oper) (S : HS) (K : HS → Prop) (t : TypeId) (x y : List Value) (neg : Bool) : HGoQOut P o S K (.eqn t x y neg) = ∃ r, EqR P t x.toArray y.toArray r ∧ HStop K (S.set o.dst (.v (.bool (neg ^^ r)))) := nr rfl
theorem hgoq_eq (P : Program) (N : Nat) (o : Oper) (S : HS) (K : HS → Prop) : HGoQ P N o S K = match dstOk N o.dst with | true => HGoQOut P o S K (hop P S (idOf o.dst) o.op) | false => False := nr rfl
theorem hstepq_yes (P : Program) (N : Nat) (o : Oper) (S : HS) (K : HS → Prop) : HStepQ P N o S K .yes = HGoQ P N o S K := nr rfl
theorem hstepq_no (P : Program) (N : Nat) (o : Oper) (S : HS) (K : HS → Prop) : HStepQ P N o S K .no = HSkip N o.dst S K := nr rfl
theorem hstepq_ask (P : Program) (N : Nat) (o : Oper) (S : HS) (K : HS → Prop) (d : Nat) (b want : Bool) : HStepQ P N o S K (.ask d b want) = match b == want with | true => HGoQ P N o (S.rep d (.v (.bool want))) K | false => HSkip N o.dst (S.rep d (.v (.bool (!want)))) K := nr rfl
theorem hvq_nil (P : Program) (N : Nat) (ds : List (Option Nat)) (K : HS → Prop) (S : HS) : HVq P N ds K [] S = K S := nr rfl
theorem hvq_cons (P : Program) (N : Nat) (ds : List (Option Nat)) (K : HS → Prop) (o : Oper) (rest : List Oper) (S : HS) : HVq P N ds K (o :: rest) S = HStepQ P N o S (HVq P N ds K rest) (hG S.env ds o.guard) := nr rfl
theorem slotX_tmp (t : Nat) : slotX (.tmp t) = [t] := nr rfl
theorem slotX_const (v : Value) : slotX (.const v) = [] := nr rfl
theorem slotX_global (g : Nat) : slotX (.global g) = [] := nr rfl
theorem slotX_func (f : FuncId) : slotX (.func f) = [] := nr rfl
theorem slotsL_nil  : slotsL [] = [] := nr rfl
theorem slotsL_cons (x : Operand) (r : List Operand) : slotsL (x :: r) = slotX x ++ slotsL r := nr rfl
theorem slotsP_nil  : slotsP [] = [] := nr rfl
theorem slotsP_cons (k : Nat) (x : Operand) (r : List (Nat × Operand)) : slotsP ((k, x) :: r) = slotX x ++ slotsP r := nr rfl
theorem slotO_some (x : Operand) : slotO (some x) = slotX x := nr rfl
theorem slotO_none  : slotO none = [] := nr rfl
theorem slotsOf_move (x : Operand) : slotsOf (.move x) = slotX x := nr rfl
theorem slotsOf_assign (x : Operand) : slotsOf (.assign x) = slotX x := nr rfl
theorem slotsOf_nilc (x : Operand) : slotsOf (.nilCheck x) = slotX x := nr rfl
theorem slotsOf_pick (c a b : Operand) : slotsOf (.pick c a b) = slotX c ++ (slotX a ++ slotX b) := nr rfl
theorem slotsOf_extract (x : Operand) (i : Nat) : slotsOf (.extract x i) = slotX x := nr rfl
theorem slotsOf_field (t : TypeId) (x : Operand) (f : Nat) : slotsOf (.field t x f) = slotX x := nr rfl
theorem slotsOf_faddr (t : TypeId) (x : Operand) (f : Nat) : slotsOf (.fieldAddr t x f) = slotX x := nr rfl
theorem slotsOf_load (t : TypeId) (x : Operand) : slotsOf (.load t x) = slotX x := nr rfl
theorem slotsOf_un (u : UnOp) (t : TypeId) (x : Operand) : slotsOf (.unOp u t x) = slotX x := nr rfl
theorem slotsOf_conv (s d : TypeId) (x : Operand) : slotsOf (.convert s d x) = slotX x := nr rfl
theorem slotsOf_iaddr (t : TypeId) (x i : Operand) : slotsOf (.indexAddr t x i) = slotX x ++ slotX i := nr rfl
theorem slotsOf_index (t : TypeId) (x i : Operand) : slotsOf (.index t x i) = slotX x ++ slotX i := nr rfl
theorem slotsOf_slice (t : TypeId) (x : Operand) (l h : Option Operand) : slotsOf (.slice t x l h none) = slotX x ++ (slotO l ++ slotO h) := nr rfl
theorem slotsOf_bin (b : BinOp) (t : TypeId) (x y : Operand) (u : TypeId) : slotsOf (.binOp b t x y u) = slotX x ++ slotX y := nr rfl
theorem slotsOf_build (t : TypeId) (ps : Array (Nat × Operand)) : slotsOf (.build t ps) = slotsP ps.toList := nr rfl
theorem slotsOf_buildS (t : TypeId) (n : Nat) (ps : Array (Nat × Operand)) : slotsOf (.buildSlice t n ps) = slotsP ps.toList := nr rfl
theorem slotsOf_makeS (t : TypeId) (x y : Operand) : slotsOf (.makeSlice t x y) = slotX x ++ slotX y := nr rfl
theorem slotsOf_call (k : Callee) (args : Array Operand) (ats : Array TypeId) : slotsOf (.call ⟨k, args, ats⟩) = slotsL args.toList := nr rfl
theorem slotG_none (ds : List (Option Nat)) : slotG ds none = [] := nr rfl
theorem slotG_some (ds : List (Option Nat)) (g : Nat) (b : Bool) : slotG ds (some (g, b)) = match ds[g]? with | some (some d) => [d] | _ => [] := nr rfl
theorem pickE_nil (e : HEnv) : pickE e [] = [] := nr rfl
theorem pickE_cons (e : HEnv) (t : Nat) (r : List Nat) : pickE e (t :: r) = match hlk e t with | some h => (t, h) :: pickE e r | none => pickE e r := nr rfl
theorem plainE_nil  : plainE [] = true := nr rfl
theorem plainE_v (k : Nat) (v : Value) (r : HEnv) : plainE ((k, .v v) :: r) = plainE r := nr rfl
theorem hmade_eq (d : Option Nat) (S : HS) (K : HS → Prop) (c : Prop) (i : Nat) (S' : HS) : HMade d S K (.go c (.own i) S') = match rlk S'.st i with | some (.sl _ _ _ els) => c ∧ K (S.set d (.lst true els)) | _ => False := nr rfl
theorem made_buildS (t : TypeId) (n : Nat) (ps : Array (Nat × Operand)) : made (.buildSlice t n ps) = true := nr rfl
theorem made_makeS (t : TypeId) (x y : Operand) : made (.makeSlice t x y) = true := nr rfl
theorem quiet_buildS (t : TypeId) (n : Nat) (ps : Array (Nat × Operand)) : quiet (.buildSlice t n ps) = false := nr rfl
theorem quiet_makeS (t : TypeId) (x y : Operand) : quiet (.makeSlice t x y) = false := nr rfl
theorem hgor_go (P : Program) (o : Oper) (S T : HS) (K : HS → Prop) (c : Prop) (h : HV) (S' : HS) : HGoROut P o S T K (.go c h S') = match quiet o.op with | true => c ∧ K (S.set o.dst h) | false => (match made o.op && plainE T.env with | true => HMade o.dst S K (hop P ⟨T.env, []⟩ (idOf o.dst) o.op) | false => False) := nr rfl
theorem hgor_call (P : Program) (o : Oper) (S T : HS) (K : HS → Prop) (f : FuncId) (args : List HV) : HGoROut P o S T K (.call f args) = HAtR P f args T (fun x => HStop K (S.set o.dst x)) := nr rfl
theorem hgor_eqn (P : Program) (o : Oper) (S T : HS) (K : HS → Prop) (t : TypeId) (x y : List Value) (neg : Bool) : HGoROut P o S T K (.eqn t x y neg) = ∃ r, EqR P t x.toArray y.toArray r ∧ HStop K (S.set o.dst (.v (.bool (neg ^^ r)))) := nr rfl
theorem hgor_eq (P : Program) (N : Nat) (o : Oper) (S T : HS) (K : HS → Prop) : HGoR P N o S T K = match dstOk N o.dst with | true => HGoROut P o S T K (hop P T (idOf o.dst) o.op) | false => False := nr rfl
theorem hstepr_yes (P : Program) (N : Nat) (o : Oper) (S T : HS) (K : HS → Prop) : HStepR P N o S T K .yes = HGoR P N o S T K := nr rfl
theorem hstepr_no (P : Program) (N : Nat) (o : Oper) (S T : HS) (K : HS → Prop) : HStepR P N o S T K .no = HSkip N o.dst S K := nr rfl
theorem hstepr_ask (P : Program) (N : Nat) (o : Oper) (S T : HS) (K : HS → Prop) (d : Nat) (b want : Bool) : HStepR P N o S T K (.ask d b want) = match b == want with | true => HGoR P N o (S.rep d (.v (.bool want))) (T.rep d (.v (.bool want))) K | false => HSkip N o.dst (S.rep d (.v (.bool (!want)))) K := nr rfl
theorem hvr_nil (P : Program) (N : Nat) (ds : List (Option Nat)) (K : HS → Prop) (S : HS) : HVr P N ds K [] S = K S := nr rfl
theorem hvr_cons (P : Program) (N : Nat) (ds : List (Option Nat)) (K : HS → Prop) (o : Oper) (rest : List Oper) (S : HS) : HVr P N ds K (o :: rest) S = HStepR P N o S ⟨pickE S.env (slotG ds o.guard ++ slotsOf o.op), S.st⟩ (HVr P N ds K rest) (hG (pickE S.env (slotG ds o.guard ++ slotsOf o.op)) ds o.guard) := nr rfl
theorem idOf_some (k : Nat) : idOf (some k) = 8 * k := nr rfl
theorem idOf_none  : idOf none = 0 := nr rfl
theorem quiet_move (x : Operand) : quiet (.move x) = true := nr rfl
theorem quiet_assign (x : Operand) : quiet (.assign x) = true := nr rfl
theorem quiet_pick (c a b : Operand) : quiet (.pick c a b) = true := nr rfl
theorem quiet_extract (x : Operand) (i : Nat) : quiet (.extract x i) = true := nr rfl
theorem quiet_field (t : TypeId) (x : Operand) (f : Nat) : quiet (.field t x f) = true := nr rfl
theorem quiet_faddr (t : TypeId) (x : Operand) (f : Nat) : quiet (.fieldAddr t x f) = true := nr rfl
theorem quiet_nilc (x : Operand) : quiet (.nilCheck x) = true := nr rfl
theorem quiet_iaddr (t : TypeId) (x i : Operand) : quiet (.indexAddr t x i) = true := nr rfl
theorem quiet_slice (t : TypeId) (x : Operand) (l h m : Option Operand) : quiet (.slice t x l h m) = true := nr rfl
theorem quiet_load (t : TypeId) (x : Operand) : quiet (.load t x) = true := nr rfl
theorem quiet_build (t : TypeId) (ps : Array (Nat × Operand)) : quiet (.build t ps) = true := nr rfl
theorem quiet_bin (b : BinOp) (t : TypeId) (x y : Operand) (u : TypeId) : quiet (.binOp b t x y u) = true := nr rfl
theorem quiet_un (u : UnOp) (t : TypeId) (x : Operand) : quiet (.unOp u t x) = true := nr rfl
theorem quiet_conv (s d : TypeId) (x : Operand) : quiet (.convert s d x) = true := nr rfl
theorem quiet_index (t : TypeId) (x i : Operand) : quiet (.index t x i) = true := nr rfl
theorem quiet_len (args : Array Operand) (ats : Array TypeId) : quiet (.call ⟨.builtin .len, args, ats⟩) = true := nr rfl
theorem argsH_nil (k : Nat) : argsH k [] = [] := nr rfl
theorem argsH_cons (k : Nat) (v : HV) (r : List HV) : argsH k (v :: r) = (k, v) :: argsH (k + 1) r := nr rfl
theorem keep_eq (e : HEnv) (s : Store) (ks ids : List Nat) : HS.keep ⟨e, s⟩ ks ids = ⟨hkeep ks e, rkeep ids s⟩ := nr rfl
theorem hkeep_nil (l : HEnv) : hkeep [] l = [] := nr rfl
theorem hkeep_cons (k : Nat) (r : List Nat) (l : HEnv) : hkeep (k :: r) l = match hlk l k with | some v => (k, v) :: hkeep r l | none => hkeep r l := nr rfl
theorem rkeep_nil (l : Store) : rkeep [] l = [] := nr rfl
theorem rkeep_cons (k : Nat) (r : List Nat) (l : Store) : rkeep (k :: r) l = match rlk l k with | some v => (k, v) :: rkeep r l | none => rkeep r l := nr rfl
theorem hfunQ_normal (P : Program) (rs : List ResultVar) (Q : HV → Store → Prop) (S : HS) : hfunQ P rs Q .normal S = resH P S rs fun hs => HRes S (htup hs) Q := nr rfl
theorem hfunQ_ret (P : Program) (rs : List ResultVar) (Q : HV → Store → Prop) (S : HS) : hfunQ P rs Q .ret S = resH P S rs fun hs => HRes S (htup hs) Q := nr rfl
theorem resH_nil (P : Program) (S : HS) (K : List HV → Prop) : resH P S [] K = K [] := nr rfl
theorem resH_cons (P : Program) (S : HS) (t : Nat) (r : List ResultVar) (K : List HV → Prop) : resH P S (.tmp t :: r) K = match hlk S.env t with | some h => resH P S r fun hs => K (h :: hs) | none => False := nr rfl
theorem htup_one (h : HV) : htup [h] = h := nr rfl
theorem htup_two (a b : HV) (r : List HV) : htup (a :: b :: r) = .tup (a :: b :: r) := nr rfl
theorem pos_nil (i : Nat) : pos [] i = none := nr rfl
theorem pos_cons (k : Nat) (r : List Nat) (i : Nat) : pos (k :: r) i = if k = i then some 0 else (pos r i).map (· + 1) := nr rfl
theorem rpick_nil (m : Nat → Option Nat) (st : Store) (k : Nat) : rpick m st k [] = [] := nr rfl
theorem rpick_cons (m : Nat → Option Nat) (st : Store) (k id : Nat) (r : List Nat) : rpick m st k (id :: r) = match rlk st id with | some row => (k, row.ren m) :: rpick m st (k + 1) r | none => rpick m st (k + 1) r := nr rfl
theorem fold_v (x : Value) : (FV.v x).old = .v x := by rw [FV.old]
theorem fold_lst (fr : Bool) (xs : List (List FV)) : (FV.lst fr xs).old = .lst false (olds xs) := by rw [FV.old]; rfl
/-! ## conditions and elements -/
theorem cond_true' {p : Prop} (h : p) : Cond p = True := eq_true h
theorem cond_and (p q : Prop) : Cond (p ∧ q) = (Cond p ∧ Cond q) := rfl
theorem cond_triv : Cond True = True := rfl
theorem ltT {a b : Int} (h : a < b) : decide (a < b) = true := decide_eq_true h
theorem ltF {a b : Int} (h : b ≤ a) : decide (a < b) = false := decide_eq_false (by omega)
theorem leT {a b : Int} (h : a ≤ b) : decide (a ≤ b) = true := decide_eq_true h
theorem leF {a b : Int} (h : b < a) : decide (a ≤ b) = false := decide_eq_false (by omega)
theorem eqT {a b : Int} (h : a = b) : decide (a = b) = true := decide_eq_true h
theorem eqF {a b : Int} (h : a < b ∨ b < a) : decide (a = b) = false := decide_eq_false (by omega)
theorem getD_in {α : Type} {l : List α} {i : Nat} {d : α} (h : i < l.length) : l.getD i d = l[i] := getD_lt h
theorem getD_map {α β : Type} {f : α → β} {l : List α} {i : Nat} {d : β} (h : i < l.length) : (l.map f).getD i d = f (l[i]) := by rw [getD_in (by simpa using h), List.getElem_map]
theorem fv_default : (default : FV) = .v (.bool false) := rfl
theorem wr64 {x : Int} (h1 : -9223372036854775808 ≤ x) (h2 : x ≤ 9223372036854775807) : IntKind.i64.wrap x = x := wrapI ⟨by unfold lo64; exact h1, by unfold hi64; exact h2⟩
theorem HW_le {P : Program} {N : Nat} {x : Code} {Q : HPost} {S : HS} (k : Nat) {fr : Bool} {xs : List (List FV)} (hk : hlk S.env k = some (.lst fr xs)) (h : xs.length ≤ 9223372036854775807 → HW P N x Q S) : HW P N x Q S := fun c l w I => by
  refine h ?_ c l w I
  obtain ⟨ρ, ys, G⟩ := I
  obtain ⟨v, -, h2⟩ := G.env k _ hk
  have h3 := repH_lst h2
  cases h3 with
  | lst sz vals hn hc hm hnil hsz ha h1 hr => simp only [maxLen] at hm; omega
theorem toNat_succ (n : Nat) : ((n : Int) + 1).toNat = n + 1 := by omega
theorem toNat_add (n m : Nat) : ((n : Int) + (m : Int)).toNat = n + m := by omega
theorem wid_map {α : Type} {f : α → List FV} {sz : Nat} (l : List α) (h : ∀ a, (f a).length = sz) : Wid sz (l.map f) := fun x hx => by
  obtain ⟨a, -, rfl⟩ := List.mem_map.1 hx; exact h a
theorem fresh_v (l : List Value) : ∀ f ∈ l.map FV.v, FreshF f := fun f hf => by
  obtain ⟨a, -, rfl⟩ := List.mem_map.1 hf; exact .v a
end Go.Eng
