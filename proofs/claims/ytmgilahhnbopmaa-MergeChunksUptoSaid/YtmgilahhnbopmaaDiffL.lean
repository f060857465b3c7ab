/-
  The plain laws of diff: what the zDd of a hD are.
-/
import Derived.Test.YtmgilahhnbopmaaDiffM
set_option linter.unusedVariables false
set_option linter.unusedSimpArgs false
namespace Go.DiffM
variable {α:Type} [DecidableEq α]
def jY (l:List (Nat × Nat)):List Nat:=l.flatMap fun r=>List.replicate r.2 r.1
theorem oT (r:Nat × Nat) (l:List (Nat × Nat)):jY (r :: l)=List.replicate r.2 r.1 ++ jY l:=by simp [jY]
inductive Fine:List (Nat × Nat)→Prop
|nil:Fine []
|one (o n):1≤n→Fine [(o,n)]
|cons (o n p m t):1≤n→o≠p→Fine ((p,m) :: t)→Fine ((o,n) :: (p,m) :: t)
theorem qSu {l:List (Nat × Nat)} (h:Fine l) (op:Nat):Fine (gT l op)∧jY (gT l op)=jY l ++ [op]∧(∀ o n t,l=(o,n) :: t→∃ n' t',gT l op=(o,n') :: t'):=by
 induction h with
|nil=>exact ⟨.one _ _ (by omega),by simp [gT,jY],fun _ _ _ h=>by cases h⟩
|one o n hn =>
  by_cases he:o=op
  ·subst he;rw [gT,if_pos rfl];refine ⟨.one _ _ (by omega),?_,fun o' n' t h=>by cases h;exact ⟨_,_,rfl⟩⟩
   simp [jY,List.replicate_succ']
  ·rw [gT,if_neg he];exact ⟨.cons _ _ _ _ _ hn he (.one _ _ (by omega)),by simp [jY],fun o' n' t h=>by cases h;exact ⟨_,_,rfl⟩⟩
|cons o n p m t hn hne ht ih =>
  rw [gT];obtain ⟨h1,h2,h3⟩:=ih;obtain ⟨n',t',e⟩:=h3 p m t rfl;rw [e] at h1 h2 ⊢;refine ⟨.cons _ _ _ _ _ hn hne h1,?_,fun o' n'' t'' h=>by cases h;exact ⟨_,_,rfl⟩⟩
  rw [oT,h2,oT (o,n) ((p,m) :: t),List.append_assoc]
theorem qYf (l:List Nat):∀ (acc:List (Nat × Nat)),Fine acc→Fine (l.foldl gT acc)∧jY (l.foldl gT acc)=jY acc ++ l:=by
 induction l with
|nil=>intro acc h;exact ⟨h,by simp⟩
|cons x t ih =>
  intro acc h;obtain ⟨h1,h2,-⟩:=qSu h x;obtain ⟨h3,h4⟩:=ih _ h1;exact ⟨h3,by rw [List.foldl_cons,h4,h2];simp⟩
theorem qFs (a b:List α):Fine (hD a b)∧jY (hD a b)=cZ a b:=by
 have:=qYf (cZ a b) [] .nil
 simpa [hD,zDd,jY] using this
theorem Fine.tail {r:Nat × Nat} {l:List (Nat × Nat)} (h:Fine (r :: l)):Fine l:=by
 cases h with
|one=>exact .nil
|cons _ _ _ _ _ _ _ h=>exact h
theorem Fine.head {r:Nat × Nat} {l:List (Nat × Nat)} (h:Fine (r :: l)):1≤r.2:=by
 cases h with
|one _ _ h=>exact h
|cons _ _ _ _ _ h _ _=>exact h
theorem Fine.drop {l:List (Nat × Nat)} (h:Fine l):∀ k,Fine (l.drop k)
|0=>by simpa using h
|k + 1=>by
  have ih:=Fine.drop h k
  by_cases hk:k < l.length
  ·rw [List.drop_eq_getElem_cons hk] at ih;exact ih.tail
  ·rw [List.drop_eq_nil_of_le (by omega)];exact .nil
theorem Fine.next {l:List (Nat × Nat)} (h:Fine l) (k:Nat) (hk:k + 1 < l.length):l[k].1≠l[k + 1].1:=by
 have:=Fine.drop h k
 rw [List.drop_eq_getElem_cons (by omega),List.drop_eq_getElem_cons hk] at this
 cases hh:l[k] with
|mk o n =>
  cases hh2:l[k + 1] with
 |mk p m =>
   rw [hh,hh2] at this
   cases this with
  |cons _ _ _ _ _ _ h _=>exact h
theorem zBk (a b:List α) (i j op:Nat) (rest:List Nat) (h:cZ (a.drop i) (b.drop j)=op :: rest) :
  (op=0∧∃ (hi:i < a.length) (hj:j < b.length),a[i]=b[j]∧rest=cZ (a.drop (i + 1)) (b.drop (j + 1)))∨(op=1∧i < a.length∧rest=cZ (a.drop (i + 1)) (b.drop j))∨(op=2∧j < b.length∧rest=cZ (a.drop i) (b.drop (j + 1))):=by
 by_cases hi:i < a.length
 ·by_cases hj:j < b.length
  ·by_cases he:a[i]=b[j]
   ·rw [qCk a b i j hi hj he] at h
    cases h
    exact .inl ⟨rfl,hi,hj,he,rfl⟩
   ·by_cases hc:at2 a b i (j + 1)≤at2 a b (i + 1) j
    ·rw [nA a b i j hi (.inr ⟨hj,he,hc⟩)] at h
     cases h
     exact .inr (.inl ⟨rfl,hi,rfl⟩)
    ·rw [pS a b i j hj (.inr ⟨hi,he,by omega⟩)] at h
     cases h
     exact .inr (.inr ⟨rfl,hj,rfl⟩)
  ·rw [nA a b i j hi (.inl (by omega))] at h
   cases h
   exact .inr (.inl ⟨rfl,hi,rfl⟩)
 ·by_cases hj:j < b.length
  ·rw [pS a b i j hj (.inl (by omega))] at h
   cases h
   exact .inr (.inr ⟨rfl,hj,rfl⟩)
  ·rw [qEr a b i j (by omega) (by omega)] at h
   cases h
theorem lR:∀ (n:Nat) (a b:List α),a.length + b.length≤n→(cZ a b).length≤a.length + b.length
|n,[],[],_=>by simp [cZ]
|0,x :: xs,_,h=>by simp at h
|0,_,y :: ys,h=>by simp at h
|n + 1,x :: xs,[],h=>by
  have:=lR n xs [] (by simp at h ⊢;omega)
  rw [cZ];simp at this ⊢;omega
|n + 1,[],y :: ys,h=>by
  have:=lR n [] ys (by simp at h ⊢;omega)
  rw [cZ];simp at this ⊢;omega
|n + 1,x :: xs,y :: ys,h=>by
  simp only [List.length_cons] at h
  have h1:=lR n xs ys (by omega)
  have h2:=lR n xs (y :: ys) (by simp only [List.length_cons];omega)
  have h3:=lR n (x :: xs) ys (by simp only [List.length_cons];omega)
  rw [cZ];simp only [List.length_cons] at *
  split
  ·simp only [List.length_cons];omega
  ·split <;> simp only [List.length_cons] <;> omega
theorem Fine.len {l:List (Nat × Nat)} (h:Fine l):l.length≤(jY l).length:=by
 induction h with
|nil=>simp
|one o n hn=>simp [jY];omega
|cons o n p m t hn hne ht ih=>rw [oT];simp at ih ⊢;omega
theorem qYg {l:List (Nat × Nat)} (k:Nat) (hk:k < l.length):l[k].2≤(jY l).length:=by
 induction l generalizing k with
|nil=>simp at hk
|cons r t ih =>
  rw [oT]
  cases k with
 |zero=>simp
 |succ k=>have:=ih k (by simpa using hk);simp at this ⊢;omega
theorem qXv (a b:List α):(hD a b).length≤a.length + b.length∧∀ k (hk:k < (hD a b).length),(hD a b)[k].2≤a.length + b.length:=by
 obtain ⟨h1,h2⟩:=qFs a b
 have h3:=lR _ a b (Nat.le_refl _)
 rw [← h2] at h3;exact ⟨Nat.le_trans h1.len h3,fun k hk=>Nat.le_trans (qYg k hk) h3⟩
end Go.DiffM
