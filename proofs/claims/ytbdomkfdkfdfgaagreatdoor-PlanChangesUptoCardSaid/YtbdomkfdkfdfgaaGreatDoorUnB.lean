/-
  The document's Ripe, Same; which xX are trees.
-/
import Derived.Test.YtbdomkfdkfdfgaaGreatDoorTka
import Derived.Test.YtbdomkfdkfdfgaaGreatDoorOne
import Derived.Test.YtbdomkfdkfdfgaaGreatDoorTpF
import Derived.Test.YtbdomkfdkfdfgaaGreatDoorChn
import Derived.Test.YtbdomkfdkfdfgaaGreatDoorSrs
import Derived.Test.YtbdomkfdkfdfgaaGreatDoorTpB
import Derived.Deep.RegionLaw
import Derived.Shelf.RegionOpenPlain
import Derived.Lib.SliceRun
import Derived.Test.YtbdomkfdkfdfgaaGreatDoorUch
set_option linter.unusedSimpArgs false
set_option linter.unusedVariables false
section
namespace Go.Tr
open Go
set_option maxRecDepth 20000
instance:Inhabited Chg:=⟨⟨ByteArray.empty,0,kD,kD,kD,kD,kD,kD⟩⟩
def lab (L:List Chg):List (Nat × Chg):=(List.range L.length).map fun i=>(i,L.getD i default)
def yes:Nat × Chg→Bool:=fun _=>true
def zTl (out:List Bool):Nat × Chg→Bool:=fun x=>!(out.getD x.1 false)
def kept (out:List Bool) (L:List Chg):List (Nat × Chg):=(lab L).filter (zTl out)
structure Tree3 (T:Tri):Prop where
 t0:Tree T.1
 t1:Tree T.2.1
 t2:Tree T.2.2
theorem Tree3.tr {T:Tri} (h:Tree3 T) (i:Nat):Tree (tr T i):=by
 unfold Go.Tr.tr;split
 ·exact h.t0
 ·exact h.t1
 ·exact h.t2
end Go.Tr
end
section
set_option maxRecDepth 20000
namespace Go.Tr
open Go Go.Eng Go.RowKit
theorem zD4:∀ (s:List UInt8),((jX s).map fun x=>x.length + 1).sum=s.length + 1
|[]=>rfl
|c :: r=>by
  have ih:=zD4 r
  by_cases h:c=47
  ·subst h;rw [mM];simp only [List.map_cons,List.sum_cons,List.length_nil,List.length_cons,ih];omega
  ·cases e:jX r with
  |nil=>exact absurd e (xK r)
  |cons a t =>
    rw [lN h e];rw [e] at ih;simp only [List.map_cons,List.sum_cons,List.length_cons] at ih ⊢;omega
theorem qAh {l:List Nat} {m:Nat} (h:∀ x ∈ l,x≤m):l.sum≤l.length * m:=by
 induction l with
|nil=>simp
|cons x r ih =>
  rw [List.sum_cons,List.length_cons,Nat.add_mul,Nat.one_mul]
  have h1:=h x (by simp)
  have h2:=ih fun y hy=>h y (by simp [hy])
  omega
theorem zHy {p:ByteArray} {d:Nat} (h:pOk p d=true):p.size≤d * 13:=by
 simp only [pOk,Bool.and_eq_true,decide_eq_true_eq] at h;obtain ⟨h1,h2⟩:=h
 have hs:=zD4 p.data.toList
 have hle:=qAh (l:=(jX p.data.toList).map fun x=>x.length + 1) (m:=13) fun x hx=>by
  obtain ⟨y,hy,rfl⟩:=List.mem_map.1 hx
  have:=List.all_eq_true.1 h2 (mkB y) (List.mem_map.2 ⟨y,hy,rfl⟩)
  simp only [eQ,Bool.and_eq_true,decide_eq_true_eq] at this
  have hz:(mkB y).size=y.length:=by simp [mkB,ByteArray.size]
  omega
 rw [hs,List.length_map] at hle
 have hl:(parts p).length=(jX p.data.toList).length:=by simp [parts]
 rw [Lib.size_eq]
 have:(jX p.data.toList).length≤d:=by omega
 have:=Nat.mul_le_mul_right 13 this
 omega
theorem Tree.size {t:List Ent} (h:Tree t):∀ e ∈ t,e.1.size≤1048576:=fun e he=>by
 have:=zHy (d:=5) (h.each e he).1
 omega
end Go.Tr
end
section
set_option maxRecDepth 20000
namespace Go.Proofs.YtbdomkfdkfdfgaaGreatDoor
open Go Go.Eng Go.RowKit Go.Tr
end Go.Proofs.YtbdomkfdkfdfgaaGreatDoor
end
section
set_option maxRecDepth 20000
namespace Go.Proofs.YtbdomkfdkfdfgaaGreatDoor
open Go Go.Eng Go.RowKit Go.Tr Go.Lib
abbrev iX (l:List Chg):Row:=.sl true 50 14 (chs l)
end Go.Proofs.YtbdomkfdkfdfgaaGreatDoor
end
section
set_option maxRecDepth 20000
namespace Go.Tr
open Go Go.Eng Go.RowKit
end Go.Tr
namespace Go.Proofs.YtbdomkfdkfdfgaaGreatDoor
open Go Go.Eng Go.RowKit Go.Tr
end Go.Proofs.YtbdomkfdkfdfgaaGreatDoor
end
section
set_option maxRecDepth 20000
namespace Go.Tr
open Go Go.Eng
theorem rL (T:Tri) {i:Nat} (h:i < 3):(jK T).getD i .junk=.lst false (aL (tr T i)):=by
 rcases xX h with rfl|rfl|rfl <;> rfl
end Go.Tr
namespace Go.Proofs.YtbdomkfdkfdfgaaGreatDoor
open Go Go.Eng Go.RowKit Go.Tr
end Go.Proofs.YtbdomkfdkfdfgaaGreatDoor
end
