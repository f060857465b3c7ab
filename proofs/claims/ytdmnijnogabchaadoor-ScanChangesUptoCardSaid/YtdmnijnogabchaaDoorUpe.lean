/-
  Entries and nodes that are handed in, opened; how much they hold.
-/
import Derived.Shelf.Small.Strs
import Derived.Shelf.Strings.Search1
import Derived.Shelf.Strings.Count
import Derived.Test.YtdmnijnogabchaaDoorProg
import Derived.Test.YtdmnijnogabchaaDoorTrC
import Derived.Test.YtdmnijnogabchaaDoorGc
import Derived.Test.YtdmnijnogabchaaDoorTyC
import Derived.Test.YtdmnijnogabchaaDoorGd
set_option linter.unusedSimpArgs false
set_option linter.unusedVariables false
section
namespace Go.Proofs.YtdmnijnogabchaaDoor
open Go.Shelf
def Tryd.lays217_ren:Go.Shelf.Ren:=⟨fun|217=>71|266=>82|n=>n,fun|9=>9|5=>5|3=>3|n=>n,fun|n=>n⟩
theorem Tryd.lays217:Go.Proofs.Lays.n217 Tryd.prog Tryd.lays217_ren:={
 mixed:=by kernel_rfl
 f217:=Tryd.func71.trans (congrArg some (by kernel_rfl))
 f266:=Tryd.func82.trans (congrArg some (by kernel_rfl))
 t3:=Tryd.underlying3
 a3:=Tryd.isAgg3
 z3:=Tryd.sizeOf3
 v3:=Tryd.zeroValue3
 t5:=Tryd.underlying5
 a5:=Tryd.isAgg5
 z5:=Tryd.sizeOf5
 v5:=Tryd.zeroValue5
 t9:=Tryd.underlying9
 a9:=Tryd.isAgg9
 z9:=Tryd.sizeOf9
 v9:=Tryd.zeroValue9 }
open Go.RowKit Go.Lib in theorem Tryd.stringslite_IndexByte (s:ByteArray) (c:Int) (w:World) :
  Calls Tryd.prog 71 #[.string s,.int .u8 c] w fun e w'=>e=.returned (.int .i64 (Lib.indexByte s.data.toList c.toNat.toUInt8))∧w'=w:=Any.stringslite_IndexByte Tryd.lays217 s c w
def Tryd.lays138_ren:Go.Shelf.Ren:=⟨fun|138=>39|195=>49|218=>50|143=>51|219=>58|217=>71|225=>72|224=>73|267=>74|266=>82|314=>83|n=>n,fun|9=>9|3=>3|4=>4|5=>5|0=>0|46=>89|146=>112|51=>100|n=>n,fun|1=>0|n=>n⟩
theorem Tryd.lays138:Go.Proofs.Lays.n138 Tryd.prog Tryd.lays138_ren:={
 mixed:=by kernel_rfl
 f138:=Tryd.func39.trans (congrArg some (by kernel_rfl))
 f143:=Tryd.func51.trans (congrArg some (by kernel_rfl))
 f195:=Tryd.func49.trans (congrArg some (by kernel_rfl))
 f217:=Tryd.func71.trans (congrArg some (by kernel_rfl))
 f218:=Tryd.func50.trans (congrArg some (by kernel_rfl))
 f219:=Tryd.func58.trans (congrArg some (by kernel_rfl))
 f224:=Tryd.func73.trans (congrArg some (by kernel_rfl))
 f225:=Tryd.func72.trans (congrArg some (by kernel_rfl))
 f266:=Tryd.func82.trans (congrArg some (by kernel_rfl))
 f267:=Tryd.func74.trans (congrArg some (by kernel_rfl))
 f314:=Tryd.func83.trans (congrArg some (by kernel_rfl))
 t0:=Tryd.underlying0
 a0:=Tryd.isAgg0
 z0:=Tryd.sizeOf0
 v0:=Tryd.zeroValue0
 t3:=Tryd.underlying3
 a3:=Tryd.isAgg3
 z3:=Tryd.sizeOf3
 v3:=Tryd.zeroValue3
 t4:=Tryd.underlying4
 a4:=Tryd.isAgg4
 z4:=Tryd.sizeOf4
 v4:=Tryd.zeroValue4
 t5:=Tryd.underlying5
 a5:=Tryd.isAgg5
 z5:=Tryd.sizeOf5
 v5:=Tryd.zeroValue5
 t9:=Tryd.underlying9
 a9:=Tryd.isAgg9
 z9:=Tryd.sizeOf9
 v9:=Tryd.zeroValue9
 t46:=Tryd.underlying89
 a46:=Tryd.isAgg89
 z46:=Tryd.sizeOf89
 v46:=Tryd.zeroValue89
 t51:=Tryd.underlying100
 a51:=Tryd.isAgg100
 z51:=Tryd.sizeOf100
 v51:=Tryd.zeroValue100
 t146:=Tryd.underlying112
 a146:=Tryd.isAgg112
 z146:=Tryd.sizeOf112
 v146:=Tryd.zeroValue112
 g1:=by kernel_rfl }
open Go.RowKit Go.Lib in theorem Tryd.strings_Count_one (s:ByteArray) (c:UInt8) (w:World) :
  Calls Tryd.prog 39 #[.string s,.string ⟨#[c]⟩] w fun e w'=>e=.returned (.int .i64 (Lib.countByte s.data.toList c))∧w'=w:=Any.strings_Count_one Tryd.lays138 s c w
end Go.Proofs.YtdmnijnogabchaaDoor
end
section
set_option maxRecDepth 20000
namespace Go.Tr
open Go Go.Eng Go.RowKit
def qXe (e:Ent):List FV:=[.v (.string e.1),.v (.int .i64 e.2.1),.v (.string e.2.2)]
def cX (t:List Ent):List (List FV):=t.map qXe
abbrev qMf (n:Int × ByteArray):HV:=.agg [.v (.int .i64 n.1),.v (.string n.2)]
theorem yV (t:List Ent):(cX t).length=t.length:=by simp [cX]
theorem yU (t:List Ent):Wid 3 (cX t)=True:=eq_true (qP3 t fun _=>rfl)
theorem yW {t:List Ent} {i:Nat} {d:List FV} (h:i < t.length):(cX t).getD i d=[.v (.string t[i].1),.v (.int .i64 t[i].2.1),.v (.string t[i].2.2)]:=by unfold cX;rw [sC h];rfl
theorem yT (t:List Ent):nY (cX t)=cX t:=by
 unfold nY cX;rw [List.map_map];apply List.map_congr_left;intro s _;simp [qXe,FV.old]
theorem zBh (t:List Ent) (p:ByteArray) (k:Int) (d:ByteArray):cX t ++ [[.v (.string p),.v (.int .i64 k),.v (.string d)]]=cX (t ++ [(p,k,d)]):=by simp [cX,qXe]
theorem oK {st:aC} (n:Int × ByteArray):Lend st (qMf n) (qMf n):=.agg rfl fun j h1 h2=>by
 match j,h1 with
|0,_=>exact .v _
|1,_=>exact .v _
theorem qM7 {S:HS} {n:Int × ByteArray} {Q:HV→aC→Prop} (q:Q (qMf n) []):qKu S (qMf n) Q :=
 ⟨[],by simp,rfl,.agg fun x hx=>by simp at hx;rcases hx with rfl|rfl <;> exact .v _,fun id h=>by simp at h,by rw [HV.ren];simp only [List.map_cons,List.map_nil,HV.ren];exact q⟩
end Go.Tr
namespace Go.Proofs.YtdmnijnogabchaaDoor
open Go Go.Eng Go.RowKit Go.Tr
end Go.Proofs.YtdmnijnogabchaaDoor
end
section
namespace Go.Proofs.YtdmnijnogabchaaDoor
open Go Go.Eng Go.RowKit Go.ChangeShapes Go.WideShapes Go.ChangeAt Go.Tr
theorem qUy {b:Nat} {f:FV} (h:Fit (.sl b [.str,.int .i64,.str]) f):∃ t:List Ent,f=.lst false (cX t)∧True:=by
 cases h with
|sl hb hl h =>
  rename_i xs
  have:∀ x ∈ xs,∃ e:Ent,x=qXe e:=fun x hx=>by
   have h1:=hl x hx
   match x,h1 with
  |[f0,f1,f2],_ =>
   have a:=h _ hx 0 (by simp) (by simp)
   have b:=h _ hx 1 (by simp) (by simp)
   have c:=h _ hx 2 (by simp) (by simp)
   simp only [List.getElem_cons_zero,List.getElem_cons_succ] at a b c
   cases a;cases b;cases c
   exact ⟨(_,_,_),rfl⟩
  clear hb hl h
  induction xs with
 |nil=>exact ⟨[],rfl,trivial⟩
 |cons x r ih =>
   obtain ⟨e,rfl⟩:=this x (by simp)
   obtain ⟨t,ht,-⟩:=ih (fun y hy=>this y (by simp [hy]))
   simp only [FV.lst.injEq,true_and] at ht;exact ⟨e :: t,by rw [ht];rfl,trivial⟩
theorem qZk (t:List Ent):t.length≤fw (.lst false (cX t))∧∀ e ∈ t,e.1.size≤fw (.lst false (cX t))∧e.2.2.size≤fw (.lst false (cX t)):=by
 rw [zD4]
 have:∀ t:List Ent,t.length≤((cX t).map fws).sum∧∀ e ∈ t,e.1.size≤((cX t).map fws).sum∧e.2.2.size≤((cX t).map fws).sum:=by
  intro t
  induction t with
 |nil=>exact ⟨Nat.le_refl _,by simp⟩
 |cons x r ih =>
   have e1:((cX (x :: r)).map fws).sum=fws (qXe x) + ((cX r).map fws).sum:=by simp [cX]
   have e2:x.1.size + 1 + x.2.2.size≤fws (qXe x):=by simp [fws,qXe,zJg];omega
   rw [e1];refine ⟨by simp only [List.length_cons];omega,fun e he=>?_⟩
   rcases List.mem_cons.1 he with rfl|he
   ·exact ⟨by omega,by omega⟩
   ·have:=ih.2 e he;exact ⟨by omega,by omega⟩
 obtain ⟨h1,h2⟩:=this t;exact ⟨by omega,fun e he=>by have:=h2 e he;exact ⟨by omega,by omega⟩⟩
end Go.Proofs.YtdmnijnogabchaaDoor
end
