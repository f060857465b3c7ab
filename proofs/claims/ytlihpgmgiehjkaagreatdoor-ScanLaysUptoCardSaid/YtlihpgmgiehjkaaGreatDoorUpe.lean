/-
  Entries and nodes that are handed in, opened; how much they hold.
-/
import Derived.Shelf.Small.Strs
import Derived.Shelf.Strings.Search1
import Derived.Shelf.Strings.Count
import Derived.Test.YtlihpgmgiehjkaaGreatDoorProg
import Derived.Test.YtlihpgmgiehjkaaGreatDoorTrC
import Derived.Test.YtlihpgmgiehjkaaGreatDoorGc
import Derived.Test.YtlihpgmgiehjkaaGreatDoorTyS
import Derived.Test.YtlihpgmgiehjkaaGreatDoorUpt
set_option linter.unusedSimpArgs false
set_option linter.unusedVariables false
section
namespace Go.Proofs.YtlihpgmgiehjkaaGreatDoor
open Go.Shelf
def Tryz.lays213_ren:Go.Shelf.Ren:=⟨fun|213=>119|265=>130|n=>n,fun|9=>9|3=>3|n=>n,fun|n=>n⟩
theorem Tryz.lays213:Go.Proofs.Lays.n213 Tryz.prog Tryz.lays213_ren:={
 mixed:=by kernel_rfl
 f213:=Tryz.func119.trans (congrArg some (by kernel_rfl))
 f265:=Tryz.func130.trans (congrArg some (by kernel_rfl))
 t3:=Tryz.underlying3
 a3:=Tryz.isAgg3
 z3:=Tryz.sizeOf3
 v3:=Tryz.zeroValue3
 t9:=Tryz.underlying9
 a9:=Tryz.isAgg9
 z9:=Tryz.sizeOf9
 v9:=Tryz.zeroValue9 }
open Go.RowKit in theorem Tryz.bytealg_CompareString (a b:ByteArray) (w:World) :
  Calls Tryz.prog 119 #[.string a,.string b] w fun e w'=>e=.returned (.int .i64 (Lib.compareBytes a.data.toList b.data.toList))∧w'=w:=Any.bytealg_CompareString Tryz.lays213 a b w
def Tryz.lays106_ren:Go.Shelf.Ren:=⟨fun|106=>102|213=>119|265=>130|n=>n,fun|9=>9|3=>3|n=>n,fun|n=>n⟩
theorem Tryz.lays106:Go.Proofs.Lays.n106 Tryz.prog Tryz.lays106_ren:={
 mixed:=by kernel_rfl
 f106:=Tryz.func102.trans (congrArg some (by kernel_rfl))
 f213:=Tryz.func119.trans (congrArg some (by kernel_rfl))
 f265:=Tryz.func130.trans (congrArg some (by kernel_rfl))
 t3:=Tryz.underlying3
 a3:=Tryz.isAgg3
 z3:=Tryz.sizeOf3
 v3:=Tryz.zeroValue3
 t9:=Tryz.underlying9
 a9:=Tryz.isAgg9
 z9:=Tryz.sizeOf9
 v9:=Tryz.zeroValue9 }
open Go.RowKit in theorem Tryz.strings_Compare (a b:ByteArray) (w:World) :
  Calls Tryz.prog 102 #[.string a,.string b] w fun e w'=>e=.returned (.int .i64 (Lib.compareBytes a.data.toList b.data.toList))∧w'=w:=Any.strings_Compare Tryz.lays106 a b w
def Tryz.lays217_ren:Go.Shelf.Ren:=⟨fun|217=>131|266=>137|n=>n,fun|9=>9|5=>5|3=>3|n=>n,fun|n=>n⟩
theorem Tryz.lays217:Go.Proofs.Lays.n217 Tryz.prog Tryz.lays217_ren:={
 mixed:=by kernel_rfl
 f217:=Tryz.func131.trans (congrArg some (by kernel_rfl))
 f266:=Tryz.func137.trans (congrArg some (by kernel_rfl))
 t3:=Tryz.underlying3
 a3:=Tryz.isAgg3
 z3:=Tryz.sizeOf3
 v3:=Tryz.zeroValue3
 t5:=Tryz.underlying5
 a5:=Tryz.isAgg5
 z5:=Tryz.sizeOf5
 v5:=Tryz.zeroValue5
 t9:=Tryz.underlying9
 a9:=Tryz.isAgg9
 z9:=Tryz.sizeOf9
 v9:=Tryz.zeroValue9 }
open Go.RowKit Go.Lib in theorem Tryz.stringslite_IndexByte (s:ByteArray) (c:Int) (w:World) :
  Calls Tryz.prog 131 #[.string s,.int .u8 c] w fun e w'=>e=.returned (.int .i64 (Lib.indexByte s.data.toList c.toNat.toUInt8))∧w'=w:=Any.stringslite_IndexByte Tryz.lays217 s c w
def Tryz.lays138_ren:Go.Shelf.Ren:=⟨fun|138=>116|195=>127|218=>128|143=>118|219=>120|217=>131|225=>132|224=>133|267=>134|266=>137|314=>138|n=>n,fun|9=>9|3=>3|4=>4|5=>5|0=>0|46=>119|146=>154|51=>140|n=>n,fun|1=>0|n=>n⟩
theorem Tryz.lays138:Go.Proofs.Lays.n138 Tryz.prog Tryz.lays138_ren:={
 mixed:=by kernel_rfl
 f138:=Tryz.func116.trans (congrArg some (by kernel_rfl))
 f143:=Tryz.func118.trans (congrArg some (by kernel_rfl))
 f195:=Tryz.func127.trans (congrArg some (by kernel_rfl))
 f217:=Tryz.func131.trans (congrArg some (by kernel_rfl))
 f218:=Tryz.func128.trans (congrArg some (by kernel_rfl))
 f219:=Tryz.func120.trans (congrArg some (by kernel_rfl))
 f224:=Tryz.func133.trans (congrArg some (by kernel_rfl))
 f225:=Tryz.func132.trans (congrArg some (by kernel_rfl))
 f266:=Tryz.func137.trans (congrArg some (by kernel_rfl))
 f267:=Tryz.func134.trans (congrArg some (by kernel_rfl))
 f314:=Tryz.func138.trans (congrArg some (by kernel_rfl))
 t0:=Tryz.underlying0
 a0:=Tryz.isAgg0
 z0:=Tryz.sizeOf0
 v0:=Tryz.zeroValue0
 t3:=Tryz.underlying3
 a3:=Tryz.isAgg3
 z3:=Tryz.sizeOf3
 v3:=Tryz.zeroValue3
 t4:=Tryz.underlying4
 a4:=Tryz.isAgg4
 z4:=Tryz.sizeOf4
 v4:=Tryz.zeroValue4
 t5:=Tryz.underlying5
 a5:=Tryz.isAgg5
 z5:=Tryz.sizeOf5
 v5:=Tryz.zeroValue5
 t9:=Tryz.underlying9
 a9:=Tryz.isAgg9
 z9:=Tryz.sizeOf9
 v9:=Tryz.zeroValue9
 t46:=Tryz.underlying119
 a46:=Tryz.isAgg119
 z46:=Tryz.sizeOf119
 v46:=Tryz.zeroValue119
 t51:=Tryz.underlying140
 a51:=Tryz.isAgg140
 z51:=Tryz.sizeOf140
 v51:=Tryz.zeroValue140
 t146:=Tryz.underlying154
 a146:=Tryz.isAgg154
 z146:=Tryz.sizeOf154
 v146:=Tryz.zeroValue154
 g1:=by kernel_rfl }
open Go.RowKit Go.Lib in theorem Tryz.strings_Count_one (s:ByteArray) (c:UInt8) (w:World) :
  Calls Tryz.prog 116 #[.string s,.string ⟨#[c]⟩] w fun e w'=>e=.returned (.int .i64 (Lib.countByte s.data.toList c))∧w'=w:=Any.strings_Count_one Tryz.lays138 s c w
end Go.Proofs.YtlihpgmgiehjkaaGreatDoor
end
section
set_option maxRecDepth 20000
namespace Go.Tr
open Go Go.Eng Go.RowKit
def qNb (e:Ent):List FV:=[.v (.string e.1),.v (.int .i64 e.2.1),.v (.string e.2.2)]
def bR (t:List Ent):List (List FV):=t.map qNb
abbrev uX (n:Int × ByteArray):HV:=.agg [.v (.int .i64 n.1),.v (.string n.2)]
abbrev zQy (e:Ent):HV:=.agg [.v (.string e.1),.v (.int .i64 e.2.1),.v (.string e.2.2)]
theorem yV (t:List Ent):(bR t).length=t.length:=by simp [bR]
theorem yU (t:List Ent):Wid 3 (bR t)=True:=eq_true (qSl t fun _=>rfl)
theorem yW {t:List Ent} {i:Nat} {d:List FV} (h:i < t.length):(bR t).getD i d=[.v (.string t[i].1),.v (.int .i64 t[i].2.1),.v (.string t[i].2.2)]:=by unfold bR;rw [xD h];rfl
theorem yT (t:List Ent):kH (bR t)=bR t:=by
 unfold kH bR;rw [List.map_map];apply List.map_congr_left;intro s _;simp [qNb,FV.old]
theorem qZw (t:List Ent):∀ x ∈ bR t,∀ f ∈ x,FreshF f:=fun x hx f hf=>by
 obtain ⟨s,-,rfl⟩:=List.mem_map.1 hx;simp [qNb] at hf;rcases hf with rfl|rfl|rfl <;> exact .v _
theorem qE0 (t:List Ent) (p:ByteArray) (k:Int) (d:ByteArray):bR t ++ [[.v (.string p),.v (.int .i64 k),.v (.string d)]]=bR (t ++ [(p,k,d)]):=by simp [bR,qNb]
theorem zEt (t:List Ent) (n:Nat):(bR t).take n=bR (t.take n):=by simp [bR,List.map_take]
theorem sL {st:aF} (n:Int × ByteArray):Lend st (uX n) (uX n):=.agg rfl fun j h1 h2=>by
 match j,h1 with
|0,_=>exact .v _
|1,_=>exact .v _
theorem qKr {st:aF} (e:Ent):Lend st (zQy e) (zQy e):=.agg rfl fun j h1 h2=>by
 match j,h1 with
|0,_=>exact .v _
|1,_=>exact .v _
|2,_=>exact .v _
theorem qAd {S:HS} {n:Int × ByteArray} {Q:HV→aF→Prop} (q:Q (uX n) []):qE9 S (uX n) Q :=
 ⟨[],by simp,rfl,.agg fun x hx=>by simp at hx;rcases hx with rfl|rfl <;> exact .v _,fun id h=>by simp at h,by rw [HV.ren];simp only [List.map_cons,List.map_nil,HV.ren];exact q⟩
end Go.Tr
namespace Go.Proofs.YtlihpgmgiehjkaaGreatDoor
open Go Go.Eng Go.RowKit Go.Tr
theorem zE3 (a b:ByteArray):HFun Tryz.prog 102 [.v (.string a),.v (.string b)] (fun h st=>h=.v (.int .i64 (zFa a b))):=by
 refine (qDe fun w vs R=>?_).mono fun h st q=>q.1
 obtain ⟨r1,r2⟩:=R
 match vs,r1 with
|[x,y],_ =>
 have ha:=bD (r2 0 (by simp) (by simp))
 have hb:=bD (r2 1 (by simp) (by simp))
 simp only [List.getElem_cons_zero,List.getElem_cons_succ] at ha hb;subst ha;subst hb;refine (Tryz.strings_Compare a b w).mono ?_;rintro e w' ⟨rfl,rfl⟩;exact vU ⟨rfl,Below.refl _ _⟩
set_option maxHeartbeats 1000000 in
theorem qNk (e:Ent) (p:ByteArray):HFun Tryz.prog 101 [zQy e,.v (.string p)] (fun h st=>h=.v (.int .i64 (zFa e.1 p))):=by
 obtain ⟨q,k,d⟩:=e;refine jP (N:=9) Tryz.func101 rfl Tryz.ntmps101 Tryz.results101 (by simp) ?_
 refine zE ?_;refine zJ (fun K hK=>?_);simp (disch:=omega) only [push_cast,↓iC9,simprocAttr];refine hK _ ?_;clear hK K
 refine zE ?_;refine zJ (fun K hK=>?_);simp (disch:=omega) only [push_cast,↓iC9,simprocAttr]
 refine dJ zTm (zE3 q p) (.cons (.v _) (.cons (.v _) .nil)) ?_;with_reducible refine aU ?_;simp (disch:=omega) only [push_cast,↓iC9,simprocAttr]
 refine hK _ ?_;clear hK K;refine zA ?_;refine zW ?_;simp only [yA,yM,yH,yE,aL,aV,yK,yJ,zS,zM,Nat.reduceEqDiff,reduceIte,reduceCtorEq];exact bQ rfl
end Go.Proofs.YtlihpgmgiehjkaaGreatDoor
end
section
namespace Go.Proofs.YtlihpgmgiehjkaaGreatDoor
open Go Go.Eng Go.RowKit Go.ChangeShapes Go.WideShapes Go.ChangeAt Go.Tr
theorem qXa {b:Nat} {f:FV} (h:Fit (.sl b [.str,.int .i64,.str]) f):∃ t:List Ent,f=.lst false (bR t)∧True:=by
 cases h with
|sl hb hl h =>
  rename_i xs
  have:∀ x ∈ xs,∃ e:Ent,x=qNb e:=fun x hx=>by
   have h1:=hl x hx
   match x,h1 with
  |[f0,f1,f2],_ =>
   have a:=h _ hx 0 (by simp) (by simp)
   have b:=h _ hx 1 (by simp) (by simp)
   have c:=h _ hx 2 (by simp) (by simp)
   simp only [List.getElem_cons_zero,List.getElem_cons_succ] at a b c
   cases a;cases b;cases c
   exact ⟨(_,_,_),rfl⟩
  clear hb hl h
  induction xs with
 |nil=>exact ⟨[],rfl,trivial⟩
 |cons x r ih =>
   obtain ⟨e,rfl⟩:=this x (by simp)
   obtain ⟨t,ht,-⟩:=ih (fun y hy=>this y (by simp [hy]))
   simp only [FV.lst.injEq,true_and] at ht;exact ⟨e :: t,by rw [ht];rfl,trivial⟩
theorem zCf (t:List Ent):t.length≤fw (.lst false (bR t))∧∀ e ∈ t,e.1.size≤fw (.lst false (bR t))∧e.2.2.size≤fw (.lst false (bR t)):=by
 rw [zJl]
 have:∀ t:List Ent,t.length≤((bR t).map fws).sum∧∀ e ∈ t,e.1.size≤((bR t).map fws).sum∧e.2.2.size≤((bR t).map fws).sum:=by
  intro t
  induction t with
 |nil=>exact ⟨Nat.le_refl _,by simp⟩
 |cons x r ih =>
   have e1:((bR (x :: r)).map fws).sum=fws (qNb x) + ((bR r).map fws).sum:=by simp [bR]
   have e2:x.1.size + 1 + x.2.2.size≤fws (qNb x):=by simp [fws,qNb,zQu];omega
   rw [e1];refine ⟨by simp only [List.length_cons];omega,fun e he=>?_⟩
   rcases List.mem_cons.1 he with rfl|he
   ·exact ⟨by omega,by omega⟩
   ·have:=ih.2 e he;exact ⟨by omega,by omega⟩
 obtain ⟨h1,h2⟩:=this t;exact ⟨by omega,fun e he=>by have:=h2 e he;exact ⟨by omega,by omega⟩⟩
end Go.Proofs.YtlihpgmgiehjkaaGreatDoor
end
