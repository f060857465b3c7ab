/-
  Entries ay values; strings.Compare, the search in a tree, tree.Get.
-/
import Derived.Shelf.Small.Strs
import Derived.Shelf.Strings.Search1
import Derived.Shelf.Strings.Count
import Derived.Test.YtbdomkfdkfdfgaaGreatDoorProg
import Derived.Shelf.Strings.Builder1
import Derived.Shelf.Strings.Builder2
import Derived.Shelf.Strings.OnBuilder
import Derived.Shelf.Utf8.RuneCount
import Derived.Shelf.Strings.Search2
import Derived.Shelf.Strings.Search3
import Derived.Shelf.LaysM
import Derived.Shelf.Strings.Shaped
import Derived.Shelf.Strings.Prefix
import Derived.Shelf.Bits.Mul64
import Derived.Ground.Names2Prog
import Derived.Shelf.Slices.Clone
import Derived.Ground.SlgnProg
import Derived.Shelf.SlicesE.Clone
import Derived.Test.YtbdomkfdkfdfgaaGreatDoorTrC
import Derived.Test.YtbdomkfdkfdfgaaGreatDoorGc
import Derived.Test.YtbdomkfdkfdfgaaGreatDoorTyP
set_option linter.unusedSimpArgs false
set_option linter.unusedVariables false
section
namespace Go.Proofs.YtbdomkfdkfdfgaaGreatDoor
open Go.Shelf
def Tryz.lays213_ren:Go.Shelf.Ren:=⟨fun|213=>125|265=>144|n=>n,fun|9=>9|3=>3|n=>n,fun|n=>n⟩
theorem Tryz.lays213:Go.Proofs.Lays.n213 Tryz.prog Tryz.lays213_ren:={
 mixed:=by kernel_rfl
 f213:=Tryz.func125.trans (congrArg some (by kernel_rfl))
 f265:=Tryz.func144.trans (congrArg some (by kernel_rfl))
 t3:=Tryz.underlying3
 a3:=Tryz.isAgg3
 z3:=Tryz.sizeOf3
 v3:=Tryz.zeroValue3
 t9:=Tryz.underlying9
 a9:=Tryz.isAgg9
 z9:=Tryz.sizeOf9
 v9:=Tryz.zeroValue9 }
open Go.RowKit in theorem Tryz.bytealg_CompareString (a b:ByteArray) (w:World) :
  Calls Tryz.prog 125 #[.string a,.string b] w fun e w'=>e=.returned (.int .i64 (Lib.compareBytes a.data.toList b.data.toList))∧w'=w:=Any.bytealg_CompareString Tryz.lays213 a b w
def Tryz.lays106_ren:Go.Shelf.Ren:=⟨fun|106=>96|213=>125|265=>144|n=>n,fun|9=>9|3=>3|n=>n,fun|n=>n⟩
theorem Tryz.lays106:Go.Proofs.Lays.n106 Tryz.prog Tryz.lays106_ren:={
 mixed:=by kernel_rfl
 f106:=Tryz.func96.trans (congrArg some (by kernel_rfl))
 f213:=Tryz.func125.trans (congrArg some (by kernel_rfl))
 f265:=Tryz.func144.trans (congrArg some (by kernel_rfl))
 t3:=Tryz.underlying3
 a3:=Tryz.isAgg3
 z3:=Tryz.sizeOf3
 v3:=Tryz.zeroValue3
 t9:=Tryz.underlying9
 a9:=Tryz.isAgg9
 z9:=Tryz.sizeOf9
 v9:=Tryz.zeroValue9 }
open Go.RowKit in theorem Tryz.strings_Compare (a b:ByteArray) (w:World) :
  Calls Tryz.prog 96 #[.string a,.string b] w fun e w'=>e=.returned (.int .i64 (Lib.compareBytes a.data.toList b.data.toList))∧w'=w:=Any.strings_Compare Tryz.lays106 a b w
def Tryz.lays217_ren:Go.Shelf.Ren:=⟨fun|217=>149|266=>174|n=>n,fun|9=>9|5=>5|3=>3|n=>n,fun|n=>n⟩
theorem Tryz.lays217:Go.Proofs.Lays.n217 Tryz.prog Tryz.lays217_ren:={
 mixed:=by kernel_rfl
 f217:=Tryz.func149.trans (congrArg some (by kernel_rfl))
 f266:=Tryz.func174.trans (congrArg some (by kernel_rfl))
 t3:=Tryz.underlying3
 a3:=Tryz.isAgg3
 z3:=Tryz.sizeOf3
 v3:=Tryz.zeroValue3
 t5:=Tryz.underlying5
 a5:=Tryz.isAgg5
 z5:=Tryz.sizeOf5
 v5:=Tryz.zeroValue5
 t9:=Tryz.underlying9
 a9:=Tryz.isAgg9
 z9:=Tryz.sizeOf9
 v9:=Tryz.zeroValue9 }
open Go.RowKit Go.Lib in theorem Tryz.stringslite_IndexByte (s:ByteArray) (c:Int) (w:World) :
  Calls Tryz.prog 149 #[.string s,.int .u8 c] w fun e w'=>e=.returned (.int .i64 (Lib.indexByte s.data.toList c.toNat.toUInt8))∧w'=w:=Any.stringslite_IndexByte Tryz.lays217 s c w
def Tryz.lays138_ren:Go.Shelf.Ren:=⟨fun|138=>146|195=>171|218=>173|143=>147|219=>130|217=>149|225=>150|224=>151|267=>152|266=>174|314=>175|n=>n,fun|9=>9|3=>3|4=>4|5=>5|0=>0|46=>109|146=>211|51=>136|n=>n,fun|1=>0|n=>n⟩
theorem Tryz.lays138:Go.Proofs.Lays.n138 Tryz.prog Tryz.lays138_ren:={
 mixed:=by kernel_rfl
 f138:=Tryz.func146.trans (congrArg some (by kernel_rfl))
 f143:=Tryz.func147.trans (congrArg some (by kernel_rfl))
 f195:=Tryz.func171.trans (congrArg some (by kernel_rfl))
 f217:=Tryz.func149.trans (congrArg some (by kernel_rfl))
 f218:=Tryz.func173.trans (congrArg some (by kernel_rfl))
 f219:=Tryz.func130.trans (congrArg some (by kernel_rfl))
 f224:=Tryz.func151.trans (congrArg some (by kernel_rfl))
 f225:=Tryz.func150.trans (congrArg some (by kernel_rfl))
 f266:=Tryz.func174.trans (congrArg some (by kernel_rfl))
 f267:=Tryz.func152.trans (congrArg some (by kernel_rfl))
 f314:=Tryz.func175.trans (congrArg some (by kernel_rfl))
 t0:=Tryz.underlying0
 a0:=Tryz.isAgg0
 z0:=Tryz.sizeOf0
 v0:=Tryz.zeroValue0
 t3:=Tryz.underlying3
 a3:=Tryz.isAgg3
 z3:=Tryz.sizeOf3
 v3:=Tryz.zeroValue3
 t4:=Tryz.underlying4
 a4:=Tryz.isAgg4
 z4:=Tryz.sizeOf4
 v4:=Tryz.zeroValue4
 t5:=Tryz.underlying5
 a5:=Tryz.isAgg5
 z5:=Tryz.sizeOf5
 v5:=Tryz.zeroValue5
 t9:=Tryz.underlying9
 a9:=Tryz.isAgg9
 z9:=Tryz.sizeOf9
 v9:=Tryz.zeroValue9
 t46:=Tryz.underlying109
 a46:=Tryz.isAgg109
 z46:=Tryz.sizeOf109
 v46:=Tryz.zeroValue109
 t51:=Tryz.underlying136
 a51:=Tryz.isAgg136
 z51:=Tryz.sizeOf136
 v51:=Tryz.zeroValue136
 t146:=Tryz.underlying211
 a146:=Tryz.isAgg211
 z146:=Tryz.sizeOf211
 v146:=Tryz.zeroValue211
 g1:=by kernel_rfl }
open Go.RowKit Go.Lib in theorem Tryz.strings_Count_one (s:ByteArray) (c:UInt8) (w:World) :
  Calls Tryz.prog 146 #[.string s,.string ⟨#[c]⟩] w fun e w'=>e=.returned (.int .i64 (Lib.countByte s.data.toList c))∧w'=w:=Any.strings_Count_one Tryz.lays138 s c w
end Go.Proofs.YtbdomkfdkfdfgaaGreatDoor
end
section
namespace Go.Proofs.YtbdomkfdkfdfgaaGreatDoor
open Go.Shelf
def Tryz.lays156_ren:Go.Shelf.Ren:=⟨fun|156=>138|165=>166|166=>167|169=>168|240=>181|241=>182|276=>190|277=>191|n=>n,fun|31=>81|9=>9|3=>3|4=>4|0=>0|20=>20|72=>201|76=>204|70=>199|37=>191|75=>203|127=>222|164=>234|5=>5|80=>206|n=>n,fun|n=>n⟩
theorem Tryz.lays156:Go.Proofs.Lays.n156 Tryz.prog Tryz.lays156_ren:={
 mixed:=by kernel_rfl
 f156:=Tryz.func138.trans (congrArg some (by kernel_rfl))
 f165:=Tryz.func166.trans (congrArg some (by kernel_rfl))
 f166:=Tryz.func167.trans (congrArg some (by kernel_rfl))
 f169:=Tryz.func168.trans (congrArg some (by kernel_rfl))
 f240:=Tryz.func181.trans (congrArg some (by kernel_rfl))
 f241:=Tryz.func182.trans (congrArg some (by kernel_rfl))
 f276:=Tryz.func190.trans (congrArg some (by kernel_rfl))
 f277:=Tryz.func191.trans (congrArg some (by kernel_rfl))
 t0:=Tryz.underlying0
 a0:=Tryz.isAgg0
 z0:=Tryz.sizeOf0
 v0:=Tryz.zeroValue0
 t3:=Tryz.underlying3
 a3:=Tryz.isAgg3
 z3:=Tryz.sizeOf3
 v3:=Tryz.zeroValue3
 t4:=Tryz.underlying4
 a4:=Tryz.isAgg4
 z4:=Tryz.sizeOf4
 v4:=Tryz.zeroValue4
 t9:=Tryz.underlying9
 a9:=Tryz.isAgg9
 z9:=Tryz.sizeOf9
 v9:=Tryz.zeroValue9
 t20:=Tryz.underlying20
 a20:=Tryz.isAgg20
 z20:=Tryz.sizeOf20
 v20:=Tryz.zeroValue20
 t31:=Tryz.underlying81
 a31:=Tryz.isAgg81
 z31:=Tryz.sizeOf81
 v31:=Tryz.zeroValue81
 t37:=Tryz.underlying191
 a37:=Tryz.isAgg191
 z37:=Tryz.sizeOf191
 v37:=Tryz.zeroValue191
 t70:=Tryz.underlying199
 a70:=Tryz.isAgg199
 z70:=Tryz.sizeOf199
 v70:=Tryz.zeroValue199
 t72:=Tryz.underlying201
 a72:=Tryz.isAgg201
 z72:=Tryz.sizeOf201
 v72:=Tryz.zeroValue201
 t75:=Tryz.underlying203
 a75:=Tryz.isAgg203
 z75:=Tryz.sizeOf203
 v75:=Tryz.zeroValue203
 t76:=Tryz.underlying204
 a76:=Tryz.isAgg204
 z76:=Tryz.sizeOf204
 v76:=Tryz.zeroValue204
 t127:=Tryz.underlying222
 a127:=Tryz.isAgg222
 z127:=Tryz.sizeOf222
 v127:=Tryz.zeroValue222
 t164:=Tryz.underlying234
 a164:=Tryz.isAgg234
 z164:=Tryz.sizeOf234
 v164:=Tryz.zeroValue234 }
theorem Tryz.Builder_Extra_156:Builder.Extra Tryz.prog Tryz.lays156_ren:={
 sizeBuilder:=by kernel_rfl
 liesBuilder:=by kernel_rfl
 t5:=Tryz.underlying5
 a5:=Tryz.isAgg5
 z5:=Tryz.sizeOf5
 v5:=Tryz.zeroValue5
 infoByte:=by kernel_rfl
 cellsByte:=by kernel_rfl
 sizeByte:=by kernel_rfl
 neB5:=by decide }
open Go.RowKit in theorem Tryz.strings_Join_none (a:Option Addr) (c:Nat) (sep:ByteArray) (w:World) :
  Calls Tryz.prog 138 #[.slice a 0 c,.string sep] w fun e w'=>e=.returned (.string ⟨#[]⟩)∧w'=w:=Any.strings_Join_none Tryz.lays156 Tryz.Builder_Extra_156 a c sep w
open Go.RowKit in theorem Tryz.strings_Join (bk o c:Nat) (xs:List ByteArray) (sep:ByteArray) (w:World) (dF:∀ (j:Nat) x,xs[j]?=some x→w.cell? ⟨bk,o + j,none⟩=some (.string x)) (hbk:bk < w.heap.size) (hN:xs.length≤140737488355328) (hcap:xs.length≤c) (hlen:(Lib.join (xs.map (·.data.toList)) sep.data.toList).length≤140737488355328) :
  Calls Tryz.prog 138 #[.slice (some ⟨bk,o,none⟩) xs.length c,.string sep] w fun e w'=>e=.returned (.string ⟨(Lib.join (xs.map (·.data.toList)) sep.data.toList).toArray⟩)∧Below w.heap.size w w':=Any.strings_Join Tryz.lays156 Tryz.Builder_Extra_156 bk o c xs sep w dF hbk hN hcap hlen
def Tryz.lays137_ren:Go.Shelf.Ren:=⟨fun|137=>162|217=>149|266=>174|n=>n,fun|9=>9|5=>5|3=>3|n=>n,fun|n=>n⟩
theorem Tryz.lays137:Go.Proofs.Lays.n137 Tryz.prog Tryz.lays137_ren:={
 mixed:=by kernel_rfl
 f137:=Tryz.func162.trans (congrArg some (by kernel_rfl))
 f217:=Tryz.func149.trans (congrArg some (by kernel_rfl))
 f266:=Tryz.func174.trans (congrArg some (by kernel_rfl))
 t3:=Tryz.underlying3
 a3:=Tryz.isAgg3
 z3:=Tryz.sizeOf3
 v3:=Tryz.zeroValue3
 t5:=Tryz.underlying5
 a5:=Tryz.isAgg5
 z5:=Tryz.sizeOf5
 v5:=Tryz.zeroValue5
 t9:=Tryz.underlying9
 a9:=Tryz.isAgg9
 z9:=Tryz.sizeOf9
 v9:=Tryz.zeroValue9 }
open Go.RowKit in theorem Tryz.strings_IndexByte (s:ByteArray) (c:Int) (w:World) :
  Calls Tryz.prog 162 #[.string s,.int .u8 c] w fun e w'=>e=.returned (.int .i64 (Lib.indexByte s.data.toList c.toNat.toUInt8))∧w'=w:=Any.strings_IndexByte Tryz.lays137 s c w
def Tryz.lays100_ren:Go.Shelf.Ren:=⟨fun|100=>139|207=>169|n=>n,fun|9=>9|4=>4|3=>3|n=>n,fun|n=>n⟩
theorem Tryz.lays100:Go.Proofs.Lays.n100 Tryz.prog Tryz.lays100_ren:={
 mixed:=by kernel_rfl
 f100:=Tryz.func139.trans (congrArg some (by kernel_rfl))
 f207:=Tryz.func169.trans (congrArg some (by kernel_rfl))
 t3:=Tryz.underlying3
 a3:=Tryz.isAgg3
 z3:=Tryz.sizeOf3
 v3:=Tryz.zeroValue3
 t4:=Tryz.underlying4
 a4:=Tryz.isAgg4
 z4:=Tryz.sizeOf4
 v4:=Tryz.zeroValue4
 t9:=Tryz.underlying9
 a9:=Tryz.isAgg9
 z9:=Tryz.sizeOf9
 v9:=Tryz.zeroValue9 }
open Go.RowKit Go.Lib in theorem Tryz.strings_HasSuffix (s p:ByteArray) (w:World) (hs:s.size≤9223372036854775807) :
  Calls Tryz.prog 139 #[.string s,.string p] w fun e w'=>e=.returned (.bool (Lib.hasSuffix s.data.toList p.data.toList))∧w'=w:=Any.strings_HasSuffix Tryz.lays100 s p w hs
def Tryz.laysNm216_ren:Go.Shelf.Ren:=⟨fun|16=>165|n=>n,fun|24=>81|9=>9|4=>4|n=>n,fun|n=>n⟩
theorem Tryz.laysNm216:Go.Proofs.Lays2.n16 Tryz.prog Tryz.laysNm216_ren:={
 mixed:=by kernel_rfl
 f16:=Tryz.func165.trans (congrArg some (by kernel_rfl))
 t4:=Tryz.underlying4
 a4:=Tryz.isAgg4
 z4:=Tryz.sizeOf4
 v4:=Tryz.zeroValue4
 t9:=Tryz.underlying9
 a9:=Tryz.isAgg9
 z9:=Tryz.sizeOf9
 v9:=Tryz.zeroValue9
 t24:=Tryz.underlying81
 a24:=Tryz.isAgg81
 z24:=Tryz.sizeOf81
 v24:=Tryz.zeroValue81
 i9:=by kernel_rfl }
open Go.RowKit Go.Lib in theorem Tryz.slices_Clone_string (b off n c:Nat) (zs:List ByteArray) (w:World) (hz:n≤zs.length) (hbig:n * 16≤140737488355328) (hc:∀ j,j < zs.length→w.cell? ⟨b,off + j,none⟩=some (.string (zs.getD j ByteArray.empty))) :
  Calls Tryz.prog 165 #[.slice (some ⟨b,off,none⟩) n c] w fun e w'=>∃ v',e=.returned v'∧w'.ownsRow w.heap.size 9 1 v' n ((zs.take n).map (Value.string))∧v'≠.slice none 0 0∧Below w.heap.size w w':=Any.slices_Clone_string Tryz.laysNm216 b off n c zs w hz hbig hc
open Go.RowKit Go.Lib in theorem Tryz.slices_Clone_string_nil (n c:Nat) (w:World) :
  Calls Tryz.prog 165 #[.slice none n c] w fun e w'=>e=.returned (.slice none 0 0)∧w'=w:=Any.slices_Clone_string_nil Tryz.laysNm216 n c w
open Go.RowKit Go.Lib in theorem Tryz.slices_Clone_string_zero (a:Addr) (c:Nat) (w:World) :
  Calls Tryz.prog 165 #[.slice (some a) 0 c] w fun e w'=>∃ v',e=.returned v'∧w'.ownsRow w.heap.size 9 1 v' 0 []∧v'≠.slice none 0 0∧Below w.heap.size w w':=Any.slices_Clone_string_zero Tryz.laysNm216 a c w
end Go.Proofs.YtbdomkfdkfdfgaaGreatDoor
end
section
set_option maxRecDepth 20000
namespace Go.Tr
open Go Go.Eng Go.RowKit
def qUl (e:Ent):List FV:=[.v (.string e.1),.v (.int .i64 e.2.1),.v (.string e.2.2)]
def aL (t:List Ent):List (List FV):=t.map qUl
abbrev mA (n:Int × ByteArray):HV:=.agg [.v (.int .i64 n.1),.v (.string n.2)]
abbrev zRj (e:Ent):HV:=.agg [.v (.string e.1),.v (.int .i64 e.2.1),.v (.string e.2.2)]
theorem yV (t:List Ent):(aL t).length=t.length:=by simp [aL]
theorem yU (t:List Ent):Wid 3 (aL t)=True:=eq_true (qB6 t fun _=>rfl)
theorem yW {t:List Ent} {i:Nat} {d:List FV} (h:i < t.length):(aL t).getD i d=[.v (.string t[i].1),.v (.int .i64 t[i].2.1),.v (.string t[i].2.2)]:=by unfold aL;rw [sR h];rfl
theorem yT (t:List Ent):qY (aL t)=aL t:=by
 unfold qY aL;rw [List.map_map];apply List.map_congr_left;intro s _;simp [qUl,FV.old]
theorem fG (t:List Ent):∀ x ∈ aL t,∀ f ∈ x,FreshF f:=fun x hx f hf=>by
 obtain ⟨s,-,rfl⟩:=List.mem_map.1 hx;simp [qUl] at hf;rcases hf with rfl|rfl|rfl <;> exact .v _
theorem xF (t:List Ent) (p:ByteArray) (k:Int) (d:ByteArray):aL t ++ [[.v (.string p),.v (.int .i64 k),.v (.string d)]]=aL (t ++ [(p,k,d)]):=by simp [aL,qUl]
theorem wB (s t:List Ent):aL s ++ aL t=aL (s ++ t):=by simp [aL]
theorem xE (t:List Ent) (n:Nat):(aL t).take n=aL (t.take n):=by simp [aL,List.map_take]
theorem xG (t:List Ent) (n:Nat):(aL t).drop n=aL (t.drop n):=by simp [aL,List.map_drop]
theorem eY {st:aB} (n:Int × ByteArray):Lend st (mA n) (mA n):=.agg rfl fun j h1 h2=>by
 match j,h1 with
|0,_=>exact .v _
|1,_=>exact .v _
theorem qK4 {st:aB} (e:Ent):Lend st (zRj e) (zRj e):=.agg rfl fun j h1 h2=>by
 match j,h1 with
|0,_=>exact .v _
|1,_=>exact .v _
|2,_=>exact .v _
theorem xB {S:HS} {n:Int × ByteArray} {Q:HV→aB→Prop} (q:Q (mA n) []):qB5 S (mA n) Q :=
 ⟨[],by simp,rfl,.agg fun x hx=>by simp at hx;rcases hx with rfl|rfl <;> exact .v _,fun id h=>by simp at h,by rw [HV.ren];simp only [List.map_cons,List.map_nil,HV.ren];exact q⟩
end Go.Tr
namespace Go.Proofs.YtbdomkfdkfdfgaaGreatDoor
open Go Go.Eng Go.RowKit Go.Tr
theorem zF5 (a b:ByteArray):HFun Tryz.prog 96 [.v (.string a),.v (.string b)] (fun h st=>h=.v (.int .i64 (qHg a b))):=by
 refine (qC3 fun w vs R=>?_).mono fun h st q=>q.1
 obtain ⟨r1,r2⟩:=R
 match vs,r1 with
|[x,y],_ =>
 have ha:=bF (r2 0 (by simp) (by simp))
 have hb:=bF (r2 1 (by simp) (by simp))
 simp only [List.getElem_cons_zero,List.getElem_cons_succ] at ha hb;subst ha;subst hb;refine (Tryz.strings_Compare a b w).mono ?_;rintro e w' ⟨rfl,rfl⟩;exact mR ⟨rfl,Below.refl _ _⟩
set_option maxHeartbeats 1000000 in
theorem qN0 (e:Ent) (p:ByteArray):HFun Tryz.prog 95 [zRj e,.v (.string p)] (fun h st=>h=.v (.int .i64 (qHg e.1 p))):=by
 obtain ⟨q,k,d⟩:=e;refine fJ (N:=9) Tryz.func95 rfl Tryz.ntmps95 Tryz.results95 (by simp) ?_
 refine zE ?_;refine zJ (fun K hK=>?_);simp (disch:=omega) only [push_cast,↓Int.cast_ofNat_Int,simprocAttr];refine hK _ ?_;clear hK K
 refine zE ?_;refine zJ (fun K hK=>?_);simp (disch:=omega) only [push_cast,↓Int.cast_ofNat_Int,simprocAttr]
 refine cP zU3 (zF5 q p) (.cons (.v _) (.cons (.v _) .nil)) ?_;with_reducible refine aC ?_;simp (disch:=omega) only [push_cast,↓Int.cast_ofNat_Int,simprocAttr]
 refine hK _ ?_;clear hK K;refine zA ?_;refine zW ?_;simp only [yA,yM,yH,yE,aA,aD,yK,yJ,zS,zM,Nat.reduceEqDiff,reduceIte,reduceCtorEq];exact aM rfl
end Go.Proofs.YtbdomkfdkfdfgaaGreatDoor
end
