/-
  Regions that draw their order, appends to rows of one's own among their heads.
-/
import Derived.Shelf.Small.Strs
import Derived.Shelf.Strings.Search1
import Derived.Shelf.Strings.Count
import Derived.Test.YtdfjeokjmigkaaaGreatProg
import Derived.Shelf.Strings.Builder1
import Derived.Shelf.Strings.Builder2
import Derived.Shelf.Strings.OnBuilder
import Derived.Shelf.Utf8.RuneCount
import Derived.Shelf.Strings.Search2
import Derived.Shelf.Strings.Search3
import Derived.Shelf.LaysM
import Derived.Shelf.Strings.Shaped
import Derived.Shelf.Strings.Prefix
import Derived.Shelf.Bits.Mul64
import Derived.Ground.Names2Prog
import Derived.Shelf.Slices.Clone
import Derived.Ground.SlgnProg
import Derived.Shelf.SlicesE.Clone
import Derived.Test.YtdfjeokjmigkaaaGreatTrC
import Derived.Test.YtdfjeokjmigkaaaGreatGc
import Derived.Test.YtdfjeokjmigkaaaGreatTyZ
import Derived.Test.YtdfjeokjmigkaaaGreatUpt
set_option linter.unusedSimpArgs false
set_option linter.unusedVariables false
section
namespace Go.Proofs.YtdfjeokjmigkaaaGreat
open Go.Shelf
def Tryz.lays213_ren:Go.Shelf.Ren:=⟨fun|213=>122|265=>134|n=>n,fun|9=>9|3=>3|n=>n,fun|n=>n⟩
theorem Tryz.lays213:Go.Proofs.Lays.n213 Tryz.prog Tryz.lays213_ren:={
 mixed:=by kernel_rfl
 f213:=Tryz.func122.trans (congrArg some (by kernel_rfl))
 f265:=Tryz.func134.trans (congrArg some (by kernel_rfl))
 t3:=Tryz.underlying3
 a3:=Tryz.isAgg3
 z3:=Tryz.sizeOf3
 v3:=Tryz.zeroValue3
 t9:=Tryz.underlying9
 a9:=Tryz.isAgg9
 z9:=Tryz.sizeOf9
 v9:=Tryz.zeroValue9 }
open Go.RowKit in theorem Tryz.bytealg_CompareString (a b:ByteArray) (w:World) :
  Calls Tryz.prog 122 #[.string a,.string b] w fun e w'=>e=.returned (.int .i64 (Lib.compareBytes a.data.toList b.data.toList))∧w'=w:=Any.bytealg_CompareString Tryz.lays213 a b w
def Tryz.lays106_ren:Go.Shelf.Ren:=⟨fun|106=>107|213=>122|265=>134|n=>n,fun|9=>9|3=>3|n=>n,fun|n=>n⟩
theorem Tryz.lays106:Go.Proofs.Lays.n106 Tryz.prog Tryz.lays106_ren:={
 mixed:=by kernel_rfl
 f106:=Tryz.func107.trans (congrArg some (by kernel_rfl))
 f213:=Tryz.func122.trans (congrArg some (by kernel_rfl))
 f265:=Tryz.func134.trans (congrArg some (by kernel_rfl))
 t3:=Tryz.underlying3
 a3:=Tryz.isAgg3
 z3:=Tryz.sizeOf3
 v3:=Tryz.zeroValue3
 t9:=Tryz.underlying9
 a9:=Tryz.isAgg9
 z9:=Tryz.sizeOf9
 v9:=Tryz.zeroValue9 }
open Go.RowKit in theorem Tryz.strings_Compare (a b:ByteArray) (w:World) :
  Calls Tryz.prog 107 #[.string a,.string b] w fun e w'=>e=.returned (.int .i64 (Lib.compareBytes a.data.toList b.data.toList))∧w'=w:=Any.strings_Compare Tryz.lays106 a b w
def Tryz.lays217_ren:Go.Shelf.Ren:=⟨fun|217=>90|266=>114|n=>n,fun|9=>9|5=>5|3=>3|n=>n,fun|n=>n⟩
theorem Tryz.lays217:Go.Proofs.Lays.n217 Tryz.prog Tryz.lays217_ren:={
 mixed:=by kernel_rfl
 f217:=Tryz.func90.trans (congrArg some (by kernel_rfl))
 f266:=Tryz.func114.trans (congrArg some (by kernel_rfl))
 t3:=Tryz.underlying3
 a3:=Tryz.isAgg3
 z3:=Tryz.sizeOf3
 v3:=Tryz.zeroValue3
 t5:=Tryz.underlying5
 a5:=Tryz.isAgg5
 z5:=Tryz.sizeOf5
 v5:=Tryz.zeroValue5
 t9:=Tryz.underlying9
 a9:=Tryz.isAgg9
 z9:=Tryz.sizeOf9
 v9:=Tryz.zeroValue9 }
open Go.RowKit Go.Lib in theorem Tryz.stringslite_IndexByte (s:ByteArray) (c:Int) (w:World) :
  Calls Tryz.prog 90 #[.string s,.int .u8 c] w fun e w'=>e=.returned (.int .i64 (Lib.indexByte s.data.toList c.toNat.toUInt8))∧w'=w:=Any.stringslite_IndexByte Tryz.lays217 s c w
def Tryz.lays138_ren:Go.Shelf.Ren:=⟨fun|138=>108|195=>123|218=>124|143=>125|219=>74|217=>90|225=>91|224=>92|267=>93|266=>114|314=>115|n=>n,fun|9=>9|3=>3|4=>4|5=>5|0=>0|46=>103|146=>148|51=>134|n=>n,fun|1=>0|n=>n⟩
theorem Tryz.lays138:Go.Proofs.Lays.n138 Tryz.prog Tryz.lays138_ren:={
 mixed:=by kernel_rfl
 f138:=Tryz.func108.trans (congrArg some (by kernel_rfl))
 f143:=Tryz.func125.trans (congrArg some (by kernel_rfl))
 f195:=Tryz.func123.trans (congrArg some (by kernel_rfl))
 f217:=Tryz.func90.trans (congrArg some (by kernel_rfl))
 f218:=Tryz.func124.trans (congrArg some (by kernel_rfl))
 f219:=Tryz.func74.trans (congrArg some (by kernel_rfl))
 f224:=Tryz.func92.trans (congrArg some (by kernel_rfl))
 f225:=Tryz.func91.trans (congrArg some (by kernel_rfl))
 f266:=Tryz.func114.trans (congrArg some (by kernel_rfl))
 f267:=Tryz.func93.trans (congrArg some (by kernel_rfl))
 f314:=Tryz.func115.trans (congrArg some (by kernel_rfl))
 t0:=Tryz.underlying0
 a0:=Tryz.isAgg0
 z0:=Tryz.sizeOf0
 v0:=Tryz.zeroValue0
 t3:=Tryz.underlying3
 a3:=Tryz.isAgg3
 z3:=Tryz.sizeOf3
 v3:=Tryz.zeroValue3
 t4:=Tryz.underlying4
 a4:=Tryz.isAgg4
 z4:=Tryz.sizeOf4
 v4:=Tryz.zeroValue4
 t5:=Tryz.underlying5
 a5:=Tryz.isAgg5
 z5:=Tryz.sizeOf5
 v5:=Tryz.zeroValue5
 t9:=Tryz.underlying9
 a9:=Tryz.isAgg9
 z9:=Tryz.sizeOf9
 v9:=Tryz.zeroValue9
 t46:=Tryz.underlying103
 a46:=Tryz.isAgg103
 z46:=Tryz.sizeOf103
 v46:=Tryz.zeroValue103
 t51:=Tryz.underlying134
 a51:=Tryz.isAgg134
 z51:=Tryz.sizeOf134
 v51:=Tryz.zeroValue134
 t146:=Tryz.underlying148
 a146:=Tryz.isAgg148
 z146:=Tryz.sizeOf148
 v146:=Tryz.zeroValue148
 g1:=by kernel_rfl }
open Go.RowKit Go.Lib in theorem Tryz.strings_Count_one (s:ByteArray) (c:UInt8) (w:World) :
  Calls Tryz.prog 108 #[.string s,.string ⟨#[c]⟩] w fun e w'=>e=.returned (.int .i64 (Lib.countByte s.data.toList c))∧w'=w:=Any.strings_Count_one Tryz.lays138 s c w
end Go.Proofs.YtdfjeokjmigkaaaGreat
end
section
namespace Go.Proofs.YtdfjeokjmigkaaaGreat
open Go.Shelf
def Tryz.lays156_ren:Go.Shelf.Ren:=⟨fun|156=>68|165=>85|166=>86|169=>87|240=>111|241=>112|276=>130|277=>131|n=>n,fun|31=>59|9=>9|3=>3|4=>4|0=>0|20=>20|72=>117|76=>120|70=>115|37=>106|75=>119|127=>146|164=>165|5=>5|80=>122|n=>n,fun|n=>n⟩
theorem Tryz.lays156:Go.Proofs.Lays.n156 Tryz.prog Tryz.lays156_ren:={
 mixed:=by kernel_rfl
 f156:=Tryz.func68.trans (congrArg some (by kernel_rfl))
 f165:=Tryz.func85.trans (congrArg some (by kernel_rfl))
 f166:=Tryz.func86.trans (congrArg some (by kernel_rfl))
 f169:=Tryz.func87.trans (congrArg some (by kernel_rfl))
 f240:=Tryz.func111.trans (congrArg some (by kernel_rfl))
 f241:=Tryz.func112.trans (congrArg some (by kernel_rfl))
 f276:=Tryz.func130.trans (congrArg some (by kernel_rfl))
 f277:=Tryz.func131.trans (congrArg some (by kernel_rfl))
 t0:=Tryz.underlying0
 a0:=Tryz.isAgg0
 z0:=Tryz.sizeOf0
 v0:=Tryz.zeroValue0
 t3:=Tryz.underlying3
 a3:=Tryz.isAgg3
 z3:=Tryz.sizeOf3
 v3:=Tryz.zeroValue3
 t4:=Tryz.underlying4
 a4:=Tryz.isAgg4
 z4:=Tryz.sizeOf4
 v4:=Tryz.zeroValue4
 t9:=Tryz.underlying9
 a9:=Tryz.isAgg9
 z9:=Tryz.sizeOf9
 v9:=Tryz.zeroValue9
 t20:=Tryz.underlying20
 a20:=Tryz.isAgg20
 z20:=Tryz.sizeOf20
 v20:=Tryz.zeroValue20
 t31:=Tryz.underlying59
 a31:=Tryz.isAgg59
 z31:=Tryz.sizeOf59
 v31:=Tryz.zeroValue59
 t37:=Tryz.underlying106
 a37:=Tryz.isAgg106
 z37:=Tryz.sizeOf106
 v37:=Tryz.zeroValue106
 t70:=Tryz.underlying115
 a70:=Tryz.isAgg115
 z70:=Tryz.sizeOf115
 v70:=Tryz.zeroValue115
 t72:=Tryz.underlying117
 a72:=Tryz.isAgg117
 z72:=Tryz.sizeOf117
 v72:=Tryz.zeroValue117
 t75:=Tryz.underlying119
 a75:=Tryz.isAgg119
 z75:=Tryz.sizeOf119
 v75:=Tryz.zeroValue119
 t76:=Tryz.underlying120
 a76:=Tryz.isAgg120
 z76:=Tryz.sizeOf120
 v76:=Tryz.zeroValue120
 t127:=Tryz.underlying146
 a127:=Tryz.isAgg146
 z127:=Tryz.sizeOf146
 v127:=Tryz.zeroValue146
 t164:=Tryz.underlying165
 a164:=Tryz.isAgg165
 z164:=Tryz.sizeOf165
 v164:=Tryz.zeroValue165 }
theorem Tryz.Builder_Extra_156:Builder.Extra Tryz.prog Tryz.lays156_ren:={
 sizeBuilder:=by kernel_rfl
 liesBuilder:=by kernel_rfl
 t5:=Tryz.underlying5
 a5:=Tryz.isAgg5
 z5:=Tryz.sizeOf5
 v5:=Tryz.zeroValue5
 infoByte:=by kernel_rfl
 cellsByte:=by kernel_rfl
 sizeByte:=by kernel_rfl
 neB5:=by decide }
open Go.RowKit in theorem Tryz.strings_Join_none (a:Option Addr) (c:Nat) (sep:ByteArray) (w:World) :
  Calls Tryz.prog 68 #[.slice a 0 c,.string sep] w fun e w'=>e=.returned (.string ⟨#[]⟩)∧w'=w:=Any.strings_Join_none Tryz.lays156 Tryz.Builder_Extra_156 a c sep w
open Go.RowKit in theorem Tryz.strings_Join (bk o c:Nat) (xs:List ByteArray) (sep:ByteArray) (w:World) (eW:∀ (j:Nat) x,xs[j]?=some x→w.cell? ⟨bk,o + j,none⟩=some (.string x)) (hbk:bk < w.heap.size) (hN:xs.length≤140737488355328) (hcap:xs.length≤c) (hlen:(Lib.join (xs.map (·.data.toList)) sep.data.toList).length≤140737488355328) :
  Calls Tryz.prog 68 #[.slice (some ⟨bk,o,none⟩) xs.length c,.string sep] w fun e w'=>e=.returned (.string ⟨(Lib.join (xs.map (·.data.toList)) sep.data.toList).toArray⟩)∧Below w.heap.size w w':=Any.strings_Join Tryz.lays156 Tryz.Builder_Extra_156 bk o c xs sep w eW hbk hN hcap hlen
def Tryz.lays137_ren:Go.Shelf.Ren:=⟨fun|137=>81|217=>90|266=>114|n=>n,fun|9=>9|5=>5|3=>3|n=>n,fun|n=>n⟩
theorem Tryz.lays137:Go.Proofs.Lays.n137 Tryz.prog Tryz.lays137_ren:={
 mixed:=by kernel_rfl
 f137:=Tryz.func81.trans (congrArg some (by kernel_rfl))
 f217:=Tryz.func90.trans (congrArg some (by kernel_rfl))
 f266:=Tryz.func114.trans (congrArg some (by kernel_rfl))
 t3:=Tryz.underlying3
 a3:=Tryz.isAgg3
 z3:=Tryz.sizeOf3
 v3:=Tryz.zeroValue3
 t5:=Tryz.underlying5
 a5:=Tryz.isAgg5
 z5:=Tryz.sizeOf5
 v5:=Tryz.zeroValue5
 t9:=Tryz.underlying9
 a9:=Tryz.isAgg9
 z9:=Tryz.sizeOf9
 v9:=Tryz.zeroValue9 }
open Go.RowKit in theorem Tryz.strings_IndexByte (s:ByteArray) (c:Int) (w:World) :
  Calls Tryz.prog 81 #[.string s,.int .u8 c] w fun e w'=>e=.returned (.int .i64 (Lib.indexByte s.data.toList c.toNat.toUInt8))∧w'=w:=Any.strings_IndexByte Tryz.lays137 s c w
def Tryz.lays100_ren:Go.Shelf.Ren:=⟨fun|100=>69|207=>88|n=>n,fun|9=>9|4=>4|3=>3|n=>n,fun|n=>n⟩
theorem Tryz.lays100:Go.Proofs.Lays.n100 Tryz.prog Tryz.lays100_ren:={
 mixed:=by kernel_rfl
 f100:=Tryz.func69.trans (congrArg some (by kernel_rfl))
 f207:=Tryz.func88.trans (congrArg some (by kernel_rfl))
 t3:=Tryz.underlying3
 a3:=Tryz.isAgg3
 z3:=Tryz.sizeOf3
 v3:=Tryz.zeroValue3
 t4:=Tryz.underlying4
 a4:=Tryz.isAgg4
 z4:=Tryz.sizeOf4
 v4:=Tryz.zeroValue4
 t9:=Tryz.underlying9
 a9:=Tryz.isAgg9
 z9:=Tryz.sizeOf9
 v9:=Tryz.zeroValue9 }
open Go.RowKit Go.Lib in theorem Tryz.strings_HasSuffix (s p:ByteArray) (w:World) (hs:s.size≤9223372036854775807) :
  Calls Tryz.prog 69 #[.string s,.string p] w fun e w'=>e=.returned (.bool (Lib.hasSuffix s.data.toList p.data.toList))∧w'=w:=Any.strings_HasSuffix Tryz.lays100 s p w hs
def Tryz.laysNm216_ren:Go.Shelf.Ren:=⟨fun|16=>84|n=>n,fun|24=>59|9=>9|4=>4|n=>n,fun|n=>n⟩
theorem Tryz.laysNm216:Go.Proofs.Lays2.n16 Tryz.prog Tryz.laysNm216_ren:={
 mixed:=by kernel_rfl
 f16:=Tryz.func84.trans (congrArg some (by kernel_rfl))
 t4:=Tryz.underlying4
 a4:=Tryz.isAgg4
 z4:=Tryz.sizeOf4
 v4:=Tryz.zeroValue4
 t9:=Tryz.underlying9
 a9:=Tryz.isAgg9
 z9:=Tryz.sizeOf9
 v9:=Tryz.zeroValue9
 t24:=Tryz.underlying59
 a24:=Tryz.isAgg59
 z24:=Tryz.sizeOf59
 v24:=Tryz.zeroValue59
 i9:=by kernel_rfl }
open Go.RowKit Go.Lib in theorem Tryz.slices_Clone_string (b off n c:Nat) (zs:List ByteArray) (w:World) (hz:n≤zs.length) (hbig:n * 16≤140737488355328) (hc:∀ j,j < zs.length→w.cell? ⟨b,off + j,none⟩=some (.string (zs.getD j ByteArray.empty))) :
  Calls Tryz.prog 84 #[.slice (some ⟨b,off,none⟩) n c] w fun e w'=>∃ v',e=.returned v'∧w'.ownsRow w.heap.size 9 1 v' n ((zs.take n).map (Value.string))∧v'≠.slice none 0 0∧Below w.heap.size w w':=Any.slices_Clone_string Tryz.laysNm216 b off n c zs w hz hbig hc
open Go.RowKit Go.Lib in theorem Tryz.slices_Clone_string_nil (n c:Nat) (w:World) :
  Calls Tryz.prog 84 #[.slice none n c] w fun e w'=>e=.returned (.slice none 0 0)∧w'=w:=Any.slices_Clone_string_nil Tryz.laysNm216 n c w
open Go.RowKit Go.Lib in theorem Tryz.slices_Clone_string_zero (a:Addr) (c:Nat) (w:World) :
  Calls Tryz.prog 84 #[.slice (some a) 0 c] w fun e w'=>∃ v',e=.returned v'∧w'.ownsRow w.heap.size 9 1 v' 0 []∧v'≠.slice none 0 0∧Below w.heap.size w w':=Any.slices_Clone_string_zero Tryz.laysNm216 a c w
end Go.Proofs.YtdfjeokjmigkaaaGreat
end
section
set_option maxRecDepth 20000
namespace Go.Tr
open Go Go.Eng Go.RowKit
def qNx (e:Ent):List FV:=[.v (.string e.1),.v (.int .i64 e.2.1),.v (.string e.2.2)]
def aQ (t:List Ent):List (List FV):=t.map qNx
abbrev fE (n:Int × ByteArray):HV:=.agg [.v (.int .i64 n.1),.v (.string n.2)]
abbrev zTy (e:Ent):HV:=.agg [.v (.string e.1),.v (.int .i64 e.2.1),.v (.string e.2.2)]
theorem yV (t:List Ent):(aQ t).length=t.length:=by simp [aQ]
theorem yU (t:List Ent):Wid 3 (aQ t)=True:=eq_true (vK t fun _=>rfl)
theorem yW {t:List Ent} {i:Nat} {d:List FV} (h:i < t.length):(aQ t).getD i d=[.v (.string t[i].1),.v (.int .i64 t[i].2.1),.v (.string t[i].2.2)]:=by unfold aQ;rw [jT h];rfl
theorem yT (t:List Ent):oJ (aQ t)=aQ t:=by
 unfold oJ aQ;rw [List.map_map];apply List.map_congr_left;intro s _;simp [qNx,FV.old]
theorem qBo (t:List Ent):∀ x ∈ aQ t,∀ f ∈ x,FreshF f:=fun x hx f hf=>by
 obtain ⟨s,-,rfl⟩:=List.mem_map.1 hx;simp [qNx] at hf;rcases hf with rfl|rfl|rfl <;> exact .v _
theorem qAs (t:List Ent) (p:ByteArray) (k:Int) (d:ByteArray):aQ t ++ [[.v (.string p),.v (.int .i64 k),.v (.string d)]]=aQ (t ++ [(p,k,d)]):=by simp [aQ,qNx]
theorem qMp (s t:List Ent):aQ s ++ aQ t=aQ (s ++ t):=by simp [aQ]
theorem qHx (t:List Ent) (n:Nat):(aQ t).take n=aQ (t.take n):=by simp [aQ,List.map_take]
theorem qDz (t:List Ent) (n:Nat):(aQ t).drop n=aQ (t.drop n):=by simp [aQ,List.map_drop]
theorem aR {st:aD} (n:Int × ByteArray):Lend st (fE n) (fE n):=.agg rfl fun j h1 h2=>by
 match j,h1 with
|0,_=>exact .v _
|1,_=>exact .v _
theorem qL0 {st:aD} (e:Ent):Lend st (zTy e) (zTy e):=.agg rfl fun j h1 h2=>by
 match j,h1 with
|0,_=>exact .v _
|1,_=>exact .v _
|2,_=>exact .v _
theorem qDw {S:HS} {n:Int × ByteArray} {Q:HV→aD→Prop} (q:Q (fE n) []):qG3 S (fE n) Q :=
 ⟨[],by simp,rfl,.agg fun x hx=>by simp at hx;rcases hx with rfl|rfl <;> exact .v _,fun id h=>by simp at h,by rw [HV.ren];simp only [List.map_cons,List.map_nil,HV.ren];exact q⟩
end Go.Tr
namespace Go.Proofs.YtdfjeokjmigkaaaGreat
open Go Go.Eng Go.RowKit Go.Tr
theorem zGg (a b:ByteArray):HFun Tryz.prog 107 [.v (.string a),.v (.string b)] (fun h st=>h=.v (.int .i64 (zGu a b))):=by
 refine (qAl fun w vs R=>?_).mono fun h st q=>q.1
 obtain ⟨r1,r2⟩:=R
 match vs,r1 with
|[x,y],_ =>
 have ha:=bK (r2 0 (by simp) (by simp))
 have hb:=bK (r2 1 (by simp) (by simp))
 simp only [List.getElem_cons_zero,List.getElem_cons_succ] at ha hb;subst ha;subst hb;refine (Tryz.strings_Compare a b w).mono ?_;rintro e w' ⟨rfl,rfl⟩;exact rE ⟨rfl,Below.refl _ _⟩
set_option maxHeartbeats 1000000 in
theorem qMx (e:Ent) (p:ByteArray):HFun Tryz.prog 106 [zTy e,.v (.string p)] (fun h st=>h=.v (.int .i64 (zGu e.1 p))):=by
 obtain ⟨q,k,d⟩:=e;refine eF (N:=9) Tryz.func106 rfl Tryz.ntmps106 Tryz.results106 (by simp) ?_
 refine zE ?_;refine zJ (fun K hK=>?_);simp (disch:=omega) only [push_cast,↓Int.cast_ofNat_Int,simprocAttr];refine hK _ ?_
 refine zE ?_;refine zJ (fun K hK=>?_);simp (disch:=omega) only [push_cast,↓Int.cast_ofNat_Int,simprocAttr]
 refine aW zWc (zGg q p) (.cons (.v _) (.cons (.v _) .nil)) ?_;with_reducible refine aB ?_;simp (disch:=omega) only [push_cast,↓Int.cast_ofNat_Int,simprocAttr]
 refine hK _ ?_;refine zA ?_;refine zW ?_;simp only [yA,yM,yH,yE,aA,aC,yK,yJ,zS,zM,Nat.reduceEqDiff,reduceIte,reduceCtorEq];exact aL rfl
end Go.Proofs.YtdfjeokjmigkaaaGreat
end
section
namespace Go.Proofs.YtdfjeokjmigkaaaGreat
open Go Go.Eng Go.RowKit Go.ChangeShapes Go.WideShapes Go.ChangeAt Go.Tr
def fwN (n:Int × ByteArray):Nat:=fw (.v (.int .i64 n.1)) + fw (.v (.string n.2))
theorem qHk {H:Type} {enc:TypeId × Value→H} {P:Program} {w W:World} {n0 n base:Nat} {R:Reach} {BK:DataW H→Nat} (hB:Bulk BK) {t:TypeId} {fs:Array Field} {v:Value} {d:DataW H} {p:List MemPlace}
  (hs:qFk P n t=some [.int .i64,.str]) (hu:P.underlying t=some (.struct fs)) (hv:Value.okWide P W R base t v) (h:DataW.Trod enc P w 0 (fun _=>true) true t v d p) (hw:∀ m ∈ d.weights P t,m≤reachBytes) :
  ∃ a:Int × ByteArray,RepH w (fun _=>False) n0 (fun _=>undef) v (fE a)∧fwN a≤BK d:=by
 unfold Value.okWide at hv;rw [hu] at hv;obtain ⟨cs,rfl,-,-⟩:=hv;obtain ⟨fuel,hf⟩:=h;obtain ⟨gs,h3,h4⟩:=xD (n0:=n0) hB n t _ fuel _ _ hs hf hw
 have e:(Value.agg cs).cells.toList=cs.toList:=rfl
 rw [e] at h3;obtain ⟨l⟩:=cs;dsimp only at h3
 cases h3 with
|cons a b c r =>
  cases r with
 |cons a2 b2 c2 r2 =>
   cases r2
   cases c
   cases c2
   cases a
   cases a2
   rename_i k _ s _;refine ⟨(k,s),RepH.agg (cs:=⟨[.int .i64 k,.string s]⟩) (hs:=[.v (.int .i64 k),.v (.string s)]) rfl (fun j hj=>?_) (fun j h1 h2=>?_),?_⟩
   ·match j,hj with
   |0,_=>rfl
   |1,_=>rfl
   ·match j,h1 with
   |0,_=>exact .v _
   |1,_=>exact .v _
   ·simpa [fws,fwN] using h4
theorem qMj {b:Nat} {f:FV} (h:Fit (.sl b [.str,.int .i64,.str]) f):∃ t:List Ent,f=.lst false (aQ t)∧True:=by
 cases h with
|sl hb hl h =>
  rename_i xs
  have:∀ x ∈ xs,∃ e:Ent,x=qNx e:=fun x hx=>by
   have h1:=hl x hx
   match x,h1 with
  |[f0,f1,f2],_ =>
   have a:=h _ hx 0 (by simp) (by simp)
   have b:=h _ hx 1 (by simp) (by simp)
   have c:=h _ hx 2 (by simp) (by simp)
   simp only [List.getElem_cons_zero,List.getElem_cons_succ] at a b c
   cases a;cases b;cases c
   exact ⟨(_,_,_),rfl⟩
  clear hb hl h
  induction xs with
 |nil=>exact ⟨[],rfl,trivial⟩
 |cons x r ih =>
   obtain ⟨e,rfl⟩:=this x (by simp)
   obtain ⟨t,ht,-⟩:=ih (fun y hy=>this y (by simp [hy]))
   simp only [FV.lst.injEq,true_and] at ht;exact ⟨e :: t,by rw [ht];rfl,trivial⟩
theorem qR9 (t:List Ent):t.length≤fw (.lst false (aQ t))∧∀ e ∈ t,e.1.size≤fw (.lst false (aQ t))∧e.2.2.size≤fw (.lst false (aQ t)):=by
 rw [zLp]
 have:∀ t:List Ent,t.length≤((aQ t).map fws).sum∧∀ e ∈ t,e.1.size≤((aQ t).map fws).sum∧e.2.2.size≤((aQ t).map fws).sum:=by
  intro t
  induction t with
 |nil=>exact ⟨Nat.le_refl _,by simp⟩
 |cons x r ih =>
   have e1:((aQ (x :: r)).map fws).sum=fws (qNx x) + ((aQ r).map fws).sum:=by simp [aQ]
   have e2:x.1.size + 1 + x.2.2.size≤fws (qNx x):=by simp [fws,qNx,zS9];omega
   rw [e1];refine ⟨by simp only [List.length_cons];omega,fun e he=>?_⟩
   rcases List.mem_cons.1 he with rfl|he
   ·exact ⟨by omega,by omega⟩
   ·have:=ih.2 e he;exact ⟨by omega,by omega⟩
 obtain ⟨h1,h2⟩:=this t;exact ⟨by omega,fun e he=>by have:=h2 e he;exact ⟨by omega,by omega⟩⟩
end Go.Proofs.YtdfjeokjmigkaaaGreat
end
section
namespace Go.Eng
open Go Go.RowKit
section
variable {P:Program} {N:Nat} {ops:List Oper} {n:Nat} {l:Env} {vs:Nat→Value}
end
section
variable {P:Program} {N:Nat} {Q:qEk} {l:Env} {w:World}
end
end Go.Eng
end
section
namespace Go.Eng
open Go Go.RowKit
def inl (ids:List Nat) (i:Nat):Bool:=match ids with
|[]=>false
|k :: r=>k == i || inl r i
abbrev Aps:=List (Nat × Nat × List Nat)
def bad (W:Aps) (i:Nat):List Nat:=match W with
|[]=>[]
|(a,id,D) :: r=>bif a == i || inl D i then bad r i else id :: bad r i
def wat (W:Aps) (i:Nat):Option Nat:=match W with
|[]=>none
|(a,id,_) :: r=>bif a == i then some id else wat r i
def pL (W:Aps) (L:Nat→Bool) (id:Nat):Bool:=match W with
|[]=>false
|(a,i,_) :: r=>(L a && i == id) || pL r L id
end Go.Eng
end
