/-
  DERIVED: THE SHELF's CONTRACTS AT THIS DUMP, IN PLAIN WORDS (tools/lay-plain.mjs out of 'YtmgilahhnbopmaaShelf.lean', which tools/lay-shelf.mjs wrote): THE SAME DECLARATIONS UNDER THE SAME NAMES: 'import', 'namespace', 'open', 'def', 'theorem' AND NOTHING ELSE: no command of the shelf's: FOR A HAND-IN. Each laying: the table of numbers ('.._ren') and one theorem, a field a fact of the dump's own or the kernel's comparison; each contract: ONE APPLICATION.
-/
import Derived.Shelf.Strings.Builder1
import Derived.Shelf.Strings.Builder2
import Derived.Shelf.Strings.OnBuilder
import Derived.Shelf.Small.Strs
import Derived.Shelf.Utf8.RuneCount
import Derived.Shelf.Strings.Search1
import Derived.Shelf.Strings.Search2
import Derived.Shelf.Strings.Search3
import Derived.Shelf.Strings.Count
import Derived.Shelf.LaysM
import Derived.Shelf.Strings.Shaped
import Derived.Shelf.Strings.Prefix
import Derived.Shelf.Bits.Mul64
import Derived.Ground.Names2Prog
import Derived.Shelf.Slices.Clone
import Derived.Ground.SlgnProg
import Derived.Shelf.SlicesE.Clone
import Derived.Test.YtmgilahhnbopmaaProg
namespace Go.Proofs.Ytmgilahhnbopmaa
open Go.Shelf
def Try.lays156_ren:Go.Shelf.Ren:=⟨fun|156=>33|165=>44|166=>45|169=>46|240=>49|241=>50|276=>54|277=>55|n=>n,fun|31=>31|9=>9|3=>3|4=>4|0=>0|20=>20|72=>94|76=>97|70=>92|37=>53|75=>96|127=>100|164=>102|5=>5|80=>99|n=>n,fun|n=>n⟩
theorem Try.lays156:Go.Proofs.Lays.n156 Try.prog Try.lays156_ren:={
 mixed:=by kernel_rfl
 f156:=Try.func33.trans (congrArg some (by kernel_rfl))
 f165:=Try.func44.trans (congrArg some (by kernel_rfl))
 f166:=Try.func45.trans (congrArg some (by kernel_rfl))
 f169:=Try.func46.trans (congrArg some (by kernel_rfl))
 f240:=Try.func49.trans (congrArg some (by kernel_rfl))
 f241:=Try.func50.trans (congrArg some (by kernel_rfl))
 f276:=Try.func54.trans (congrArg some (by kernel_rfl))
 f277:=Try.func55.trans (congrArg some (by kernel_rfl))
 t0:=Try.underlying0
 a0:=Try.isAgg0
 z0:=Try.sizeOf0
 v0:=Try.zeroValue0
 t3:=Try.underlying3
 a3:=Try.isAgg3
 z3:=Try.sizeOf3
 v3:=Try.zeroValue3
 t4:=Try.underlying4
 a4:=Try.isAgg4
 z4:=Try.sizeOf4
 v4:=Try.zeroValue4
 t9:=Try.underlying9
 a9:=Try.isAgg9
 z9:=Try.sizeOf9
 v9:=Try.zeroValue9
 t20:=Try.underlying20
 a20:=Try.isAgg20
 z20:=Try.sizeOf20
 v20:=Try.zeroValue20
 t31:=Try.underlying31
 a31:=Try.isAgg31
 z31:=Try.sizeOf31
 v31:=Try.zeroValue31
 t37:=Try.underlying53
 a37:=Try.isAgg53
 z37:=Try.sizeOf53
 v37:=Try.zeroValue53
 t70:=Try.underlying92
 a70:=Try.isAgg92
 z70:=Try.sizeOf92
 v70:=Try.zeroValue92
 t72:=Try.underlying94
 a72:=Try.isAgg94
 z72:=Try.sizeOf94
 v72:=Try.zeroValue94
 t75:=Try.underlying96
 a75:=Try.isAgg96
 z75:=Try.sizeOf96
 v75:=Try.zeroValue96
 t76:=Try.underlying97
 a76:=Try.isAgg97
 z76:=Try.sizeOf97
 v76:=Try.zeroValue97
 t127:=Try.underlying100
 a127:=Try.isAgg100
 z127:=Try.sizeOf100
 v127:=Try.zeroValue100
 t164:=Try.underlying102
 a164:=Try.isAgg102
 z164:=Try.sizeOf102
 v164:=Try.zeroValue102 }
theorem Try.Builder_Extra_156:Builder.Extra Try.prog Try.lays156_ren:={
 sizeBuilder:=by kernel_rfl
 liesBuilder:=by kernel_rfl
 t5:=Try.underlying5
 a5:=Try.isAgg5
 z5:=Try.sizeOf5
 v5:=Try.zeroValue5
 infoByte:=by kernel_rfl
 cellsByte:=by kernel_rfl
 sizeByte:=by kernel_rfl
 neB5:=by decide }
open Go.RowKit in theorem Try.strings_Join_none (a:Option Addr) (c:Nat) (sep:ByteArray) (w:World) :
  Calls Try.prog 33 #[.slice a 0 c,.string sep] w fun e w'=>e=.returned (.string ⟨#[]⟩)∧w'=w:=Any.strings_Join_none Try.lays156 Try.Builder_Extra_156 a c sep w
open Go.RowKit in theorem Try.strings_Join (bk o c:Nat) (xs:List ByteArray) (sep:ByteArray) (w:World) (fB:∀ (j:Nat) x,xs[j]?=some x→w.cell? ⟨bk,o + j,none⟩=some (.string x)) (hbk:bk < w.heap.size) (hN:xs.length≤140737488355328) (hcap:xs.length≤c) (hlen:(Lib.join (xs.map (·.data.toList)) sep.data.toList).length≤140737488355328) :
  Calls Try.prog 33 #[.slice (some ⟨bk,o,none⟩) xs.length c,.string sep] w fun e w'=>e=.returned (.string ⟨(Lib.join (xs.map (·.data.toList)) sep.data.toList).toArray⟩)∧Below w.heap.size w w':=Any.strings_Join Try.lays156 Try.Builder_Extra_156 bk o c xs sep w fB hbk hN hcap hlen
def Try.lays137_ren:Go.Shelf.Ren:=⟨fun|137=>20|217=>29|266=>38|n=>n,fun|9=>9|5=>5|3=>3|n=>n,fun|n=>n⟩
theorem Try.lays137:Go.Proofs.Lays.n137 Try.prog Try.lays137_ren:={
 mixed:=by kernel_rfl
 f137:=Try.func20.trans (congrArg some (by kernel_rfl))
 f217:=Try.func29.trans (congrArg some (by kernel_rfl))
 f266:=Try.func38.trans (congrArg some (by kernel_rfl))
 t3:=Try.underlying3
 a3:=Try.isAgg3
 z3:=Try.sizeOf3
 v3:=Try.zeroValue3
 t5:=Try.underlying5
 a5:=Try.isAgg5
 z5:=Try.sizeOf5
 v5:=Try.zeroValue5
 t9:=Try.underlying9
 a9:=Try.isAgg9
 z9:=Try.sizeOf9
 v9:=Try.zeroValue9 }
open Go.RowKit in theorem Try.strings_IndexByte (s:ByteArray) (c:Int) (w:World) :
  Calls Try.prog 20 #[.string s,.int .u8 c] w fun e w'=>e=.returned (.int .i64 (Lib.indexByte s.data.toList c.toNat.toUInt8))∧w'=w:=Any.strings_IndexByte Try.lays137 s c w
def Try.lays138_ren:Go.Shelf.Ren:=⟨fun|138=>28|195=>35|218=>36|143=>37|219=>48|217=>29|225=>51|224=>52|267=>53|266=>38|314=>56|n=>n,fun|9=>9|3=>3|4=>4|5=>5|0=>0|46=>72|146=>85|51=>84|n=>n,fun|1=>0|n=>n⟩
theorem Try.lays138:Go.Proofs.Lays.n138 Try.prog Try.lays138_ren:={
 mixed:=by kernel_rfl
 f138:=Try.func28.trans (congrArg some (by kernel_rfl))
 f143:=Try.func37.trans (congrArg some (by kernel_rfl))
 f195:=Try.func35.trans (congrArg some (by kernel_rfl))
 f217:=Try.func29.trans (congrArg some (by kernel_rfl))
 f218:=Try.func36.trans (congrArg some (by kernel_rfl))
 f219:=Try.func48.trans (congrArg some (by kernel_rfl))
 f224:=Try.func52.trans (congrArg some (by kernel_rfl))
 f225:=Try.func51.trans (congrArg some (by kernel_rfl))
 f266:=Try.func38.trans (congrArg some (by kernel_rfl))
 f267:=Try.func53.trans (congrArg some (by kernel_rfl))
 f314:=Try.func56.trans (congrArg some (by kernel_rfl))
 t0:=Try.underlying0
 a0:=Try.isAgg0
 z0:=Try.sizeOf0
 v0:=Try.zeroValue0
 t3:=Try.underlying3
 a3:=Try.isAgg3
 z3:=Try.sizeOf3
 v3:=Try.zeroValue3
 t4:=Try.underlying4
 a4:=Try.isAgg4
 z4:=Try.sizeOf4
 v4:=Try.zeroValue4
 t5:=Try.underlying5
 a5:=Try.isAgg5
 z5:=Try.sizeOf5
 v5:=Try.zeroValue5
 t9:=Try.underlying9
 a9:=Try.isAgg9
 z9:=Try.sizeOf9
 v9:=Try.zeroValue9
 t46:=Try.underlying72
 a46:=Try.isAgg72
 z46:=Try.sizeOf72
 v46:=Try.zeroValue72
 t51:=Try.underlying84
 a51:=Try.isAgg84
 z51:=Try.sizeOf84
 v51:=Try.zeroValue84
 t146:=Try.underlying85
 a146:=Try.isAgg85
 z146:=Try.sizeOf85
 v146:=Try.zeroValue85
 g1:=by kernel_rfl }
open Go.RowKit Go.Lib in theorem Try.strings_Count_one (s:ByteArray) (c:UInt8) (w:World) :
  Calls Try.prog 28 #[.string s,.string ⟨#[c]⟩] w fun e w'=>e=.returned (.int .i64 (Lib.countByte s.data.toList c))∧w'=w:=Any.strings_Count_one Try.lays138 s c w
def Try.lays100_ren:Go.Shelf.Ren:=⟨fun|100=>34|207=>47|n=>n,fun|9=>9|4=>4|3=>3|n=>n,fun|n=>n⟩
theorem Try.lays100:Go.Proofs.Lays.n100 Try.prog Try.lays100_ren:={
 mixed:=by kernel_rfl
 f100:=Try.func34.trans (congrArg some (by kernel_rfl))
 f207:=Try.func47.trans (congrArg some (by kernel_rfl))
 t3:=Try.underlying3
 a3:=Try.isAgg3
 z3:=Try.sizeOf3
 v3:=Try.zeroValue3
 t4:=Try.underlying4
 a4:=Try.isAgg4
 z4:=Try.sizeOf4
 v4:=Try.zeroValue4
 t9:=Try.underlying9
 a9:=Try.isAgg9
 z9:=Try.sizeOf9
 v9:=Try.zeroValue9 }
open Go.RowKit Go.Lib in theorem Try.strings_HasSuffix (s p:ByteArray) (w:World) (hs:s.size≤9223372036854775807) :
  Calls Try.prog 34 #[.string s,.string p] w fun e w'=>e=.returned (.bool (Lib.hasSuffix s.data.toList p.data.toList))∧w'=w:=Any.strings_HasSuffix Try.lays100 s p w hs
def Try.laysNm216_ren:Go.Shelf.Ren:=⟨fun|16=>23|n=>n,fun|24=>31|9=>9|4=>4|n=>n,fun|n=>n⟩
theorem Try.laysNm216:Go.Proofs.Lays2.n16 Try.prog Try.laysNm216_ren:={
 mixed:=by kernel_rfl
 f16:=Try.func23.trans (congrArg some (by kernel_rfl))
 t4:=Try.underlying4
 a4:=Try.isAgg4
 z4:=Try.sizeOf4
 v4:=Try.zeroValue4
 t9:=Try.underlying9
 a9:=Try.isAgg9
 z9:=Try.sizeOf9
 v9:=Try.zeroValue9
 t24:=Try.underlying31
 a24:=Try.isAgg31
 z24:=Try.sizeOf31
 v24:=Try.zeroValue31
 i9:=by kernel_rfl }
open Go.RowKit Go.Lib in theorem Try.slices_Clone_string (b off n c:Nat) (zs:List ByteArray) (w:World) (hz:n≤zs.length) (hbig:n * 16≤140737488355328) (hc:∀ j,j < zs.length→w.cell? ⟨b,off + j,none⟩=some (.string (zs.getD j ByteArray.empty))) :
  Calls Try.prog 23 #[.slice (some ⟨b,off,none⟩) n c] w fun e w'=>∃ v',e=.returned v'∧w'.ownsRow w.heap.size 9 1 v' n ((zs.take n).map (Value.string))∧v'≠.slice none 0 0∧Below w.heap.size w w':=Any.slices_Clone_string Try.laysNm216 b off n c zs w hz hbig hc
open Go.RowKit Go.Lib in theorem Try.slices_Clone_string_nil (n c:Nat) (w:World) :
  Calls Try.prog 23 #[.slice none n c] w fun e w'=>e=.returned (.slice none 0 0)∧w'=w:=Any.slices_Clone_string_nil Try.laysNm216 n c w
open Go.RowKit Go.Lib in theorem Try.slices_Clone_string_zero (a:Addr) (c:Nat) (w:World) :
  Calls Try.prog 23 #[.slice (some a) 0 c] w fun e w'=>∃ v',e=.returned v'∧w'.ownsRow w.heap.size 9 1 v' 0 []∧v'≠.slice none 0 0∧Below w.heap.size w w':=Any.slices_Clone_string_zero Try.laysNm216 a c w
end Go.Proofs.Ytmgilahhnbopmaa
