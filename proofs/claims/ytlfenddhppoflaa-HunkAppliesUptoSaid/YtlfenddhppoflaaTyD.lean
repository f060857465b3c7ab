/-
  Facts of the types, the functions' names.
-/
import Derived.Test.YtlfenddhppoflaaGc
import Derived.Test.YtlfenddhppoflaaProg
namespace Go.Proofs.Ytlfenddhppoflaa
open Go Go.Eng
theorem mixed : Try.prog.follows .mixedOrders = true := by kernel_rfl
theorem bb4 : uBool Try.prog 4 = true := by kernel_rfl
theorem bd105 : buildable Try.prog 105 = true := by kernel_rfl
theorem bd109 : buildable Try.prog 109 = true := by kernel_rfl
theorem bd114 : buildable Try.prog 114 = true := by kernel_rfl
theorem bd29 : buildable Try.prog 29 = true := by kernel_rfl
theorem bd43 : buildable Try.prog 43 = true := by kernel_rfl
theorem bd53 : buildable Try.prog 53 = true := by kernel_rfl
theorem bd77 : buildable Try.prog 77 = true := by kernel_rfl
theorem bd87 : buildable Try.prog 87 = true := by kernel_rfl
theorem bd95 : buildable Try.prog 95 = true := by kernel_rfl
theorem bd99 : buildable Try.prog 99 = true := by kernel_rfl
theorem cb9_102 : convB Try.prog 9 102 = true := by kernel_rfl
theorem fo109_0 : fOff Try.prog 109 0 = some 0 := by kernel_rfl
theorem fo109_1 : fOff Try.prog 109 1 = some 1 := by kernel_rfl
theorem fo109_2 : fOff Try.prog 109 2 = some 2 := by kernel_rfl
theorem fo109_3 : fOff Try.prog 109 3 = some 3 := by kernel_rfl
theorem fo109_4 : fOff Try.prog 109 4 = some 4 := by kernel_rfl
theorem fo109_5 : fOff Try.prog 109 5 = some 5 := by kernel_rfl
theorem fo109_6 : fOff Try.prog 109 6 = some 6 := by kernel_rfl
theorem fo119_0 : fOff Try.prog 119 0 = some 0 := by kernel_rfl
theorem fo119_1 : fOff Try.prog 119 1 = some 1 := by kernel_rfl
theorem fo29_0 : fOff Try.prog 29 0 = some 0 := by kernel_rfl
theorem fo29_1 : fOff Try.prog 29 1 = some 1 := by kernel_rfl
theorem fo53_0 : fOff Try.prog 53 0 = some 0 := by kernel_rfl
theorem fo53_1 : fOff Try.prog 53 1 = some 1 := by kernel_rfl
theorem fo53_2 : fOff Try.prog 53 2 = some 2 := by kernel_rfl
theorem fo77_0 : fOff Try.prog 77 0 = some 0 := by kernel_rfl
theorem fo77_1 : fOff Try.prog 77 1 = some 1 := by kernel_rfl
theorem fo77_2 : fOff Try.prog 77 2 = some 2 := by kernel_rfl
theorem fo77_3 : fOff Try.prog 77 3 = some 3 := by kernel_rfl
theorem fo87_0 : fOff Try.prog 87 0 = some 0 := by kernel_rfl
theorem fo87_1 : fOff Try.prog 87 1 = some 1 := by kernel_rfl
theorem fo95_0 : fOff Try.prog 95 0 = some 0 := by kernel_rfl
theorem fo95_1 : fOff Try.prog 95 1 = some 1 := by kernel_rfl
theorem fo95_2 : fOff Try.prog 95 2 = some 2 := by kernel_rfl
theorem fo95_3 : fOff Try.prog 95 3 = some 3 := by kernel_rfl
theorem it129 : uInt Try.prog 129 = some .u64 := by kernel_rfl
theorem it136 : uInt Try.prog 136 = some .u32 := by kernel_rfl
theorem it139 : uInt Try.prog 139 = some .u64 := by kernel_rfl
theorem it3 : uInt Try.prog 3 = some .i64 := by kernel_rfl
theorem kt102 : kindT Try.prog 102 = some none := by kernel_rfl
theorem kt109 : kindT Try.prog 109 = some (some 7) := by kernel_rfl
theorem kt117 : kindT Try.prog 117 = some none := by kernel_rfl
theorem kt22 : kindT Try.prog 22 = some none := by kernel_rfl
theorem kt29 : kindT Try.prog 29 = some (some 2) := by kernel_rfl
theorem kt3 : kindT Try.prog 3 = some none := by kernel_rfl
theorem kt4 : kindT Try.prog 4 = some none := by kernel_rfl
theorem kt43 : kindT Try.prog 43 = some (some 2) := by kernel_rfl
theorem kt5 : kindT Try.prog 5 = some none := by kernel_rfl
theorem kt53 : kindT Try.prog 53 = some (some 3) := by kernel_rfl
theorem kt70 : kindT Try.prog 70 = some none := by kernel_rfl
theorem kt77 : kindT Try.prog 77 = some (some 4) := by kernel_rfl
theorem kt85 : kindT Try.prog 85 = some none := by kernel_rfl
theorem kt87 : kindT Try.prog 87 = some (some 2) := by kernel_rfl
theorem kt89 : kindT Try.prog 89 = some none := by kernel_rfl
theorem kt9 : kindT Try.prog 9 = some none := by kernel_rfl
theorem kt91 : kindT Try.prog 91 = some none := by kernel_rfl
theorem kt95 : kindT Try.prog 95 = some (some 4) := by kernel_rfl
theorem pp117 : uPtr Try.prog 117 = true := by kernel_rfl
theorem pt105_0 : partT Try.prog 105 0 = some (0, 1) := by kernel_rfl
theorem pt105_1 : partT Try.prog 105 1 = some (1, 1) := by kernel_rfl
theorem pt105_2 : partT Try.prog 105 2 = some (2, 1) := by kernel_rfl
theorem pt109_0 : partT Try.prog 109 0 = some (0, 1) := by kernel_rfl
theorem pt109_1 : partT Try.prog 109 1 = some (1, 1) := by kernel_rfl
theorem pt109_2 : partT Try.prog 109 2 = some (2, 1) := by kernel_rfl
theorem pt114_0 : partT Try.prog 114 0 = some (0, 1) := by kernel_rfl
theorem pt114_1 : partT Try.prog 114 1 = some (1, 1) := by kernel_rfl
theorem pt114_2 : partT Try.prog 114 2 = some (2, 1) := by kernel_rfl
theorem pt29_0 : partT Try.prog 29 0 = some (0, 1) := by kernel_rfl
theorem pt29_1 : partT Try.prog 29 1 = some (1, 1) := by kernel_rfl
theorem pt43_0 : partT Try.prog 43 0 = some (0, 1) := by kernel_rfl
theorem pt43_1 : partT Try.prog 43 1 = some (1, 1) := by kernel_rfl
theorem pt53_0 : partT Try.prog 53 0 = some (0, 1) := by kernel_rfl
theorem pt53_1 : partT Try.prog 53 1 = some (1, 1) := by kernel_rfl
theorem pt53_2 : partT Try.prog 53 2 = some (2, 1) := by kernel_rfl
theorem pt77_0 : partT Try.prog 77 0 = some (0, 1) := by kernel_rfl
theorem pt77_1 : partT Try.prog 77 1 = some (1, 1) := by kernel_rfl
theorem pt77_2 : partT Try.prog 77 2 = some (2, 1) := by kernel_rfl
theorem pt77_3 : partT Try.prog 77 3 = some (3, 1) := by kernel_rfl
theorem pt87_0 : partT Try.prog 87 0 = some (0, 1) := by kernel_rfl
theorem pt87_1 : partT Try.prog 87 1 = some (1, 1) := by kernel_rfl
theorem pt95_0 : partT Try.prog 95 0 = some (0, 1) := by kernel_rfl
theorem pt95_1 : partT Try.prog 95 1 = some (1, 1) := by kernel_rfl
theorem pt95_2 : partT Try.prog 95 2 = some (2, 1) := by kernel_rfl
theorem pt95_3 : partT Try.prog 95 3 = some (3, 1) := by kernel_rfl
theorem pt99_0 : partT Try.prog 99 0 = some (0, 1) := by kernel_rfl
theorem pt99_1 : partT Try.prog 99 1 = some (1, 1) := by kernel_rfl
theorem pt99_2 : partT Try.prog 99 2 = some (2, 1) := by kernel_rfl
theorem pt99_3 : partT Try.prog 99 3 = some (3, 1) := by kernel_rfl
theorem se102 : seOf Try.prog 102 = some (5, 1, 1, #[.int .u8 0]) := by kernel_rfl
theorem se112 : seOf Try.prog 112 = some (114, 3, 24, #[.int .i64 0, .int .i64 0, .int .i64 0]) := by kernel_rfl
theorem se115 : seOf Try.prog 115 = some (91, 1, 24, #[.slice none 0 0]) := by kernel_rfl
theorem se22 : seOf Try.prog 22 = some (9, 1, 16, #[.string ByteArray.empty]) := by kernel_rfl
theorem se23 : seOf Try.prog 23 = some (29, 2, 16, #[.int .i64 0, .int .i64 0]) := by kernel_rfl
theorem se36 : seOf Try.prog 36 = some (43, 2, 16, #[.int .i64 0, .int .i64 0]) := by kernel_rfl
theorem se45 : seOf Try.prog 45 = some (53, 3, 56, #[.int .i64 0, .slice none 0 0, .slice none 0 0]) := by kernel_rfl
theorem se51 : seOf Try.prog 51 = some (22, 1, 24, #[.slice none 0 0]) := by kernel_rfl
theorem se70 : seOf Try.prog 70 = some (77, 4, 80, #[.bool false, .slice none 0 0, .slice none 0 0, .slice none 0 0]) := by kernel_rfl
theorem se85 : seOf Try.prog 85 = some (89, 1, 2, #[.int .i16 0]) := by kernel_rfl
theorem se91 : seOf Try.prog 91 = some (3, 1, 8, #[.int .i64 0]) := by kernel_rfl
theorem se93 : seOf Try.prog 93 = some (95, 4, 32, #[.int .i64 0, .int .i64 0, .int .i64 0, .int .i64 0]) := by kernel_rfl
theorem se97 : seOf Try.prog 97 = some (99, 4, 32, #[.int .i64 0, .int .i64 0, .int .i64 0, .int .i64 0]) := by kernel_rfl
theorem sf102 : uStr Try.prog 102 = false := by kernel_rfl
theorem st9 : uStr Try.prog 9 = true := by kernel_rfl
theorem ua114 : uArr Try.prog 114 = some (3, 1) := by kernel_rfl
theorem ua43 : uArr Try.prog 43 = some (2, 1) := by kernel_rfl
theorem ua99 : uArr Try.prog 99 = some (4, 1) := by kernel_rfl
theorem ui117 : (Try.prog.underlying 117).isSome = true := by kernel_rfl
theorem ui129 : (Try.prog.underlying 129).isSome = true := by kernel_rfl
theorem ui133 : (Try.prog.underlying 133).isSome = true := by kernel_rfl
theorem ui136 : (Try.prog.underlying 136).isSome = true := by kernel_rfl
theorem ui139 : (Try.prog.underlying 139).isSome = true := by kernel_rfl
theorem ui3 : (Try.prog.underlying 3).isSome = true := by kernel_rfl
theorem ui5 : (Try.prog.underlying 5).isSome = true := by kernel_rfl
theorem ui9 : (Try.prog.underlying 9).isSome = true := by kernel_rfl
theorem us102 : uSlice Try.prog 102 = some (5, 1) := by kernel_rfl
theorem us112 : uSlice Try.prog 112 = some (114, 3) := by kernel_rfl
theorem us115 : uSlice Try.prog 115 = some (91, 1) := by kernel_rfl
theorem us22 : uSlice Try.prog 22 = some (9, 1) := by kernel_rfl
theorem us23 : uSlice Try.prog 23 = some (29, 2) := by kernel_rfl
theorem us36 : uSlice Try.prog 36 = some (43, 2) := by kernel_rfl
theorem us45 : uSlice Try.prog 45 = some (53, 3) := by kernel_rfl
theorem us51 : uSlice Try.prog 51 = some (22, 1) := by kernel_rfl
theorem us70 : uSlice Try.prog 70 = some (77, 4) := by kernel_rfl
theorem us85 : uSlice Try.prog 85 = some (89, 1) := by kernel_rfl
theorem us91 : uSlice Try.prog 91 = some (3, 1) := by kernel_rfl
theorem us93 : uSlice Try.prog 93 = some (95, 4) := by kernel_rfl
theorem us97 : uSlice Try.prog 97 = some (99, 4) := by kernel_rfl
theorem zt105 : zeroT Try.prog 105 = some #[.string ByteArray.empty, .string ByteArray.empty, .string ByteArray.empty] := by kernel_rfl
theorem zt109 : zeroT Try.prog 109 = some #[.slice none 0 0, .slice none 0 0, .slice none 0 0, .int .i64 0, .int .i64 0, .int .i64 0, .slice none 0 0] := by kernel_rfl
theorem zt114 : zeroT Try.prog 114 = some #[.int .i64 0, .int .i64 0, .int .i64 0] := by kernel_rfl
theorem zt119 : zeroT Try.prog 119 = some #[.pointer none, .slice none 0 0] := by kernel_rfl
theorem zt29 : zeroT Try.prog 29 = some #[.int .i64 0, .int .i64 0] := by kernel_rfl
theorem zt43 : zeroT Try.prog 43 = some #[.int .i64 0, .int .i64 0] := by kernel_rfl
theorem zt53 : zeroT Try.prog 53 = some #[.int .i64 0, .slice none 0 0, .slice none 0 0] := by kernel_rfl
theorem zt77 : zeroT Try.prog 77 = some #[.bool false, .slice none 0 0, .slice none 0 0, .slice none 0 0] := by kernel_rfl
theorem zt87 : zeroT Try.prog 87 = some #[.int .i64 0, .slice none 0 0] := by kernel_rfl
theorem zt95 : zeroT Try.prog 95 = some #[.int .i64 0, .int .i64 0, .int .i64 0, .int .i64 0] := by kernel_rfl
theorem zt99 : zeroT Try.prog 99 = some #[.int .i64 0, .int .i64 0, .int .i64 0, .int .i64 0] := by kernel_rfl
theorem cl3 : callable Try.prog 3 = true := by kernel_rfl
theorem cl4 : callable Try.prog 4 = true := by kernel_rfl
theorem cl5 : callable Try.prog 5 = true := by kernel_rfl
theorem cl6 : callable Try.prog 6 = true := by kernel_rfl
theorem cl7 : callable Try.prog 7 = true := by kernel_rfl
theorem cl8 : callable Try.prog 8 = true := by kernel_rfl
theorem cl9 : callable Try.prog 9 = true := by kernel_rfl
theorem cl10 : callable Try.prog 10 = true := by kernel_rfl
theorem cl11 : callable Try.prog 11 = true := by kernel_rfl
theorem cl12 : callable Try.prog 12 = true := by kernel_rfl
theorem cl13 : callable Try.prog 13 = true := by kernel_rfl
theorem cl14 : callable Try.prog 14 = true := by kernel_rfl
theorem cl15 : callable Try.prog 15 = true := by kernel_rfl
theorem cl16 : callable Try.prog 16 = true := by kernel_rfl
theorem cl17 : callable Try.prog 17 = true := by kernel_rfl
theorem cl18 : callable Try.prog 18 = true := by kernel_rfl
theorem cl19 : callable Try.prog 19 = true := by kernel_rfl
theorem cl20 : callable Try.prog 20 = true := by kernel_rfl
theorem cl21 : callable Try.prog 21 = true := by kernel_rfl
theorem cl22 : callable Try.prog 22 = true := by kernel_rfl
theorem cl23 : callable Try.prog 23 = true := by kernel_rfl
theorem cl24 : callable Try.prog 24 = true := by kernel_rfl
theorem cl25 : callable Try.prog 25 = true := by kernel_rfl
theorem cl26 : callable Try.prog 26 = true := by kernel_rfl
theorem cl27 : callable Try.prog 27 = true := by kernel_rfl
theorem cl28 : callable Try.prog 28 = true := by kernel_rfl
theorem cl29 : callable Try.prog 29 = true := by kernel_rfl
theorem cl30 : callable Try.prog 30 = true := by kernel_rfl
theorem cl31 : callable Try.prog 31 = true := by kernel_rfl
theorem cl32 : callable Try.prog 32 = true := by kernel_rfl
theorem cl33 : callable Try.prog 33 = true := by kernel_rfl
theorem cl34 : callable Try.prog 34 = true := by kernel_rfl
theorem cl35 : callable Try.prog 35 = true := by kernel_rfl
theorem cl36 : callable Try.prog 36 = true := by kernel_rfl
theorem cl37 : callable Try.prog 37 = true := by kernel_rfl
theorem cl38 : callable Try.prog 38 = true := by kernel_rfl
theorem cl39 : callable Try.prog 39 = true := by kernel_rfl
theorem cl40 : callable Try.prog 40 = true := by kernel_rfl
theorem cl41 : callable Try.prog 41 = true := by kernel_rfl
theorem cl42 : callable Try.prog 42 = true := by kernel_rfl
theorem cl43 : callable Try.prog 43 = true := by kernel_rfl
theorem cl44 : callable Try.prog 44 = true := by kernel_rfl
theorem cl45 : callable Try.prog 45 = true := by kernel_rfl
theorem cl46 : callable Try.prog 46 = true := by kernel_rfl
theorem cl47 : callable Try.prog 47 = true := by kernel_rfl
theorem cl48 : callable Try.prog 48 = true := by kernel_rfl
theorem cl49 : callable Try.prog 49 = true := by kernel_rfl
theorem cl50 : callable Try.prog 50 = true := by kernel_rfl
theorem cl51 : callable Try.prog 51 = true := by kernel_rfl
theorem cl52 : callable Try.prog 52 = true := by kernel_rfl
theorem cl53 : callable Try.prog 53 = true := by kernel_rfl
theorem cl54 : callable Try.prog 54 = true := by kernel_rfl
theorem cl55 : callable Try.prog 55 = true := by kernel_rfl
theorem cl56 : callable Try.prog 56 = true := by kernel_rfl
theorem cl57 : callable Try.prog 57 = true := by kernel_rfl
theorem cl58 : callable Try.prog 58 = true := by kernel_rfl
theorem cl59 : callable Try.prog 59 = true := by kernel_rfl
theorem cl60 : callable Try.prog 60 = true := by kernel_rfl
theorem cl61 : callable Try.prog 61 = true := by kernel_rfl
theorem cl62 : callable Try.prog 62 = true := by kernel_rfl
theorem cl63 : callable Try.prog 63 = true := by kernel_rfl
theorem cl64 : callable Try.prog 64 = true := by kernel_rfl
theorem cl65 : callable Try.prog 65 = true := by kernel_rfl
theorem cl66 : callable Try.prog 66 = true := by kernel_rfl
theorem cl67 : callable Try.prog 67 = true := by kernel_rfl
theorem cl68 : callable Try.prog 68 = true := by kernel_rfl
theorem cl69 : callable Try.prog 69 = true := by kernel_rfl
theorem cl70 : callable Try.prog 70 = true := by kernel_rfl
theorem cl71 : callable Try.prog 71 = true := by kernel_rfl
theorem cl72 : callable Try.prog 72 = true := by kernel_rfl
theorem cl73 : callable Try.prog 73 = true := by kernel_rfl
theorem cl74 : callable Try.prog 74 = true := by kernel_rfl
theorem cl76 : callable Try.prog 76 = true := by kernel_rfl
theorem cl77 : callable Try.prog 77 = true := by kernel_rfl
theorem cl78 : callable Try.prog 78 = true := by kernel_rfl
theorem cl79 : callable Try.prog 79 = true := by kernel_rfl
theorem cl80 : callable Try.prog 80 = true := by kernel_rfl
theorem cl81 : callable Try.prog 81 = true := by kernel_rfl
theorem cl83 : callable Try.prog 83 = true := by kernel_rfl
theorem cl84 : callable Try.prog 84 = true := by kernel_rfl
theorem cl85 : callable Try.prog 85 = true := by kernel_rfl
theorem cl86 : callable Try.prog 86 = true := by kernel_rfl
theorem cl88 : callable Try.prog 88 = true := by kernel_rfl
theorem cl89 : callable Try.prog 89 = true := by kernel_rfl
theorem cl92 : callable Try.prog 92 = true := by kernel_rfl
theorem cl93 : callable Try.prog 93 = true := by kernel_rfl
theorem cl94 : callable Try.prog 94 = true := by kernel_rfl
end Go.Proofs.Ytlfenddhppoflaa
