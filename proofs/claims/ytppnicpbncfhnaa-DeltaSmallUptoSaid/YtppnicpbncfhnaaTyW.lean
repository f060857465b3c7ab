/-
  Facts of the types, the functions' names.
-/
import Derived.Test.YtppnicpbncfhnaaGc
import Derived.Test.YtppnicpbncfhnaaProg
namespace Go.Proofs.Ytppnicpbncfhnaa
open Go Go.Eng
theorem mixed : Try.prog.follows .mixedOrders = true := by kernel_rfl
theorem bb4 : uBool Try.prog 4 = true := by kernel_rfl
theorem bd66 : buildable Try.prog 66 = true := by kernel_rfl
theorem bd82 : buildable Try.prog 82 = true := by kernel_rfl
theorem bd94 : buildable Try.prog 94 = true := by kernel_rfl
theorem cb9_88 : convB Try.prog 9 88 = true := by kernel_rfl
theorem fo100_0 : fOff Try.prog 100 0 = some 0 := by kernel_rfl
theorem fo100_1 : fOff Try.prog 100 1 = some 1 := by kernel_rfl
theorem fo66_0 : fOff Try.prog 66 0 = some 0 := by kernel_rfl
theorem fo66_1 : fOff Try.prog 66 1 = some 1 := by kernel_rfl
theorem fo66_2 : fOff Try.prog 66 2 = some 2 := by kernel_rfl
theorem fo66_3 : fOff Try.prog 66 3 = some 3 := by kernel_rfl
theorem fo66_4 : fOff Try.prog 66 4 = some 10 := by kernel_rfl
theorem fo82_0 : fOff Try.prog 82 0 = some 0 := by kernel_rfl
theorem fo82_1 : fOff Try.prog 82 1 = some 1 := by kernel_rfl
theorem it3 : uInt Try.prog 3 = some .i64 := by kernel_rfl
theorem it5 : uInt Try.prog 5 = some .u8 := by kernel_rfl
theorem it52 : uInt Try.prog 52 = some .u32 := by kernel_rfl
theorem it79 : uInt Try.prog 79 = some .u64 := by kernel_rfl
theorem kt3 : kindT Try.prog 3 = some none := by kernel_rfl
theorem kt49 : kindT Try.prog 49 = some none := by kernel_rfl
theorem kt5 : kindT Try.prog 5 = some none := by kernel_rfl
theorem kt64 : kindT Try.prog 64 = some (some 7) := by kernel_rfl
theorem kt66 : kindT Try.prog 66 = some (some 17) := by kernel_rfl
theorem kt88 : kindT Try.prog 88 = some none := by kernel_rfl
theorem kt9 : kindT Try.prog 9 = some none := by kernel_rfl
theorem kt92 : kindT Try.prog 92 = some none := by kernel_rfl
theorem kt98 : kindT Try.prog 98 = some none := by kernel_rfl
theorem pp31 : uPtr Try.prog 31 = true := by kernel_rfl
theorem pp98 : uPtr Try.prog 98 = true := by kernel_rfl
theorem pt66_0 : partT Try.prog 66 0 = some (0, 1) := by kernel_rfl
theorem pt66_1 : partT Try.prog 66 1 = some (1, 1) := by kernel_rfl
theorem pt66_2 : partT Try.prog 66 2 = some (2, 1) := by kernel_rfl
theorem pt82_0 : partT Try.prog 82 0 = some (0, 1) := by kernel_rfl
theorem pt94_0 : partT Try.prog 94 0 = some (0, 7) := by kernel_rfl
theorem pt94_1 : partT Try.prog 94 1 = some (7, 7) := by kernel_rfl
theorem se38 : seOf Try.prog 38 = some (3, 1, 8, #[.int .i64 0]) := by kernel_rfl
theorem se49 : seOf Try.prog 49 = some (9, 1, 16, #[.string ByteArray.empty]) := by kernel_rfl
theorem se61 : seOf Try.prog 61 = some (49, 1, 24, #[.slice none 0 0]) := by kernel_rfl
theorem se88 : seOf Try.prog 88 = some (5, 1, 1, #[.int .u8 0]) := by kernel_rfl
theorem se89 : seOf Try.prog 89 = some (92, 1, 8, #[.pointer none]) := by kernel_rfl
theorem sf88 : uStr Try.prog 88 = false := by kernel_rfl
theorem st9 : uStr Try.prog 9 = true := by kernel_rfl
theorem ua64 : uArr Try.prog 64 = some (7, 1) := by kernel_rfl
theorem ua93 : uArr Try.prog 93 = some (17, 1) := by kernel_rfl
theorem ui114 : (Try.prog.underlying 114).isSome = true := by kernel_rfl
theorem ui3 : (Try.prog.underlying 3).isSome = true := by kernel_rfl
theorem ui5 : (Try.prog.underlying 5).isSome = true := by kernel_rfl
theorem ui52 : (Try.prog.underlying 52).isSome = true := by kernel_rfl
theorem ui79 : (Try.prog.underlying 79).isSome = true := by kernel_rfl
theorem ui88 : (Try.prog.underlying 88).isSome = true := by kernel_rfl
theorem ui9 : (Try.prog.underlying 9).isSome = true := by kernel_rfl
theorem ui98 : (Try.prog.underlying 98).isSome = true := by kernel_rfl
theorem us38 : uSlice Try.prog 38 = some (3, 1) := by kernel_rfl
theorem us49 : uSlice Try.prog 49 = some (9, 1) := by kernel_rfl
theorem us61 : uSlice Try.prog 61 = some (49, 1) := by kernel_rfl
theorem us88 : uSlice Try.prog 88 = some (5, 1) := by kernel_rfl
theorem us89 : uSlice Try.prog 89 = some (92, 1) := by kernel_rfl
theorem zt100 : zeroT Try.prog 100 = some #[.pointer none, .slice none 0 0] := by kernel_rfl
theorem zt64 : zeroT Try.prog 64 = some #[.int .i64 0, .int .i64 0, .int .i64 0, .int .i64 0, .int .i64 0, .int .i64 0, .int .i64 0] := by kernel_rfl
theorem zt66 : zeroT Try.prog 66 = some #[.int .i64 0, .int .i64 0, .int .i64 0, .int .i64 0, .int .i64 0, .int .i64 0, .int .i64 0, .int .i64 0, .int .i64 0, .int .i64 0, .int .i64 0, .int .i64 0, .int .i64 0, .int .i64 0, .int .i64 0, .int .i64 0, .int .i64 0] := by kernel_rfl
theorem zt82 : zeroT Try.prog 82 = some #[.string ByteArray.empty, .int .i64 0] := by kernel_rfl
theorem zt93 : zeroT Try.prog 93 = some #[.int .i64 0, .int .i64 0, .int .i64 0, .int .i64 0, .int .i64 0, .int .i64 0, .int .i64 0, .int .i64 0, .int .i64 0, .int .i64 0, .int .i64 0, .int .i64 0, .int .i64 0, .int .i64 0, .int .i64 0, .int .i64 0, .int .i64 0] := by kernel_rfl
theorem zt94 : zeroT Try.prog 94 = some #[.int .i64 0, .int .i64 0, .int .i64 0, .int .i64 0, .int .i64 0, .int .i64 0, .int .i64 0, .int .i64 0, .int .i64 0, .int .i64 0, .int .i64 0, .int .i64 0, .int .i64 0, .int .i64 0] := by kernel_rfl
theorem cl3 : callable Try.prog 3 = true := by kernel_rfl
theorem cl4 : callable Try.prog 4 = true := by kernel_rfl
theorem cl5 : callable Try.prog 5 = true := by kernel_rfl
theorem cl6 : callable Try.prog 6 = true := by kernel_rfl
theorem cl7 : callable Try.prog 7 = true := by kernel_rfl
theorem cl8 : callable Try.prog 8 = true := by kernel_rfl
theorem cl9 : callable Try.prog 9 = true := by kernel_rfl
theorem cl10 : callable Try.prog 10 = true := by kernel_rfl
theorem cl11 : callable Try.prog 11 = true := by kernel_rfl
theorem cl12 : callable Try.prog 12 = true := by kernel_rfl
theorem cl13 : callable Try.prog 13 = true := by kernel_rfl
theorem cl14 : callable Try.prog 14 = true := by kernel_rfl
theorem cl15 : callable Try.prog 15 = true := by kernel_rfl
theorem cl16 : callable Try.prog 16 = true := by kernel_rfl
theorem cl17 : callable Try.prog 17 = true := by kernel_rfl
theorem cl18 : callable Try.prog 18 = true := by kernel_rfl
theorem cl19 : callable Try.prog 19 = true := by kernel_rfl
theorem cl20 : callable Try.prog 20 = true := by kernel_rfl
theorem cl21 : callable Try.prog 21 = true := by kernel_rfl
theorem cl22 : callable Try.prog 22 = true := by kernel_rfl
theorem cl23 : callable Try.prog 23 = true := by kernel_rfl
theorem cl24 : callable Try.prog 24 = true := by kernel_rfl
theorem cl25 : callable Try.prog 25 = true := by kernel_rfl
theorem cl26 : callable Try.prog 26 = true := by kernel_rfl
theorem cl27 : callable Try.prog 27 = true := by kernel_rfl
theorem cl28 : callable Try.prog 28 = true := by kernel_rfl
theorem cl29 : callable Try.prog 29 = true := by kernel_rfl
theorem cl30 : callable Try.prog 30 = true := by kernel_rfl
theorem cl31 : callable Try.prog 31 = true := by kernel_rfl
theorem cl32 : callable Try.prog 32 = true := by kernel_rfl
theorem cl33 : callable Try.prog 33 = true := by kernel_rfl
theorem cl34 : callable Try.prog 34 = true := by kernel_rfl
theorem cl35 : callable Try.prog 35 = true := by kernel_rfl
theorem cl36 : callable Try.prog 36 = true := by kernel_rfl
theorem cl37 : callable Try.prog 37 = true := by kernel_rfl
theorem cl38 : callable Try.prog 38 = true := by kernel_rfl
theorem cl39 : callable Try.prog 39 = true := by kernel_rfl
theorem cl40 : callable Try.prog 40 = true := by kernel_rfl
theorem cl41 : callable Try.prog 41 = true := by kernel_rfl
theorem cl42 : callable Try.prog 42 = true := by kernel_rfl
theorem cl43 : callable Try.prog 43 = true := by kernel_rfl
theorem cl44 : callable Try.prog 44 = true := by kernel_rfl
theorem cl45 : callable Try.prog 45 = true := by kernel_rfl
theorem cl46 : callable Try.prog 46 = true := by kernel_rfl
theorem cl47 : callable Try.prog 47 = true := by kernel_rfl
theorem cl48 : callable Try.prog 48 = true := by kernel_rfl
theorem cl49 : callable Try.prog 49 = true := by kernel_rfl
theorem cl50 : callable Try.prog 50 = true := by kernel_rfl
theorem cl51 : callable Try.prog 51 = true := by kernel_rfl
theorem cl52 : callable Try.prog 52 = true := by kernel_rfl
theorem cl53 : callable Try.prog 53 = true := by kernel_rfl
theorem cl54 : callable Try.prog 54 = true := by kernel_rfl
theorem cl55 : callable Try.prog 55 = true := by kernel_rfl
theorem cl56 : callable Try.prog 56 = true := by kernel_rfl
theorem cl57 : callable Try.prog 57 = true := by kernel_rfl
theorem cl58 : callable Try.prog 58 = true := by kernel_rfl
theorem cl59 : callable Try.prog 59 = true := by kernel_rfl
theorem cl60 : callable Try.prog 60 = true := by kernel_rfl
theorem cl61 : callable Try.prog 61 = true := by kernel_rfl
theorem cl62 : callable Try.prog 62 = true := by kernel_rfl
theorem cl63 : callable Try.prog 63 = true := by kernel_rfl
theorem cl64 : callable Try.prog 64 = true := by kernel_rfl
theorem cl65 : callable Try.prog 65 = true := by kernel_rfl
theorem cl66 : callable Try.prog 66 = true := by kernel_rfl
theorem cl67 : callable Try.prog 67 = true := by kernel_rfl
theorem cl68 : callable Try.prog 68 = true := by kernel_rfl
theorem cl69 : callable Try.prog 69 = true := by kernel_rfl
theorem cl70 : callable Try.prog 70 = true := by kernel_rfl
theorem cl71 : callable Try.prog 71 = true := by kernel_rfl
theorem cl72 : callable Try.prog 72 = true := by kernel_rfl
theorem cl73 : callable Try.prog 73 = true := by kernel_rfl
theorem cl74 : callable Try.prog 74 = true := by kernel_rfl
end Go.Proofs.Ytppnicpbncfhnaa
