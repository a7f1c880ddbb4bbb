/- Facts on the types of the program that the walks ask for: written by a program. -/
import Derived.Test.YtplpklikapkloaaAz
import Derived.Test.YtplpklikapkloaaProg
import Derived.KernelRfl
namespace Go.Proofs.Ytplpklikapkloaa
open Go.Abs
@[go_sem] theorem T.arA_40 : arA Try.prog 40 = some (4, 1) := by kernel_rfl
@[go_sem] theorem T.arA_49 : arA Try.prog 49 = some (2, 1) := by kernel_rfl
@[go_sem] theorem T.arA_56 : arA Try.prog 56 = some (3, 1) := by kernel_rfl
@[go_sem] theorem T.arV_82 : arV Try.prog 82 = some (12, false, 1) := by kernel_rfl
@[go_sem] theorem T.boolT_4 : boolT Try.prog 4 = true := by kernel_rfl
@[go_sem] theorem T.eqA_26 : eqA Try.prog 26 = some [.i, .i] := by kernel_rfl
@[go_sem] theorem T.eqA_28 : eqA Try.prog 28 = some [.i, .i, .i, .b, .i, .i] := by kernel_rfl
@[go_sem] theorem T.eqA_42 : eqA Try.prog 42 = some [.i, .i, .i, .i] := by kernel_rfl
@[go_sem] theorem T.fieldA_26_0 : fieldA Try.prog 26 0 = some 0 := by kernel_rfl
@[go_sem] theorem T.fieldA_26_1 : fieldA Try.prog 26 1 = some 1 := by kernel_rfl
@[go_sem] theorem T.fieldA_28_0 : fieldA Try.prog 28 0 = some 0 := by kernel_rfl
@[go_sem] theorem T.fieldA_28_1 : fieldA Try.prog 28 1 = some 1 := by kernel_rfl
@[go_sem] theorem T.fieldA_28_2 : fieldA Try.prog 28 2 = some 2 := by kernel_rfl
@[go_sem] theorem T.fieldA_28_3 : fieldA Try.prog 28 3 = some 3 := by kernel_rfl
@[go_sem] theorem T.fieldA_28_4 : fieldA Try.prog 28 4 = some 4 := by kernel_rfl
@[go_sem] theorem T.fieldA_36_0 : fieldA Try.prog 36 0 = some 0 := by kernel_rfl
@[go_sem] theorem T.fieldA_36_1 : fieldA Try.prog 36 1 = some 1 := by kernel_rfl
@[go_sem] theorem T.fieldA_42_0 : fieldA Try.prog 42 0 = some 0 := by kernel_rfl
@[go_sem] theorem T.fieldA_42_3 : fieldA Try.prog 42 3 = some 3 := by kernel_rfl
@[go_sem] theorem T.intT_3 : intT Try.prog 3 = some .i64 := by kernel_rfl
@[go_sem] theorem T.intT_5 : intT Try.prog 5 = some .u8 := by kernel_rfl
@[go_sem] theorem T.intT_86 : intT Try.prog 86 = some .u64 := by kernel_rfl
@[go_sem] theorem T.intT_96 : intT Try.prog 96 = some .u32 := by kernel_rfl
@[go_sem] theorem T.intT_98 : intT Try.prog 98 = some .u64 := by kernel_rfl
@[go_sem] theorem T.intT_99 : intT Try.prog 99 = some .u64 := by kernel_rfl
@[go_sem] theorem T.isArr_22 : isArr Try.prog 22 = false := by kernel_rfl
@[go_sem] theorem T.isArr_40 : isArr Try.prog 40 = true := by kernel_rfl
@[go_sem] theorem T.isArr_49 : isArr Try.prog 49 = true := by kernel_rfl
@[go_sem] theorem T.isArr_50 : isArr Try.prog 50 = false := by kernel_rfl
@[go_sem] theorem T.isArr_56 : isArr Try.prog 56 = true := by kernel_rfl
@[go_sem] theorem T.isSlT_22 : isSlT Try.prog 22 = true := by kernel_rfl
@[go_sem] theorem T.isSlT_26 : isSlT Try.prog 26 = false := by kernel_rfl
@[go_sem] theorem T.isSlT_28 : isSlT Try.prog 28 = false := by kernel_rfl
@[go_sem] theorem T.isSlT_3 : isSlT Try.prog 3 = false := by kernel_rfl
@[go_sem] theorem T.isSlT_32 : isSlT Try.prog 32 = false := by kernel_rfl
@[go_sem] theorem T.isSlT_4 : isSlT Try.prog 4 = false := by kernel_rfl
@[go_sem] theorem T.isSlT_42 : isSlT Try.prog 42 = false := by kernel_rfl
@[go_sem] theorem T.isSlT_86 : isSlT Try.prog 86 = false := by kernel_rfl
@[go_sem] theorem T.isSlT_88 : isSlT Try.prog 88 = false := by kernel_rfl
@[go_sem] theorem T.isSlT_96 : isSlT Try.prog 96 = false := by kernel_rfl
@[go_sem] theorem T.isSlT_98 : isSlT Try.prog 98 = false := by kernel_rfl
@[go_sem] theorem T.isSlT_99 : isSlT Try.prog 99 = false := by kernel_rfl
@[go_sem] theorem T.lenT_22 : lenT Try.prog 22 = 1 := by kernel_rfl
@[go_sem] theorem T.lenT_50 : lenT Try.prog 50 = 1 := by kernel_rfl
@[go_sem] theorem T.placesA_26 : placesA Try.prog 26 = some ([(0, 1), (1, 1)], [.int .i64 0, .int .i64 0]) := by kernel_rfl
@[go_sem] theorem T.placesA_28 : placesA Try.prog 28 = some ([(0, 1), (1, 1), (2, 1), (3, 1), (4, 2)], [.int .i64 0, .int .i64 0, .int .i64 0, .bool false, .int .i64 0, .int .i64 0]) := by kernel_rfl
@[go_sem] theorem T.placesA_36 : placesA Try.prog 36 = some ([(0, 1), (1, 1)], [.int .i64 0, .int .i64 0]) := by kernel_rfl
@[go_sem] theorem T.placesA_42 : placesA Try.prog 42 = some ([(0, 1), (1, 1), (2, 1), (3, 1)], [.int .i64 0, .int .i64 0, .int .i64 0, .int .i64 0]) := by kernel_rfl
@[go_sem] theorem T.placesA_82 : placesA Try.prog 82 = some ([(0, 1), (1, 1), (2, 1), (3, 1), (4, 1), (5, 1), (6, 1), (7, 1), (8, 1), (9, 1), (10, 1), (11, 1)], [.int .i64 0, .int .i64 0, .int .i64 0, .int .i64 0, .int .i64 0, .int .i64 0, .int .i64 0, .int .i64 0, .int .i64 0, .int .i64 0, .int .i64 0, .int .i64 0]) := by kernel_rfl
@[go_sem] theorem T.slA_22 : slA Try.prog 22 = some (28, 6) := by kernel_rfl
@[go_sem] theorem T.slA_50 : slA Try.prog 50 = some (26, 2) := by kernel_rfl
@[go_sem] theorem T.slB_22 : slB Try.prog 22 = some (28, 6, 48, [.int .i64 0, .int .i64 0, .int .i64 0, .bool false, .int .i64 0, .int .i64 0]) := by kernel_rfl
@[go_sem] theorem T.slB_50 : slB Try.prog 50 = some (26, 2, 16, [.int .i64 0, .int .i64 0]) := by kernel_rfl
@[go_sem] theorem T.strT_3 : strT Try.prog 3 = false := by kernel_rfl
@[go_sem] theorem T.strT_5 : strT Try.prog 5 = false := by kernel_rfl
@[go_sem] theorem T.strT_86 : strT Try.prog 86 = false := by kernel_rfl
@[go_sem] theorem T.strT_9 : strT Try.prog 9 = true := by kernel_rfl
@[go_sem] theorem T.strT_96 : strT Try.prog 96 = false := by kernel_rfl
@[go_sem] theorem T.strT_98 : strT Try.prog 98 = false := by kernel_rfl
@[go_sem] theorem T.strT_99 : strT Try.prog 99 = false := by kernel_rfl
@[go_sem] theorem T.tyA_22 : tyA Try.prog 22 = some (false, 1) := by kernel_rfl
@[go_sem] theorem T.tyA_26 : tyA Try.prog 26 = some (true, 2) := by kernel_rfl
@[go_sem] theorem T.tyA_28 : tyA Try.prog 28 = some (true, 6) := by kernel_rfl
@[go_sem] theorem T.tyA_3 : tyA Try.prog 3 = some (false, 1) := by kernel_rfl
@[go_sem] theorem T.tyA_36 : tyA Try.prog 36 = some (true, 2) := by kernel_rfl
@[go_sem] theorem T.tyA_4 : tyA Try.prog 4 = some (false, 1) := by kernel_rfl
@[go_sem] theorem T.tyA_42 : tyA Try.prog 42 = some (true, 4) := by kernel_rfl
@[go_sem] theorem T.tyA_50 : tyA Try.prog 50 = some (false, 1) := by kernel_rfl
@[go_sem] theorem T.tyA_82 : tyA Try.prog 82 = some (true, 12) := by kernel_rfl
@[go_sem] theorem T.tyA_99 : tyA Try.prog 99 = some (false, 1) := by kernel_rfl
@[go_sem] theorem T.zeroA_22 : zeroA Try.prog 22 = some [.slice none 0 0] := by kernel_rfl
@[go_sem] theorem T.zeroA_26 : zeroA Try.prog 26 = some [.int .i64 0, .int .i64 0] := by kernel_rfl
@[go_sem] theorem T.zeroA_28 : zeroA Try.prog 28 = some [.int .i64 0, .int .i64 0, .int .i64 0, .bool false, .int .i64 0, .int .i64 0] := by kernel_rfl
@[go_sem] theorem T.zeroA_3 : zeroA Try.prog 3 = some [.int .i64 0] := by kernel_rfl
@[go_sem] theorem T.zeroA_36 : zeroA Try.prog 36 = some [.int .i64 0, .int .i64 0] := by kernel_rfl
@[go_sem] theorem T.zeroA_42 : zeroA Try.prog 42 = some [.int .i64 0, .int .i64 0, .int .i64 0, .int .i64 0] := by kernel_rfl
@[go_sem] theorem T.zeroA_50 : zeroA Try.prog 50 = some [.slice none 0 0] := by kernel_rfl
@[go_sem] theorem T.zeroA_82 : zeroA Try.prog 82 = some [.int .i64 0, .int .i64 0, .int .i64 0, .int .i64 0, .int .i64 0, .int .i64 0, .int .i64 0, .int .i64 0, .int .i64 0, .int .i64 0, .int .i64 0, .int .i64 0] := by kernel_rfl
@[go_sem] theorem T.zeroA_99 : zeroA Try.prog 99 = some [.int .u64 0] := by kernel_rfl
theorem T.en3 : entersB Try.prog 3 = true := by kernel_rfl
theorem T.en4 : entersB Try.prog 4 = true := by kernel_rfl
theorem T.en5 : entersB Try.prog 5 = true := by kernel_rfl
theorem T.en6 : entersB Try.prog 6 = true := by kernel_rfl
theorem T.en7 : entersB Try.prog 7 = true := by kernel_rfl
theorem T.en8 : entersB Try.prog 8 = true := by kernel_rfl
theorem T.en9 : entersB Try.prog 9 = true := by kernel_rfl
theorem T.en10 : entersB Try.prog 10 = true := by kernel_rfl
theorem T.en11 : entersB Try.prog 11 = true := by kernel_rfl
theorem T.en12 : entersB Try.prog 12 = true := by kernel_rfl
theorem T.en13 : entersB Try.prog 13 = true := by kernel_rfl
theorem T.en14 : entersB Try.prog 14 = true := by kernel_rfl
theorem T.en15 : entersB Try.prog 15 = true := by kernel_rfl
theorem T.en16 : entersB Try.prog 16 = true := by kernel_rfl
theorem T.en17 : entersB Try.prog 17 = true := by kernel_rfl
theorem T.en18 : entersB Try.prog 18 = true := by kernel_rfl
theorem T.en19 : entersB Try.prog 19 = true := by kernel_rfl
theorem T.en20 : entersB Try.prog 20 = true := by kernel_rfl
theorem T.en21 : entersB Try.prog 21 = true := by kernel_rfl
theorem T.en22 : entersB Try.prog 22 = true := by kernel_rfl
theorem T.en23 : entersB Try.prog 23 = true := by kernel_rfl
theorem T.en24 : entersB Try.prog 24 = true := by kernel_rfl
theorem T.en25 : entersB Try.prog 25 = true := by kernel_rfl
theorem T.en26 : entersB Try.prog 26 = true := by kernel_rfl
theorem T.en27 : entersB Try.prog 27 = true := by kernel_rfl
theorem T.en28 : entersB Try.prog 28 = true := by kernel_rfl
theorem T.en29 : entersB Try.prog 29 = true := by kernel_rfl
theorem T.en30 : entersB Try.prog 30 = true := by kernel_rfl
theorem T.en31 : entersB Try.prog 31 = true := by kernel_rfl
theorem T.en32 : entersB Try.prog 32 = true := by kernel_rfl
theorem T.en33 : entersB Try.prog 33 = true := by kernel_rfl
theorem T.en34 : entersB Try.prog 34 = true := by kernel_rfl
theorem T.en35 : entersB Try.prog 35 = true := by kernel_rfl
theorem T.en36 : entersB Try.prog 36 = true := by kernel_rfl
theorem T.en37 : entersB Try.prog 37 = true := by kernel_rfl
theorem T.en38 : entersB Try.prog 38 = true := by kernel_rfl
theorem T.en39 : entersB Try.prog 39 = true := by kernel_rfl
theorem T.en40 : entersB Try.prog 40 = true := by kernel_rfl
theorem T.en41 : entersB Try.prog 41 = true := by kernel_rfl
theorem T.en42 : entersB Try.prog 42 = true := by kernel_rfl
theorem T.en43 : entersB Try.prog 43 = true := by kernel_rfl
theorem T.en44 : entersB Try.prog 44 = true := by kernel_rfl
theorem T.en45 : entersB Try.prog 45 = true := by kernel_rfl
theorem T.en46 : entersB Try.prog 46 = true := by kernel_rfl
theorem T.en47 : entersB Try.prog 47 = true := by kernel_rfl
theorem T.en48 : entersB Try.prog 48 = true := by kernel_rfl
theorem T.en49 : entersB Try.prog 49 = true := by kernel_rfl
theorem T.en50 : entersB Try.prog 50 = true := by kernel_rfl
theorem T.en51 : entersB Try.prog 51 = true := by kernel_rfl
theorem T.en52 : entersB Try.prog 52 = true := by kernel_rfl
theorem T.en53 : entersB Try.prog 53 = true := by kernel_rfl
theorem T.en54 : entersB Try.prog 54 = true := by kernel_rfl
theorem T.en55 : entersB Try.prog 55 = true := by kernel_rfl
theorem T.en56 : entersB Try.prog 56 = true := by kernel_rfl
theorem T.en57 : entersB Try.prog 57 = true := by kernel_rfl
theorem T.en58 : entersB Try.prog 58 = true := by kernel_rfl
theorem T.en59 : entersB Try.prog 59 = true := by kernel_rfl
theorem T.en60 : entersB Try.prog 60 = true := by kernel_rfl
theorem T.en61 : entersB Try.prog 61 = true := by kernel_rfl
theorem T.en62 : entersB Try.prog 62 = true := by kernel_rfl
theorem T.en63 : entersB Try.prog 63 = true := by kernel_rfl
theorem T.en64 : entersB Try.prog 64 = true := by kernel_rfl
theorem T.en65 : entersB Try.prog 65 = true := by kernel_rfl
theorem T.en66 : entersB Try.prog 66 = true := by kernel_rfl
theorem T.en67 : entersB Try.prog 67 = true := by kernel_rfl
theorem T.en68 : entersB Try.prog 68 = true := by kernel_rfl
theorem T.en69 : entersB Try.prog 69 = true := by kernel_rfl
theorem T.en70 : entersB Try.prog 70 = true := by kernel_rfl
theorem T.en71 : entersB Try.prog 71 = true := by kernel_rfl
theorem T.en72 : entersB Try.prog 72 = true := by kernel_rfl
theorem T.en73 : entersB Try.prog 73 = true := by kernel_rfl
theorem T.en74 : entersB Try.prog 74 = true := by kernel_rfl
theorem T.en75 : entersB Try.prog 75 = true := by kernel_rfl
theorem T.en76 : entersB Try.prog 76 = true := by kernel_rfl
theorem T.en77 : entersB Try.prog 77 = true := by kernel_rfl
theorem T.en78 : entersB Try.prog 78 = true := by kernel_rfl
theorem T.en79 : entersB Try.prog 79 = true := by kernel_rfl
theorem T.en80 : entersB Try.prog 80 = true := by kernel_rfl
theorem T.en81 : entersB Try.prog 81 = true := by kernel_rfl
theorem T.en82 : entersB Try.prog 82 = true := by kernel_rfl
theorem T.en83 : entersB Try.prog 83 = true := by kernel_rfl
theorem T.en84 : entersB Try.prog 84 = true := by kernel_rfl
theorem T.en85 : entersB Try.prog 85 = true := by kernel_rfl
theorem T.en86 : entersB Try.prog 86 = true := by kernel_rfl
theorem T.en87 : entersB Try.prog 87 = true := by kernel_rfl
theorem T.mixed : Try.prog.follows .mixedOrders = true := by kernel_rfl
end Go.Proofs.Ytplpklikapkloaa
